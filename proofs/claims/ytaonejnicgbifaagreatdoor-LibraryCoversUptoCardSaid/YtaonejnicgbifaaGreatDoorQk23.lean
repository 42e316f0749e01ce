import Derived.Test.YtaonejnicgbifaaGreatDoorQk22
namespace Go.Proofs.YtaonejnicgbifaaGreatDoor
open Go Go.RowKit
set_option maxRecDepth 100000
set_option maxHeartbeats 16000000
theorem Sl.notB {w:World} {v:Value} {xs:List Int} {N:Nat} {cs:Array Value} (h:Sl w v xs) {t:TypeId} (hN:BlkI w N t cs) (hc:NoW cs):SlN N w v xs:=by
 obtain⟨h1,h2,q,cap,h3,h4,h5⟩:=h
 refine⟨h1,h2,q,cap,h3,h4,?_⟩
 by_cases hx:xs=[]
 ·exact .inl hx
 ·rcases h5 with h5 | ⟨b,o,e,hlt,hcc⟩
  ·exact absurd h5 hx
  ·refine .inr ⟨b,o,e,hlt,?_,hcc⟩
   rintro rfl
   exact hc _ _ ((hN.cell _).symm.trans (hcc 0 (List.length_pos_iff.2 hx)))
theorem FAt.sav {w w':World} {v:Value} {g:Bool} {n d:Int} {N:Nat} {cs:Array Value} (h:FAt w v g n d) {t:TypeId} (hN:BlkI w N t cs) (hc:NoW cs) (hs:Sav N w w'):FAt w' v g n d:=by
 obtain⟨a,b,ns,ds,h1,h2,h3,h4,h5,h6,h7⟩:=h
 exact⟨a,b,ns,ds,h1,((h2.notB hN hc).sav hs).sl,h3,h4,((h5.notB hN hc).sav hs).sl,h6,h7⟩
theorem FAt.form {w:World} {v:Value} {g:Bool} {n d:Int} (h:FAt w v g n d):∃a1 n1 k1 a2 n2 k2,v=.agg (qA g a1 n1 k1 a2 n2 k2):=by
 obtain⟨a,b,ns,ds,rfl,h2,_,_,h5,_⟩:=h
 obtain⟨q,c,rfl⟩:=h2.form
 obtain⟨q',c',rfl⟩:=h5.form
 exact⟨_,_,_,_,_,_,rfl⟩
theorem set_row:∃d,Tryz.prog.underlying 109=some d/\d.isRow=true:=⟨_,Tryz.underlying109,rfl⟩
theorem zfm:(Tryz.prog.info? 109).map (·.size)=some 9:=by kernel_rfl
theorem zds {W0 w:World} {N:Nat} {G1 G2:Bool} {X1 Y1 X2 Y2:Int} {a1 a2 b1 b2:Option Addr} {n1 k1 n2 k2 r1 s1 r2 s2:Nat} (li hh vd:Bool) (hN:W0.heap.size<=N) (h0:BlkI w N 109 zA) (h1:FAt w (.agg (qA G1 a1 n1 k1 a2 n2 k2)) G1 X1 Y1) (h2:FAt w (.agg (qA G2 b1 r1 s1 b2 r2 s2)) G2 X2 Y2) (hb:Below W0.heap.size W0 w):
  ∀w9,w9=(((((((((w.setCell ⟨N,0,none⟩ (.bool G1)).setCell ⟨N,1,none⟩ (.slice a1 n1 k1)).setCell ⟨N,2,none⟩ (.slice a2 n2 k2)).setCell ⟨N,3,none⟩ (.bool G2)).setCell ⟨N,4,none⟩ (.slice b1 r1 s1)).setCell ⟨N,5,none⟩ (.slice b2 r2 s2)).setCell ⟨N,6,none⟩ (.bool li)).setCell ⟨N,7,none⟩ (.bool hh)).setCell ⟨N,8,none⟩ (.bool vd))->
   Hid (BlkI w9 N 109 (iB G1 a1 n1 k1 a2 n2 k2 G2 b1 r1 s1 b2 r2 s2 li hh vd))/\Hid (FAt w9 (.agg (qA G1 a1 n1 k1 a2 n2 k2)) G1 X1 Y1)/\Hid (FAt w9 (.agg (qA G2 b1 r1 s1 b2 r2 s2)) G2 X2 Y2)/\Hid (Below W0.heap.size W0 w9)/\Hid (Sav N w w9):=by
 rintro w9 rfl
 obtain⟨h3,h4⟩:=ze9 h0 (.bool G1) (.slice a1 n1 k1) (.slice a2 n2 k2) (.bool G2) (.slice b1 r1 s1) (.slice b2 r2 s2) (.bool li) (.bool hh) (.bool vd)
 exact⟨h3,h1.sav h0 za0 h4,h2.sav h0 za0 h4,hb.trans (h4.below hN hb.size),h4⟩
abbrev SRf (w:World) (g1:Bool) (q1:Option Addr) (l1:Nat) (c1:Nat) (p1:Option Addr) (m1:Nat) (e1:Nat) (g2:Bool) (q2:Option Addr) (l2:Nat) (c2:Nat) (p2:Option Addr) (m2:Nat) (e2:Nat) (li:Bool) (hh:Bool):World->Prop:=fun z=>z.cell? ⟨w.heap.size,0,none⟩=some (.bool g1)/\z.cell? ⟨w.heap.size,1,none⟩=some (.slice q1 l1 c1)/\z.cell? ⟨w.heap.size,2,none⟩=some (.slice p1 m1 e1)/\z.cell? ⟨w.heap.size,3,none⟩=some (.bool g2)/\z.cell? ⟨w.heap.size,4,none⟩=some (.slice q2 l2 c2)/\z.cell? ⟨w.heap.size,5,none⟩=some (.slice p2 m2 e2)/\z.cell? ⟨w.heap.size,6,none⟩=some (.bool li)/\z.cell? ⟨w.heap.size,7,none⟩=some (.bool hh)
theorem zlg {w:World} {g1 g2 li hh:Bool} {q1 p1 q2 p2:Option Addr} {l1 c1 m1 e1 l2 c2 m2 e2:Nat} {G1 G2:Bool} {X1 Y1 X2 Y2:Int} (k1:(∀z,Below w.heap.size w z->Calls Tryz.prog 86 #[.agg (qA g1 q1 l1 c1 p1 m1 e1)] z fun e w'=>∃f,e=.returned f/\FAt w' f G1 X1 Y1/\Below z.heap.size z w')) (k2:(∀z,Below w.heap.size w z->Calls Tryz.prog 86 #[.agg (qA g2 q2 l2 c2 p2 m2 e2)] z fun e w'=>∃f,e=.returned f/\FAt w' f G2 X2 Y2/\Below z.heap.size z w')):
  Calls Tryz.prog 57 #[.agg (iA g1 q1 l1 c1 p1 m1 e1 g2 q2 l2 c2 p2 m2 e2 li hh)] w fun e w'=>∃a1 n1 k1 a2 n2 k2 b1 r1 s1 b2 r2 s2,e=.returned (.agg #[.bool G1,.slice a1 n1 k1,.slice a2 n2 k2,.bool G2,.slice b1 r1 s1,.slice b2 r2 s2,.bool li,.bool hh,.bool (!li&&(!hh&&decide (0<fcS G1 X1 Y1 G2 X2 Y2)))])/\FAt w' (.agg (qA G1 a1 n1 k1 a2 n2 k2)) G1 X1 Y1/\FAt w' (.agg (qA G2 b1 r1 s1 b2 r2 s2)) G2 X2 Y2/\Below w.heap.size w w':=by
 obtain⟨dd,hu,hd⟩:=set_row
 have hb0:Hid (Below w.heap.size w ((w.alloc (.cells (iA g1 q1 l1 c1 p1 m1 e1 g2 q2 l2 c2 p2 m2 e2 li hh) 56)).alloc (.cells zA 109))):=zah w _ _
 have h1:=zac k1
 have h2:=zac k2
 have hS0:(SRf w g1 q1 l1 c1 p1 m1 e1 g2 q2 l2 c2 p2 m2 e2 li hh) ((w.alloc (.cells (iA g1 q1 l1 c1 p1 m1 e1 g2 q2 l2 c2 p2 m2 e2 li hh) 56)).alloc (.cells zA 109)):=⟨by simp,by simp,by simp,by simp,by simp,by simp,by simp,by simp⟩
 have hz0:((w.alloc (.cells (iA g1 q1 l1 c1 p1 m1 e1 g2 q2 l2 c2 p2 m2 e2 li hh) 56)).alloc (.cells zA 109)).heap.size=w.heap.size+2:=by simp
 have hBR:Hid (BlkI ((w.alloc (.cells (iA g1 q1 l1 c1 p1 m1 e1 g2 q2 l2 c2 p2 m2 e2 li hh) 56)).alloc (.cells zA 109)) (w.heap.size+1) 109 zA):=by
  have h1:BlkI ((w.alloc (.cells (iA g1 q1 l1 c1 p1 m1 e1 g2 q2 l2 c2 p2 m2 e2 li hh) 56)).alloc (.cells zA 109)) (w.alloc (.cells (iA g1 q1 l1 c1 p1 m1 e1 g2 q2 l2 c2 p2 m2 e2 li hh) 56)).heap.size 109 zA:=heap_alloc_new _ _
  rwa [show (w.alloc (.cells (iA g1 q1 l1 c1 p1 m1 e1 g2 q2 l2 c2 p2 m2 e2 li hh) 56)).heap.size=w.heap.size+1 by simp] at h1
 obtain⟨V,hV⟩:∃V,Hid ((!li&&(!hh&&decide (0<fcS G1 X1 Y1 G2 X2 Y2)))=V):=⟨_,rfl⟩
 rw[hV.out]
 clear k1 k2
 go_enter Tryz.func57,Tryz.ntmps57
 go_upto_region 1 with fail
 generalize ((w.alloc (.cells (iA g1 q1 l1 c1 p1 m1 e1 g2 q2 l2 c2 p2 m2 e2 li hh) 56)).alloc (.cells zA 109))=W0 at*
 have hsT:w.heap.size<W0.heap.size:=by omega
 have aG:w.heap.size<W0.drew.heap.size:=hsT
 go_cut [3] from 3 to 14 (fun v3 wx=>∃N a1 n1 k1 a2 n2 k2 b1 r1 s1 b2 r2 s2,v3=.pointer (some ⟨N,0,none⟩)/\w.heap.size+2<=N/\Hid (BlkI wx N 109 (iB G1 a1 n1 k1 a2 n2 k2 G2 b1 r1 s1 b2 r2 s2 li hh false))/\Hid (FAt wx (.agg (qA G1 a1 n1 k1 a2 n2 k2)) G1 X1 Y1)/\Hid (FAt wx (.agg (qA G2 b1 r1 s1 b2 r2 s2)) G2 X2 Y2)/\Hid (Below W0.heap.size W0 wx))
 case first=>
  refine wp_region_held_drew (S:=(SRf w g1 q1 l1 c1 p1 m1 e1 g2 q2 l2 c2 p2 m2 e2 li hh)) (by kernel_rfl) hS0 (fun ah=>?_)
  refine tk 0 (.pointer (some ⟨w.heap.size,0,none⟩)) rfl ah ?_
  simp only[pz]
  refine tk 1 (.agg (qA g1 q1 l1 c1 p1 m1 e1)) rfl ah ?_
  simp only[pz]
  refine tk 3 (.pointer (some ⟨w.heap.size,3,none⟩)) rfl ah ?_
  simp only[pz]
  refine tk 4 (.agg (qA g2 q2 l2 c2 p2 m2 e2)) rfl ah ?_
  simp only[pz]
  refine tk 6 (.pointer (some ⟨w.heap.size,6,none⟩)) rfl ah ?_
  simp only[pz]
  refine tk 7 (.bool li) rfl ah ?_
  simp only[pz]
  refine tk 8 (.pointer (some ⟨w.heap.size,7,none⟩)) rfl ah ?_
  simp only[pz]
  refine tk 9 (.bool hh) rfl ah ?_
  simp only[pz]
  refine wpAnyH_ready (rs:=[2,11]) (by kernel_rfl) (by simp) ?_
  refine AllReadyH.cons rfl (fun K hK=>?_) (AllReadyH.cons rfl (fun K hK=>?_) AllReadyH.nil)
  ·go_simp
   refine(h1.out _ hb0.out.drew).mono ?_
   rintro e w11 ⟨f,rfl,hf1,hb1⟩
   obtain⟨a1,n1,k1,a2,n2,k2,rfl⟩:=hf1.form
   have H1:(SRf w g1 q1 l1 c1 p1 m1 e1 g2 q2 l2 c2 p2 m2 e2 li hh) w11:=⟨(hb1.cell (by exact aG)).trans hS0.1,(hb1.cell (by exact aG)).trans hS0.2.1,(hb1.cell (by exact aG)).trans hS0.2.2.1,(hb1.cell (by exact aG)).trans hS0.2.2.2.1,(hb1.cell (by exact aG)).trans hS0.2.2.2.2.1,(hb1.cell (by exact aG)).trans hS0.2.2.2.2.2.1,(hb1.cell (by exact aG)).trans hS0.2.2.2.2.2.2.1,(hb1.cell (by exact aG)).trans hS0.2.2.2.2.2.2.2⟩
   have lt1:w.heap.size<w11.heap.size:=Nat.lt_of_lt_of_le aG hb1.size
   have W1:Hid (Below w.heap.size w w11):=hb0.out.drew.trans (hb1.mono hb0.out.drew.size)
   have T1:Hid (Below W0.heap.size W0 w11):=(Below.refl W0.heap.size W0).drew.trans (hb1.mono (Below.refl W0.heap.size W0).drew.size)
   have F11:=zac hf1
   refine hK.out _ _ H1 (fun af=>?_)
   clear hK K ah hf1
   refine wpAnyH_ready (rs:=[5,11]) (by kernel_rfl) (by simp) ?_
   refine AllReadyH.cons rfl (fun K hK=>?_) (AllReadyH.cons rfl (fun K hK=>?_) AllReadyH.nil)
   ·go_simp
    refine(h2.out _ W1.out).mono ?_
    rintro e w12 ⟨f,rfl,hf2,hb2⟩
    obtain⟨b1,r1,s1,b2,r2,s2,rfl⟩:=hf2.form
    have H2:(SRf w g1 q1 l1 c1 p1 m1 e1 g2 q2 l2 c2 p2 m2 e2 li hh) w12:=⟨(hb2.cell (by exact lt1)).trans H1.1,(hb2.cell (by exact lt1)).trans H1.2.1,(hb2.cell (by exact lt1)).trans H1.2.2.1,(hb2.cell (by exact lt1)).trans H1.2.2.2.1,(hb2.cell (by exact lt1)).trans H1.2.2.2.2.1,(hb2.cell (by exact lt1)).trans H1.2.2.2.2.2.1,(hb2.cell (by exact lt1)).trans H1.2.2.2.2.2.2.1,(hb2.cell (by exact lt1)).trans H1.2.2.2.2.2.2.2⟩
    have lt2:w.heap.size<w12.heap.size:=Nat.lt_of_lt_of_le lt1 hb2.size
    have W2:Hid (Below w.heap.size w w12):=W1.out.trans (hb2.mono W1.out.size)
    have T2:Hid (Below W0.heap.size W0 w12):=T1.out.trans (hb2.mono T1.out.size)
    have F12:=zac (F11.out.below hb2)
    have F22:=zac hf2
    refine hK.out _ _ H2 (fun al=>?_)
    clear hK K af hf2 H1
    refine tk 10 (.agg (iB G1 a1 n1 k1 a2 n2 k2 G2 b1 r1 s1 b2 r2 s2 li hh false)) rfl al ?_
    simp only[pz]
    refine rdy 11 rfl (fun K hK=>?_)
    go_simp
    have hb3:=zaa w12 (.cells zA 109)
    have bk3:BlkI (w12.alloc (.cells zA 109)) w12.heap.size 109 zA:=heap_alloc_new _ _
    obtain⟨w13,hw3⟩:∃v,v=w12.alloc (.cells zA 109):=⟨_,rfl⟩
    rw[<-hw3] at hb3 bk3 ⊢
    clear hw3
    have H3:(SRf w g1 q1 l1 c1 p1 m1 e1 g2 q2 l2 c2 p2 m2 e2 li hh) w13:=⟨(hb3.cell (by exact lt2)).trans H2.1,(hb3.cell (by exact lt2)).trans H2.2.1,(hb3.cell (by exact lt2)).trans H2.2.2.1,(hb3.cell (by exact lt2)).trans H2.2.2.2.1,(hb3.cell (by exact lt2)).trans H2.2.2.2.2.1,(hb3.cell (by exact lt2)).trans H2.2.2.2.2.2.1,(hb3.cell (by exact lt2)).trans H2.2.2.2.2.2.2.1,(hb3.cell (by exact lt2)).trans H2.2.2.2.2.2.2.2⟩
    have lt3:w.heap.size<w13.heap.size:=Nat.lt_of_lt_of_le lt2 hb3.size
    have W3:Hid (Below w.heap.size w w13):=W2.out.trans (hb3.mono W2.out.size)
    have T3:Hid (Below W0.heap.size W0 w13):=T2.out.trans (hb3.mono T2.out.size)
    have F13:=zac (F12.out.below hb3)
    have F23:=zac (F22.out.below hb3)
    have BK3:=zac bk3
    have NN3:Hid (W0.heap.size<=w12.heap.size):=T2.out.size
    refine hK.out _ _ H3 (fun aJ=>?_)
    clear hK K al bk3 H2
    obtain⟨z0,z1,z2,z3,z4,z5,z6,z7,z8⟩:=BK3.out.c9
    have fr:∀j,w13.frozen? ⟨w12.heap.size,j,none⟩=false:=BK3.out.fr
    have hne:w.heap.size≠w12.heap.size:=by have:=NN3.out;omega
    refine rdy 12 rfl (fun K hK=>?_)
    go_simp
    obtain⟨w9,hw9⟩:∃v,v=(((((((((w13.setCell ⟨w12.heap.size,0,none⟩ (.bool G1)).setCell ⟨w12.heap.size,1,none⟩ (.slice a1 n1 k1)).setCell ⟨w12.heap.size,2,none⟩ (.slice a2 n2 k2)).setCell ⟨w12.heap.size,3,none⟩ (.bool G2)).setCell ⟨w12.heap.size,4,none⟩ (.slice b1 r1 s1)).setCell ⟨w12.heap.size,5,none⟩ (.slice b2 r2 s2)).setCell ⟨w12.heap.size,6,none⟩ (.bool li)).setCell ⟨w12.heap.size,7,none⟩ (.bool hh)).setCell ⟨w12.heap.size,8,none⟩ (.bool false)):=⟨_,rfl⟩
    rw[<-hw9]
    obtain⟨E1,E2,E3,E4,E5⟩:=zds li hh false NN3.out BK3.out F13.out F23.out T3.out w9 hw9
    clear hw9
    have H9:(SRf w g1 q1 l1 c1 p1 m1 e1 g2 q2 l2 c2 p2 m2 e2 li hh) w9:=⟨(E5.out.cell (by exact lt3) (by exact hne)).trans H3.1,(E5.out.cell (by exact lt3) (by exact hne)).trans H3.2.1,(E5.out.cell (by exact lt3) (by exact hne)).trans H3.2.2.1,(E5.out.cell (by exact lt3) (by exact hne)).trans H3.2.2.2.1,(E5.out.cell (by exact lt3) (by exact hne)).trans H3.2.2.2.2.1,(E5.out.cell (by exact lt3) (by exact hne)).trans H3.2.2.2.2.2.1,(E5.out.cell (by exact lt3) (by exact hne)).trans H3.2.2.2.2.2.2.1,(E5.out.cell (by exact lt3) (by exact hne)).trans H3.2.2.2.2.2.2.2⟩
    refine hK.out _ _ H9 (fun bu=>?_)
    clear hK K aJ
    refine wpAnyH_done (by kernel_rfl) ?_ _
    have hNN:w.heap.size+2<=w12.heap.size:=by have:=NN3.out;omega
    clear bu H9 z0 z1 z2 z3 z4 z5 z6 z7 z8 fr
    go_wp2_with fail
    go_meet
    case rel=>exact⟨_,a1,n1,k1,a2,n2,k2,b1,r1,s1,b2,r2,s2,rfl,hNN,E1,E2,E3,E4⟩
   ·go_simp
    have hb4:=zaa w11 (.cells zA 109)
    have bk4:BlkI (w11.alloc (.cells zA 109)) w11.heap.size 109 zA:=heap_alloc_new _ _
    obtain⟨w14,hw4⟩:∃v,v=w11.alloc (.cells zA 109):=⟨_,rfl⟩
    rw[<-hw4] at hb4 bk4 ⊢
    clear hw4
    have H4:(SRf w g1 q1 l1 c1 p1 m1 e1 g2 q2 l2 c2 p2 m2 e2 li hh) w14:=⟨(hb4.cell (by exact lt1)).trans H1.1,(hb4.cell (by exact lt1)).trans H1.2.1,(hb4.cell (by exact lt1)).trans H1.2.2.1,(hb4.cell (by exact lt1)).trans H1.2.2.2.1,(hb4.cell (by exact lt1)).trans H1.2.2.2.2.1,(hb4.cell (by exact lt1)).trans H1.2.2.2.2.2.1,(hb4.cell (by exact lt1)).trans H1.2.2.2.2.2.2.1,(hb4.cell (by exact lt1)).trans H1.2.2.2.2.2.2.2⟩
    have lt4:w.heap.size<w14.heap.size:=Nat.lt_of_lt_of_le lt1 hb4.size
    have W4:Hid (Below w.heap.size w w14):=W1.out.trans (hb4.mono W1.out.size)
    have T4:Hid (Below W0.heap.size W0 w14):=T1.out.trans (hb4.mono T1.out.size)
    have F14:=zac (F11.out.below hb4)
    have BK4:=zac bk4
    have NN4:Hid (W0.heap.size<=w11.heap.size):=T1.out.size
    refine hK.out _ _ H4 (fun gF=>?_)
    clear hK K af bk4 H1
    refine rdy 5 rfl (fun K hK=>?_)
    go_simp
    refine(h2.out _ W4.out).mono ?_
    rintro e w15 ⟨f,rfl,hf5,hb5⟩
    obtain⟨b1,r1,s1,b2,r2,s2,rfl⟩:=hf5.form
    have H5:(SRf w g1 q1 l1 c1 p1 m1 e1 g2 q2 l2 c2 p2 m2 e2 li hh) w15:=⟨(hb5.cell (by exact lt4)).trans H4.1,(hb5.cell (by exact lt4)).trans H4.2.1,(hb5.cell (by exact lt4)).trans H4.2.2.1,(hb5.cell (by exact lt4)).trans H4.2.2.2.1,(hb5.cell (by exact lt4)).trans H4.2.2.2.2.1,(hb5.cell (by exact lt4)).trans H4.2.2.2.2.2.1,(hb5.cell (by exact lt4)).trans H4.2.2.2.2.2.2.1,(hb5.cell (by exact lt4)).trans H4.2.2.2.2.2.2.2⟩
    have lt5:w.heap.size<w15.heap.size:=Nat.lt_of_lt_of_le lt4 hb5.size
    have W5:Hid (Below w.heap.size w w15):=W4.out.trans (hb5.mono W4.out.size)
    have T5:Hid (Below W0.heap.size W0 w15):=T4.out.trans (hb5.mono T4.out.size)
    have F15:=zac (F14.out.below hb5)
    have BK5:=zac (BK4.out.below hb5)
    have F25:=zac hf5
    refine hK.out _ _ H5 (fun b6=>?_)
    clear hK K gF hf5 H4
    refine tk 10 (.agg (iB G1 a1 n1 k1 a2 n2 k2 G2 b1 r1 s1 b2 r2 s2 li hh false)) rfl b6 ?_
    simp only[pz]
    obtain⟨z0,z1,z2,z3,z4,z5,z6,z7,z8⟩:=BK5.out.c9
    have fr:∀j,w15.frozen? ⟨w11.heap.size,j,none⟩=false:=BK5.out.fr
    have hne:w.heap.size≠w11.heap.size:=by have:=NN4.out;omega
    refine rdy 12 rfl (fun K hK=>?_)
    go_simp
    obtain⟨w9,hw9⟩:∃v,v=(((((((((w15.setCell ⟨w11.heap.size,0,none⟩ (.bool G1)).setCell ⟨w11.heap.size,1,none⟩ (.slice a1 n1 k1)).setCell ⟨w11.heap.size,2,none⟩ (.slice a2 n2 k2)).setCell ⟨w11.heap.size,3,none⟩ (.bool G2)).setCell ⟨w11.heap.size,4,none⟩ (.slice b1 r1 s1)).setCell ⟨w11.heap.size,5,none⟩ (.slice b2 r2 s2)).setCell ⟨w11.heap.size,6,none⟩ (.bool li)).setCell ⟨w11.heap.size,7,none⟩ (.bool hh)).setCell ⟨w11.heap.size,8,none⟩ (.bool false)):=⟨_,rfl⟩
    rw[<-hw9]
    obtain⟨E1,E2,E3,E4,E5⟩:=zds li hh false NN4.out BK5.out F15.out F25.out T5.out w9 hw9
    clear hw9
    have H9:(SRf w g1 q1 l1 c1 p1 m1 e1 g2 q2 l2 c2 p2 m2 e2 li hh) w9:=⟨(E5.out.cell (by exact lt5) (by exact hne)).trans H5.1,(E5.out.cell (by exact lt5) (by exact hne)).trans H5.2.1,(E5.out.cell (by exact lt5) (by exact hne)).trans H5.2.2.1,(E5.out.cell (by exact lt5) (by exact hne)).trans H5.2.2.2.1,(E5.out.cell (by exact lt5) (by exact hne)).trans H5.2.2.2.2.1,(E5.out.cell (by exact lt5) (by exact hne)).trans H5.2.2.2.2.2.1,(E5.out.cell (by exact lt5) (by exact hne)).trans H5.2.2.2.2.2.2.1,(E5.out.cell (by exact lt5) (by exact hne)).trans H5.2.2.2.2.2.2.2⟩
    refine hK.out _ _ H9 (fun bu=>?_)
    clear hK K b6
    refine wpAnyH_done (by kernel_rfl) ?_ _
    have hNN:w.heap.size+2<=w11.heap.size:=by have:=NN4.out;omega
    clear bu H9 z0 z1 z2 z3 z4 z5 z6 z7 z8 fr
    go_wp2_with fail
    go_meet
    case rel=>exact⟨_,a1,n1,k1,a2,n2,k2,b1,r1,s1,b2,r2,s2,rfl,hNN,E1,E2,E3,E4⟩
  ·go_simp
   have hb6:Below W0.drew.heap.size W0.drew ((W0.alloc (.cells zA 109)).drew):=zaa W0.drew (.cells zA 109)
   have bk6:BlkI ((W0.alloc (.cells zA 109)).drew) (w.heap.size+2) 109 zA:=by
    have hq:BlkI (W0.alloc (.cells zA 109)) W0.heap.size 109 zA:=heap_alloc_new _ _
    rw[hz0] at hq
    exact hq
   obtain⟨w16,hw6⟩:∃v,v=(W0.alloc (.cells zA 109)).drew:=⟨_,rfl⟩
   rw[<-hw6] at hb6 bk6 ⊢
   clear hw6
   have H6:(SRf w g1 q1 l1 c1 p1 m1 e1 g2 q2 l2 c2 p2 m2 e2 li hh) w16:=⟨(hb6.cell (by exact aG)).trans hS0.1,(hb6.cell (by exact aG)).trans hS0.2.1,(hb6.cell (by exact aG)).trans hS0.2.2.1,(hb6.cell (by exact aG)).trans hS0.2.2.2.1,(hb6.cell (by exact aG)).trans hS0.2.2.2.2.1,(hb6.cell (by exact aG)).trans hS0.2.2.2.2.2.1,(hb6.cell (by exact aG)).trans hS0.2.2.2.2.2.2.1,(hb6.cell (by exact aG)).trans hS0.2.2.2.2.2.2.2⟩
   have lt6:w.heap.size<w16.heap.size:=Nat.lt_of_lt_of_le aG hb6.size
   have W6:Hid (Below w.heap.size w w16):=hb0.out.drew.trans (hb6.mono hb0.out.drew.size)
   have T6:Hid (Below W0.heap.size W0 w16):=(Below.refl W0.heap.size W0).drew.trans (hb6.mono (Below.refl W0.heap.size W0).drew.size)
   have BK6:=zac bk6
   have NN6:Hid (W0.heap.size<=(w.heap.size+2)):=Nat.le_of_eq hz0
   refine hK.out _ _ H6 (fun cC=>?_)
   clear hK K ah bk6
   refine rdy 2 rfl (fun K hK=>?_)
   go_simp
   refine(h1.out _ W6.out).mono ?_
   rintro e w17 ⟨f,rfl,hf7,hb7⟩
   obtain⟨a1,n1,k1,a2,n2,k2,rfl⟩:=hf7.form
   have H7:(SRf w g1 q1 l1 c1 p1 m1 e1 g2 q2 l2 c2 p2 m2 e2 li hh) w17:=⟨(hb7.cell (by exact lt6)).trans H6.1,(hb7.cell (by exact lt6)).trans H6.2.1,(hb7.cell (by exact lt6)).trans H6.2.2.1,(hb7.cell (by exact lt6)).trans H6.2.2.2.1,(hb7.cell (by exact lt6)).trans H6.2.2.2.2.1,(hb7.cell (by exact lt6)).trans H6.2.2.2.2.2.1,(hb7.cell (by exact lt6)).trans H6.2.2.2.2.2.2.1,(hb7.cell (by exact lt6)).trans H6.2.2.2.2.2.2.2⟩
   have lt7:w.heap.size<w17.heap.size:=Nat.lt_of_lt_of_le lt6 hb7.size
   have W7:Hid (Below w.heap.size w w17):=W6.out.trans (hb7.mono W6.out.size)
   have T7:Hid (Below W0.heap.size W0 w17):=T6.out.trans (hb7.mono T6.out.size)
   have BK7:=zac (BK6.out.below hb7)
   have F17:=zac hf7
   refine hK.out _ _ H7 (fun gG=>?_)
   clear hK K cC hf7 H6
   refine rdy 5 rfl (fun K hK=>?_)
   go_simp
   refine(h2.out _ W7.out).mono ?_
   rintro e w18 ⟨f,rfl,hf8,hb8⟩
   obtain⟨b1,r1,s1,b2,r2,s2,rfl⟩:=hf8.form
   have H8:(SRf w g1 q1 l1 c1 p1 m1 e1 g2 q2 l2 c2 p2 m2 e2 li hh) w18:=⟨(hb8.cell (by exact lt7)).trans H7.1,(hb8.cell (by exact lt7)).trans H7.2.1,(hb8.cell (by exact lt7)).trans H7.2.2.1,(hb8.cell (by exact lt7)).trans H7.2.2.2.1,(hb8.cell (by exact lt7)).trans H7.2.2.2.2.1,(hb8.cell (by exact lt7)).trans H7.2.2.2.2.2.1,(hb8.cell (by exact lt7)).trans H7.2.2.2.2.2.2.1,(hb8.cell (by exact lt7)).trans H7.2.2.2.2.2.2.2⟩
   have lt8:w.heap.size<w18.heap.size:=Nat.lt_of_lt_of_le lt7 hb8.size
   have W8:Hid (Below w.heap.size w w18):=W7.out.trans (hb8.mono W7.out.size)
   have T8:Hid (Below W0.heap.size W0 w18):=T7.out.trans (hb8.mono T7.out.size)
   have BK8:=zac (BK7.out.below hb8)
   have F18:=zac (F17.out.below hb8)
   have F28:=zac hf8
   refine hK.out _ _ H8 (fun b9=>?_)
   clear hK K gG hf8 H7
   refine tk 10 (.agg (iB G1 a1 n1 k1 a2 n2 k2 G2 b1 r1 s1 b2 r2 s2 li hh false)) rfl b9 ?_
   simp only[pz]
   obtain⟨z0,z1,z2,z3,z4,z5,z6,z7,z8⟩:=BK8.out.c9
   have fr:∀j,w18.frozen? ⟨(w.heap.size+2),j,none⟩=false:=BK8.out.fr
   have hne:w.heap.size≠(w.heap.size+2):=by have:=NN6.out;omega
   refine rdy 12 rfl (fun K hK=>?_)
   go_simp
   obtain⟨w9,hw9⟩:∃v,v=(((((((((w18.setCell ⟨(w.heap.size+2),0,none⟩ (.bool G1)).setCell ⟨(w.heap.size+2),1,none⟩ (.slice a1 n1 k1)).setCell ⟨(w.heap.size+2),2,none⟩ (.slice a2 n2 k2)).setCell ⟨(w.heap.size+2),3,none⟩ (.bool G2)).setCell ⟨(w.heap.size+2),4,none⟩ (.slice b1 r1 s1)).setCell ⟨(w.heap.size+2),5,none⟩ (.slice b2 r2 s2)).setCell ⟨(w.heap.size+2),6,none⟩ (.bool li)).setCell ⟨(w.heap.size+2),7,none⟩ (.bool hh)).setCell ⟨(w.heap.size+2),8,none⟩ (.bool false)):=⟨_,rfl⟩
   rw[<-hw9]
   obtain⟨E1,E2,E3,E4,E5⟩:=zds li hh false NN6.out BK8.out F18.out F28.out T8.out w9 hw9
   clear hw9
   have H9:(SRf w g1 q1 l1 c1 p1 m1 e1 g2 q2 l2 c2 p2 m2 e2 li hh) w9:=⟨(E5.out.cell (by exact lt8) (by exact hne)).trans H8.1,(E5.out.cell (by exact lt8) (by exact hne)).trans H8.2.1,(E5.out.cell (by exact lt8) (by exact hne)).trans H8.2.2.1,(E5.out.cell (by exact lt8) (by exact hne)).trans H8.2.2.2.1,(E5.out.cell (by exact lt8) (by exact hne)).trans H8.2.2.2.2.1,(E5.out.cell (by exact lt8) (by exact hne)).trans H8.2.2.2.2.2.1,(E5.out.cell (by exact lt8) (by exact hne)).trans H8.2.2.2.2.2.2.1,(E5.out.cell (by exact lt8) (by exact hne)).trans H8.2.2.2.2.2.2.2⟩
   refine hK.out _ _ H9 (fun bu=>?_)
   clear hK K b9
   refine wpAnyH_done (by kernel_rfl) ?_ _
   have hNN:w.heap.size+2<=(w.heap.size+2):=by have:=NN6.out;omega
   clear bu H9 z0 z1 z2 z3 z4 z5 z6 z7 z8 fr
   go_wp2_with fail
   go_meet
   case rel=>exact⟨_,a1,n1,k1,a2,n2,k2,b1,r1,s1,b2,r2,s2,rfl,hNN,E1,E2,E3,E4⟩
 case rest=>
  obtain⟨N,a1,n1,k1,a2,n2,k2,b1,r1,s1,b2,r2,s2,rfl,hN,E1,E2,E3,E4⟩:=hcut
  have c0:=E1.out.cell 0
  have c1':=E1.out.cell 1
  have c2':=E1.out.cell 2
  have c3:=E1.out.cell 3
  have c4:=E1.out.cell 4
  have c5:=E1.out.cell 5
  have c6:wc.cell? ⟨N,6,none⟩=some (.bool li):=E1.out.cell 6
  have c7:wc.cell? ⟨N,7,none⟩=some (.bool hh):=E1.out.cell 7
  have c8:wc.cell? ⟨N,8,none⟩=some (.bool false):=E1.out.cell 8
  have fr:∀j,wc.frozen? ⟨N,j,none⟩=false:=E1.out.fr
  have hR1:Hid (BlkI wc (w.heap.size+1) 109 zA):=hBR.out.below E4.out
  have hNe:N≠w.heap.size+1:=by omega
  have gH:w.heap.size+1≠N:=by omega
  clear h1 h2 hS0
  have hW3:Below w.heap.size w wc:=hb0.out.trans (E4.out.mono hb0.out.size)
  cases li with
  | true=>
   have hVf:V=false:=by rw[<-hV.out];rfl
   subst hVf
   clear hV
   go_upto_region 3 with fail
   obtain⟨w8,hw8⟩:∃v,v=wc.setCell ⟨N,8,none⟩ (.bool false):=⟨_,rfl⟩
   rw[<-hw8]
   have J8:BlkI w8 N 109 (iB G1 a1 n1 k1 a2 n2 k2 G2 b1 r1 s1 b2 r2 s2 true hh false):=by rw[hw8];exact E1.out.set 8 (.bool false)
   have sv:Sav N wc w8:=by rw[hw8];exact(Sav.of (Below.refl _ _)).setCell 8 _
   have A8:FAt w8 (.agg (qA G1 a1 n1 k1 a2 n2 k2)) G1 X1 Y1:=E2.out.sav E1.out za0 sv
   have B8:FAt w8 (.agg (qA G2 b1 r1 s1 b2 r2 s2)) G2 X2 Y2:=E3.out.sav E1.out za0 sv
   have R8:BlkI w8 (w.heap.size+1) 109 zA:=hR1.out.sav sv gH
   have W8:Below w.heap.size w w8:=hW3.trans (sv.below (by omega) hW3.size)
   clear hw8
   obtain⟨y0,y1,y2,y3,y4,y5,y6,y7,y8⟩:=J8.c9
   obtain⟨z0,z1,z2,z3,z4,z5,z6,z7,z8⟩:=R8.c9
   have frr:∀j,w8.frozen? ⟨w.heap.size+1,j,none⟩=false:=R8.fr
   clear c0 c1' c2' c3 c4 c5 c6 c7 c8 fr
   have R8':=zac R8
   have A8':=zac A8
   have B8':=zac B8
   have W8':Hid (Below w.heap.size w w8):=W8
   clear R8 A8 B8 W8 J8 sv
   go_wp2_with fail
   obtain⟨E5,E6,E7,E8,_⟩:=zds (W0:=w) true hh false (Nat.le_succ w.heap.size) R8'.out A8'.out B8'.out W8'.out _ rfl
   refine bodyPost_ret (zae rfl _ _ (w.heap.size+1) _ dd rfl (BlkI.row E5.out) hu hd zfm) rfl ?_
   exact⟨a1,n1,k1,a2,n2,k2,b1,r1,s1,b2,r2,s2,rfl,E6.out,E7.out,E8.out⟩
  | false=>
   cases hh with
   | true=>
    have hVf:V=false:=by rw[<-hV.out];rfl
    subst hVf
    clear hV
    go_upto_region 3 with fail
    obtain⟨w8,hw8⟩:∃v,v=wc.setCell ⟨N,8,none⟩ (.bool false):=⟨_,rfl⟩
    rw[<-hw8]
    have J8:BlkI w8 N 109 (iB G1 a1 n1 k1 a2 n2 k2 G2 b1 r1 s1 b2 r2 s2 false true false):=by rw[hw8];exact E1.out.set 8 (.bool false)
    have sv:Sav N wc w8:=by rw[hw8];exact(Sav.of (Below.refl _ _)).setCell 8 _
    have A8:FAt w8 (.agg (qA G1 a1 n1 k1 a2 n2 k2)) G1 X1 Y1:=E2.out.sav E1.out za0 sv
    have B8:FAt w8 (.agg (qA G2 b1 r1 s1 b2 r2 s2)) G2 X2 Y2:=E3.out.sav E1.out za0 sv
    have R8:BlkI w8 (w.heap.size+1) 109 zA:=hR1.out.sav sv gH
    have W8:Below w.heap.size w w8:=hW3.trans (sv.below (by omega) hW3.size)
    clear hw8
    obtain⟨y0,y1,y2,y3,y4,y5,y6,y7,y8⟩:=J8.c9
    obtain⟨z0,z1,z2,z3,z4,z5,z6,z7,z8⟩:=R8.c9
    have frr:∀j,w8.frozen? ⟨w.heap.size+1,j,none⟩=false:=R8.fr
    clear c0 c1' c2' c3 c4 c5 c6 c7 c8 fr
    have R8':=zac R8
    have A8':=zac A8
    have B8':=zac B8
    have W8':Hid (Below w.heap.size w w8):=W8
    clear R8 A8 B8 W8 J8 sv
    go_wp2_with fail
    obtain⟨E5,E6,E7,E8,_⟩:=zds (W0:=w) false true false (Nat.le_succ w.heap.size) R8'.out A8'.out B8'.out W8'.out _ rfl
    refine bodyPost_ret (zae rfl _ _ (w.heap.size+1) _ dd rfl (BlkI.row E5.out) hu hd zfm) rfl ?_
    exact⟨a1,n1,k1,a2,n2,k2,b1,r1,s1,b2,r2,s2,rfl,E6.out,E7.out,E8.out⟩
   | false=>
    have aU:=zfq E2.out E3.out
    obtain⟨C,hC⟩:∃C,Hid (fcS G1 X1 Y1 G2 X2 Y2=C):=⟨_,rfl⟩
    rw[hC.out] at aU
    have ev:decide (0<C)=V:=by rw[<-hC.out];exact hV.out
    have ev':decide (C > 0)=V:=ev
    clear hV hC
    go_upto_region 3 with(go_at_call 58;refine aU.mono ?_;rintro e wk ⟨rfl,hbk⟩
                          have Ek:=zac (E1.out.below hbk)
                          have Fk:=zac (E2.out.below hbk)
                          have Gk:=zac (E3.out.below hbk)
                          have Rk:=zac (hR1.out.below hbk)
                          have Wk:Below w.heap.size w wk:=hW3.trans (hbk.mono hW3.size)
                          have ck:wk.cell? ⟨N,8,none⟩=some (.bool false):=Ek.out.cell 8
                          have fk:∀j,wk.frozen? ⟨N,j,none⟩=false:=Ek.out.fr
                          clear hbk aU)
    clear ev ev' ck fk
    obtain⟨w8,hw8⟩:∃v,v=wk.setCell ⟨N,8,none⟩ (.bool V):=⟨_,rfl⟩
    rw[<-hw8]
    have J8:BlkI w8 N 109 (iB G1 a1 n1 k1 a2 n2 k2 G2 b1 r1 s1 b2 r2 s2 false false V):=by rw[hw8];exact Ek.out.set 8 (.bool V)
    have sv:Sav N wk w8:=by rw[hw8];exact(Sav.of (Below.refl _ _)).setCell 8 _
    have A8:FAt w8 (.agg (qA G1 a1 n1 k1 a2 n2 k2)) G1 X1 Y1:=Fk.out.sav Ek.out za0 sv
    have B8:FAt w8 (.agg (qA G2 b1 r1 s1 b2 r2 s2)) G2 X2 Y2:=Gk.out.sav Ek.out za0 sv
    have R8:BlkI w8 (w.heap.size+1) 109 zA:=Rk.out.sav sv gH
    have W8:Below w.heap.size w w8:=Wk.trans (sv.below (by omega) Wk.size)
    clear hw8
    obtain⟨y0,y1,y2,y3,y4,y5,y6,y7,y8⟩:=J8.c9
    obtain⟨z0,z1,z2,z3,z4,z5,z6,z7,z8⟩:=R8.c9
    have frr:∀j,w8.frozen? ⟨w.heap.size+1,j,none⟩=false:=R8.fr
    clear c0 c1' c2' c3 c4 c5 c6 c7 c8 fr
    have R8':=zac R8
    have A8':=zac A8
    have B8':=zac B8
    have W8':Hid (Below w.heap.size w w8):=W8
    clear R8 A8 B8 W8 J8 sv
    go_wp2_with fail
    obtain⟨E5,E6,E7,E8,_⟩:=zds (W0:=w) false false V (Nat.le_succ w.heap.size) R8'.out A8'.out B8'.out W8'.out _ rfl
    refine bodyPost_ret (zae rfl _ _ (w.heap.size+1) _ dd rfl (BlkI.row E5.out) hu hd zfm) rfl ?_
    exact⟨a1,n1,k1,a2,n2,k2,b1,r1,s1,b2,r2,s2,rfl,E6.out,E7.out,E8.out⟩
abbrev SRg (w:World) (g1:Bool) (q1:Option Addr) (l1:Nat) (c1:Nat) (p1:Option Addr) (m1:Nat) (e1:Nat) (g2:Bool) (q2:Option Addr) (l2:Nat) (c2:Nat) (p2:Option Addr) (m2:Nat) (e2:Nat) (li:Bool) (hh:Bool):World->Prop:=fun z=>z.cell? ⟨w.heap.size,0,none⟩=some (.bool g1)/\z.cell? ⟨w.heap.size,1,none⟩=some (.slice q1 l1 c1)/\z.cell? ⟨w.heap.size,2,none⟩=some (.slice p1 m1 e1)/\z.cell? ⟨w.heap.size,3,none⟩=some (.bool g2)/\z.cell? ⟨w.heap.size,4,none⟩=some (.slice q2 l2 c2)/\z.cell? ⟨w.heap.size,5,none⟩=some (.slice p2 m2 e2)/\z.cell? ⟨w.heap.size,6,none⟩=some (.bool li)/\z.cell? ⟨w.heap.size,7,none⟩=some (.bool hh)
theorem zfn {w:World} {g1 g2 li hh:Bool} {q1 p1 q2 p2:Option Addr} {l1 c1 m1 e1 l2 c2 m2 e2:Nat} (k1:(∀z,Below w.heap.size w z->Calls Tryz.prog 86 #[.agg (qA g1 q1 l1 c1 p1 m1 e1)] z fun e w'=>e=.panicked [{ v:=.iface 141 (.agg #[.int .i64 1]),recovered:=false }]/\Below z.heap.size z w')):
  Calls Tryz.prog 57 #[.agg (iA g1 q1 l1 c1 p1 m1 e1 g2 q2 l2 c2 p2 m2 e2 li hh)] w fun e w'=>e=.panicked [{ v:=.iface 141 (.agg #[.int .i64 1]),recovered:=false }]/\Below w.heap.size w w':=by
 have hb0:Hid (Below w.heap.size w ((w.alloc (.cells (iA g1 q1 l1 c1 p1 m1 e1 g2 q2 l2 c2 p2 m2 e2 li hh) 56)).alloc (.cells zA 109))):=zah w _ _
 have h1:=zac k1
 have hS0:(SRg w g1 q1 l1 c1 p1 m1 e1 g2 q2 l2 c2 p2 m2 e2 li hh) ((w.alloc (.cells (iA g1 q1 l1 c1 p1 m1 e1 g2 q2 l2 c2 p2 m2 e2 li hh) 56)).alloc (.cells zA 109)):=⟨by simp,by simp,by simp,by simp,by simp,by simp,by simp,by simp⟩
 have hz0:((w.alloc (.cells (iA g1 q1 l1 c1 p1 m1 e1 g2 q2 l2 c2 p2 m2 e2 li hh) 56)).alloc (.cells zA 109)).heap.size=w.heap.size+2:=by simp
 clear k1
 go_enter Tryz.func57,Tryz.ntmps57
 go_upto_region 1 with fail
 generalize ((w.alloc (.cells (iA g1 q1 l1 c1 p1 m1 e1 g2 q2 l2 c2 p2 m2 e2 li hh) 56)).alloc (.cells zA 109))=W0 at*
 have aG:w.heap.size<W0.drew.heap.size:=by show w.heap.size<W0.heap.size;omega
 refine wp_region_held_drew (S:=(SRg w g1 q1 l1 c1 p1 m1 e1 g2 q2 l2 c2 p2 m2 e2 li hh)) (by kernel_rfl) hS0 (fun ah=>?_)
 refine tk 0 (.pointer (some ⟨w.heap.size,0,none⟩)) rfl ah ?_
 simp only[pz]
 refine tk 1 (.agg (qA g1 q1 l1 c1 p1 m1 e1)) rfl ah ?_
 simp only[pz]
 refine tk 3 (.pointer (some ⟨w.heap.size,3,none⟩)) rfl ah ?_
 simp only[pz]
 refine tk 4 (.agg (qA g2 q2 l2 c2 p2 m2 e2)) rfl ah ?_
 simp only[pz]
 refine tk 6 (.pointer (some ⟨w.heap.size,6,none⟩)) rfl ah ?_
 simp only[pz]
 refine tk 7 (.bool li) rfl ah ?_
 simp only[pz]
 refine tk 8 (.pointer (some ⟨w.heap.size,7,none⟩)) rfl ah ?_
 simp only[pz]
 refine tk 9 (.bool hh) rfl ah ?_
 simp only[pz]
 refine wpAnyH_ready (rs:=[2,11]) (by kernel_rfl) (by simp) ?_
 refine AllReadyH.cons rfl (fun K hK=>?_) (AllReadyH.cons rfl (fun K hK=>?_) AllReadyH.nil)
 ·go_simp
  refine(h1.out _ hb0.out.drew).mono ?_
  rintro e w11 ⟨rfl,hb1⟩
  exact⟨rfl,rfl,hb0.out.drew.trans (hb1.mono hb0.out.drew.size)⟩
 ·go_simp
  have hb2:Below W0.drew.heap.size W0.drew ((W0.alloc (.cells zA 109)).drew):=zaa W0.drew (.cells zA 109)
  obtain⟨w12,hw2⟩:∃v,v=(W0.alloc (.cells zA 109)).drew:=⟨_,rfl⟩
  rw[<-hw2] at hb2 ⊢
  clear hw2
  have H2:(SRg w g1 q1 l1 c1 p1 m1 e1 g2 q2 l2 c2 p2 m2 e2 li hh) w12:=⟨(hb2.cell (by exact aG)).trans hS0.1,(hb2.cell (by exact aG)).trans hS0.2.1,(hb2.cell (by exact aG)).trans hS0.2.2.1,(hb2.cell (by exact aG)).trans hS0.2.2.2.1,(hb2.cell (by exact aG)).trans hS0.2.2.2.2.1,(hb2.cell (by exact aG)).trans hS0.2.2.2.2.2.1,(hb2.cell (by exact aG)).trans hS0.2.2.2.2.2.2.1,(hb2.cell (by exact aG)).trans hS0.2.2.2.2.2.2.2⟩
  have lt2:w.heap.size<w12.heap.size:=Nat.lt_of_lt_of_le aG hb2.size
  have W2:Hid (Below w.heap.size w w12):=hb0.out.drew.trans (hb2.mono hb0.out.drew.size)
  refine hK.out _ _ H2 (fun al=>?_)
  clear hK K ah
  refine rdy 2 rfl (fun K hK=>?_)
  go_simp
  refine(h1.out _ W2.out).mono ?_
  rintro e w13 ⟨rfl,hb3⟩
  exact⟨rfl,rfl,W2.out.trans (hb3.mono W2.out.size)⟩
theorem zfo {w:World} {g1 g2 li hh:Bool} {q1 p1 q2 p2:Option Addr} {l1 c1 m1 e1 l2 c2 m2 e2:Nat} {G1:Bool} {X1 Y1:Int} (k1:(∀z,Below w.heap.size w z->Calls Tryz.prog 86 #[.agg (qA g1 q1 l1 c1 p1 m1 e1)] z fun e w'=>∃f,e=.returned f/\FAt w' f G1 X1 Y1/\Below z.heap.size z w')) (k2:(∀z,Below w.heap.size w z->Calls Tryz.prog 86 #[.agg (qA g2 q2 l2 c2 p2 m2 e2)] z fun e w'=>e=.panicked [{ v:=.iface 141 (.agg #[.int .i64 1]),recovered:=false }]/\Below z.heap.size z w')):
  Calls Tryz.prog 57 #[.agg (iA g1 q1 l1 c1 p1 m1 e1 g2 q2 l2 c2 p2 m2 e2 li hh)] w fun e w'=>e=.panicked [{ v:=.iface 141 (.agg #[.int .i64 1]),recovered:=false }]/\Below w.heap.size w w':=by
 have hb0:Hid (Below w.heap.size w ((w.alloc (.cells (iA g1 q1 l1 c1 p1 m1 e1 g2 q2 l2 c2 p2 m2 e2 li hh) 56)).alloc (.cells zA 109))):=zah w _ _
 have h1:=zac k1
 have h2:=zac k2
 have hS0:(SRg w g1 q1 l1 c1 p1 m1 e1 g2 q2 l2 c2 p2 m2 e2 li hh) ((w.alloc (.cells (iA g1 q1 l1 c1 p1 m1 e1 g2 q2 l2 c2 p2 m2 e2 li hh) 56)).alloc (.cells zA 109)):=⟨by simp,by simp,by simp,by simp,by simp,by simp,by simp,by simp⟩
 have hz0:((w.alloc (.cells (iA g1 q1 l1 c1 p1 m1 e1 g2 q2 l2 c2 p2 m2 e2 li hh) 56)).alloc (.cells zA 109)).heap.size=w.heap.size+2:=by simp
 clear k1 k2
 go_enter Tryz.func57,Tryz.ntmps57
 go_upto_region 1 with fail
 generalize ((w.alloc (.cells (iA g1 q1 l1 c1 p1 m1 e1 g2 q2 l2 c2 p2 m2 e2 li hh) 56)).alloc (.cells zA 109))=W0 at*
 have aG:w.heap.size<W0.drew.heap.size:=by show w.heap.size<W0.heap.size;omega
 refine wp_region_held_drew (S:=(SRg w g1 q1 l1 c1 p1 m1 e1 g2 q2 l2 c2 p2 m2 e2 li hh)) (by kernel_rfl) hS0 (fun ah=>?_)
 refine tk 0 (.pointer (some ⟨w.heap.size,0,none⟩)) rfl ah ?_
 simp only[pz]
 refine tk 1 (.agg (qA g1 q1 l1 c1 p1 m1 e1)) rfl ah ?_
 simp only[pz]
 refine tk 3 (.pointer (some ⟨w.heap.size,3,none⟩)) rfl ah ?_
 simp only[pz]
 refine tk 4 (.agg (qA g2 q2 l2 c2 p2 m2 e2)) rfl ah ?_
 simp only[pz]
 refine tk 6 (.pointer (some ⟨w.heap.size,6,none⟩)) rfl ah ?_
 simp only[pz]
 refine tk 7 (.bool li) rfl ah ?_
 simp only[pz]
 refine tk 8 (.pointer (some ⟨w.heap.size,7,none⟩)) rfl ah ?_
 simp only[pz]
 refine tk 9 (.bool hh) rfl ah ?_
 simp only[pz]
 refine wpAnyH_ready (rs:=[2,11]) (by kernel_rfl) (by simp) ?_
 refine AllReadyH.cons rfl (fun K hK=>?_) (AllReadyH.cons rfl (fun K hK=>?_) AllReadyH.nil)
 ·go_simp
  refine(h1.out _ hb0.out.drew).mono ?_
  rintro e w11 ⟨f,rfl,hf1,hb1⟩
  obtain⟨a1,n1,k1,a2,n2,k2,rfl⟩:=hf1.form
  clear hf1
  have H1:(SRg w g1 q1 l1 c1 p1 m1 e1 g2 q2 l2 c2 p2 m2 e2 li hh) w11:=⟨(hb1.cell (by exact aG)).trans hS0.1,(hb1.cell (by exact aG)).trans hS0.2.1,(hb1.cell (by exact aG)).trans hS0.2.2.1,(hb1.cell (by exact aG)).trans hS0.2.2.2.1,(hb1.cell (by exact aG)).trans hS0.2.2.2.2.1,(hb1.cell (by exact aG)).trans hS0.2.2.2.2.2.1,(hb1.cell (by exact aG)).trans hS0.2.2.2.2.2.2.1,(hb1.cell (by exact aG)).trans hS0.2.2.2.2.2.2.2⟩
  have lt1:w.heap.size<w11.heap.size:=Nat.lt_of_lt_of_le aG hb1.size
  have W1:Hid (Below w.heap.size w w11):=hb0.out.drew.trans (hb1.mono hb0.out.drew.size)
  refine hK.out _ _ H1 (fun af=>?_)
  clear hK K ah
  refine wpAnyH_ready (rs:=[5,11]) (by kernel_rfl) (by simp) ?_
  refine AllReadyH.cons rfl (fun K hK=>?_) (AllReadyH.cons rfl (fun K hK=>?_) AllReadyH.nil)
  ·go_simp
   refine(h2.out _ W1.out).mono ?_
   rintro e w12 ⟨rfl,hb2⟩
   exact⟨rfl,rfl,W1.out.trans (hb2.mono W1.out.size)⟩
  ·go_simp
   have hb3:=zaa w11 (.cells zA 109)
   obtain⟨w13,hw3⟩:∃v,v=w11.alloc (.cells zA 109):=⟨_,rfl⟩
   rw[<-hw3] at hb3 ⊢
   clear hw3
   have H3:(SRg w g1 q1 l1 c1 p1 m1 e1 g2 q2 l2 c2 p2 m2 e2 li hh) w13:=⟨(hb3.cell (by exact lt1)).trans H1.1,(hb3.cell (by exact lt1)).trans H1.2.1,(hb3.cell (by exact lt1)).trans H1.2.2.1,(hb3.cell (by exact lt1)).trans H1.2.2.2.1,(hb3.cell (by exact lt1)).trans H1.2.2.2.2.1,(hb3.cell (by exact lt1)).trans H1.2.2.2.2.2.1,(hb3.cell (by exact lt1)).trans H1.2.2.2.2.2.2.1,(hb3.cell (by exact lt1)).trans H1.2.2.2.2.2.2.2⟩
   have lt3:w.heap.size<w13.heap.size:=Nat.lt_of_lt_of_le lt1 hb3.size
   have W3:Hid (Below w.heap.size w w13):=W1.out.trans (hb3.mono W1.out.size)
   refine hK.out _ _ H3 (fun aJ=>?_)
   clear hK K af
   refine rdy 5 rfl (fun K hK=>?_)
   go_simp
   refine(h2.out _ W3.out).mono ?_
   rintro e w14 ⟨rfl,hb4⟩
   exact⟨rfl,rfl,W3.out.trans (hb4.mono W3.out.size)⟩
 ·go_simp
  have hb5:Below W0.drew.heap.size W0.drew ((W0.alloc (.cells zA 109)).drew):=zaa W0.drew (.cells zA 109)
  obtain⟨w15,hw5⟩:∃v,v=(W0.alloc (.cells zA 109)).drew:=⟨_,rfl⟩
  rw[<-hw5] at hb5 ⊢
  clear hw5
  have H5:(SRg w g1 q1 l1 c1 p1 m1 e1 g2 q2 l2 c2 p2 m2 e2 li hh) w15:=⟨(hb5.cell (by exact aG)).trans hS0.1,(hb5.cell (by exact aG)).trans hS0.2.1,(hb5.cell (by exact aG)).trans hS0.2.2.1,(hb5.cell (by exact aG)).trans hS0.2.2.2.1,(hb5.cell (by exact aG)).trans hS0.2.2.2.2.1,(hb5.cell (by exact aG)).trans hS0.2.2.2.2.2.1,(hb5.cell (by exact aG)).trans hS0.2.2.2.2.2.2.1,(hb5.cell (by exact aG)).trans hS0.2.2.2.2.2.2.2⟩
  have lt5:w.heap.size<w15.heap.size:=Nat.lt_of_lt_of_le aG hb5.size
  have W5:Hid (Below w.heap.size w w15):=hb0.out.drew.trans (hb5.mono hb0.out.drew.size)
  refine hK.out _ _ H5 (fun b6=>?_)
  clear hK K ah
  refine rdy 2 rfl (fun K hK=>?_)
  go_simp
  refine(h1.out _ W5.out).mono ?_
  rintro e w16 ⟨f,rfl,hf6,hb6⟩
  obtain⟨a1,n1,k1,a2,n2,k2,rfl⟩:=hf6.form
  clear hf6
  have H6:(SRg w g1 q1 l1 c1 p1 m1 e1 g2 q2 l2 c2 p2 m2 e2 li hh) w16:=⟨(hb6.cell (by exact lt5)).trans H5.1,(hb6.cell (by exact lt5)).trans H5.2.1,(hb6.cell (by exact lt5)).trans H5.2.2.1,(hb6.cell (by exact lt5)).trans H5.2.2.2.1,(hb6.cell (by exact lt5)).trans H5.2.2.2.2.1,(hb6.cell (by exact lt5)).trans H5.2.2.2.2.2.1,(hb6.cell (by exact lt5)).trans H5.2.2.2.2.2.2.1,(hb6.cell (by exact lt5)).trans H5.2.2.2.2.2.2.2⟩
  have lt6:w.heap.size<w16.heap.size:=Nat.lt_of_lt_of_le lt5 hb6.size
  have W6:Hid (Below w.heap.size w w16):=W5.out.trans (hb6.mono W5.out.size)
  refine hK.out _ _ H6 (fun cC=>?_)
  clear hK K b6
  refine rdy 5 rfl (fun K hK=>?_)
  go_simp
  refine(h2.out _ W6.out).mono ?_
  rintro e w17 ⟨rfl,hb7⟩
  exact⟨rfl,rfl,W6.out.trans (hb7.mono W6.out.size)⟩
end Go.Proofs.YtaonejnicgbifaaGreatDoor
