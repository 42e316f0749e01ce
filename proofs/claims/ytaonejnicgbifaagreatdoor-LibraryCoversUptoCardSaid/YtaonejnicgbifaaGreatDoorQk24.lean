import Derived.Test.YtaonejnicgbifaaGreatDoorQk23
namespace Go.Proofs.YtaonejnicgbifaaGreatDoor
open Go Go.RowKit
theorem iv_row:∃d,Tryz.prog.underlying 56=some d/\d.isRow=true:=⟨_,Tryz.underlying56,rfl⟩
theorem zhy:(Tryz.prog.info? 56).map (·.size)=some 8:=by kernel_rfl
theorem zlx {w:World} {g1 g2 li hh:Bool} {q1 p1 q2 p2:Option Addr} {l1 c1 m1 e1 l2 c2 m2 e2:Nat} {B:Nat} {V:Bool} (_hB:B<w.heap.size) (hr:w.rangeAt B 0 [.bool g1,.slice q1 l1 c1,.slice p1 m1 e1,.bool g2,.slice q2 l2 c2,.slice p2 m2 e2,.bool li,.bool hh])
  (k:∀z,Below w.heap.size w z->Calls Tryz.prog 57 #[.agg (iA g1 q1 l1 c1 p1 m1 e1 g2 q2 l2 c2 p2 m2 e2 li hh)] z fun e w'=>∃G1 a1 n1 k1 a2 n2 k2 G2 b1 r1 s1 b2 r2 s2,e=.returned (.agg (iB G1 a1 n1 k1 a2 n2 k2 G2 b1 r1 s1 b2 r2 s2 li hh V))/\Below z.heap.size z w'):
  Calls Tryz.prog 77 #[.pointer (some ⟨B,0,none⟩)] w fun e w'=>e=.returned (.bool V)/\Below w.heap.size w w':=by
 have c0:w.cell? ⟨B,0,none⟩=some (.bool g1):=by simpa using hr 0 _ rfl
 have x1:w.cell? ⟨B,1,none⟩=some (.slice q1 l1 c1):=by simpa using hr 1 _ rfl
 have x2:w.cell? ⟨B,2,none⟩=some (.slice p1 m1 e1):=by simpa using hr 2 _ rfl
 have x3:w.cell? ⟨B,3,none⟩=some (.bool g2):=by simpa using hr 3 _ rfl
 have x4:w.cell? ⟨B,4,none⟩=some (.slice q2 l2 c2):=by simpa using hr 4 _ rfl
 have x5:w.cell? ⟨B,5,none⟩=some (.slice p2 m2 e2):=by simpa using hr 5 _ rfl
 have x6:w.cell? ⟨B,6,none⟩=some (.bool li):=by simpa using hr 6 _ rfl
 have x7:w.cell? ⟨B,7,none⟩=some (.bool hh):=by simpa using hr 7 _ rfl
 have kk:=k w (Below.refl _ _)
 go_enter Tryz.func77,Tryz.ntmps77
 go_wp2_with (go_at_call 57;refine kk.mono ?_;rintro e w5 ⟨G1,a1,n1,k1,a2,n2,k2,G2,b1,r1,s1,b2,r2,s2,rfl,hb5⟩
              have hf:∀w:World,(Instr.field 109 (.agg (iB G1 a1 n1 k1 a2 n2 k2 G2 b1 r1 s1 b2 r2 s2 li hh V)) 4).run Tryz.prog w=.ok (.bool V) w:=fun _=>by kernel_rfl)
 go_ret
 exact⟨rfl,hb5⟩
theorem zhz {w:World} {g1 g2 li hh:Bool} {q1 p1 q2 p2:Option Addr} {l1 c1 m1 e1 l2 c2 m2 e2:Nat} {B:Nat} (_hB:B<w.heap.size) (hr:w.rangeAt B 0 [.bool g1,.slice q1 l1 c1,.slice p1 m1 e1,.bool g2,.slice q2 l2 c2,.slice p2 m2 e2,.bool li,.bool hh])
  (k:∀z,Below w.heap.size w z->Calls Tryz.prog 57 #[.agg (iA g1 q1 l1 c1 p1 m1 e1 g2 q2 l2 c2 p2 m2 e2 li hh)] z fun e w'=>e=.panicked [{ v:=.iface 141 (.agg #[.int .i64 1]),recovered:=false }]/\Below z.heap.size z w'):
  Calls Tryz.prog 77 #[.pointer (some ⟨B,0,none⟩)] w fun e w'=>e=.panicked [{ v:=.iface 141 (.agg #[.int .i64 1]),recovered:=false }]/\Below w.heap.size w w':=by
 have x0:w.cell? ⟨B,0,none⟩=some (.bool g1):=by simpa using hr 0 _ rfl
 have x1:w.cell? ⟨B,1,none⟩=some (.slice q1 l1 c1):=by simpa using hr 1 _ rfl
 have x2:w.cell? ⟨B,2,none⟩=some (.slice p1 m1 e1):=by simpa using hr 2 _ rfl
 have x3:w.cell? ⟨B,3,none⟩=some (.bool g2):=by simpa using hr 3 _ rfl
 have x4:w.cell? ⟨B,4,none⟩=some (.slice q2 l2 c2):=by simpa using hr 4 _ rfl
 have x5:w.cell? ⟨B,5,none⟩=some (.slice p2 m2 e2):=by simpa using hr 5 _ rfl
 have x6:w.cell? ⟨B,6,none⟩=some (.bool li):=by simpa using hr 6 _ rfl
 have x7:w.cell? ⟨B,7,none⟩=some (.bool hh):=by simpa using hr 7 _ rfl
 have kk:=k w (Below.refl _ _)
 go_enter Tryz.func77,Tryz.ntmps77
 go_wp2_with (go_at_call 57;refine kk.mono ?_;rintro e w5 ⟨rfl,hb5⟩)
 exact⟨rfl,rfl,hb5⟩
theorem zdw {w:World} {g1 g2 li hh:Bool} {q1 p1 q2 p2:Option Addr} {l1 c1 m1 e1 l2 c2 m2 e2:Nat} {b:Bool} {y:Int}
  (k:∀z,Below w.heap.size w z->w.heap.size<z.heap.size->z.rangeAt w.heap.size 0 [.bool g1,.slice q1 l1 c1,.slice p1 m1 e1,.bool g2,.slice q2 l2 c2,.slice p2 m2 e2,.bool li,.bool hh]->Calls Tryz.prog 55 #[.func (.func 77) #[] #[.pointer (some ⟨w.heap.size,0,none⟩)]] z fun e w'=>e=.returned (.tuple #[.bool b,.int .i64 y])/\Below z.heap.size z w'):
  Calls Tryz.prog 48 #[.agg (iA g1 q1 l1 c1 p1 m1 e1 g2 q2 l2 c2 p2 m2 e2 li hh)] w fun e w'=>e=.returned (.tuple #[.bool b,.int .i64 y])/\Below w.heap.size w w':=by
 have hb0:=zaa w (.cells (iA g1 q1 l1 c1 p1 m1 e1 g2 q2 l2 c2 p2 m2 e2 li hh) 56)
 have kk:=k _ hb0 (by simp) (zbh w [.bool g1,.slice q1 l1 c1,.slice p1 m1 e1,.bool g2,.slice q2 l2 c2,.slice p2 m2 e2,.bool li,.bool hh] 56)
 have hmf:∀(fn:Fn) (first cap:Array Value) (w:World),(Instr.makeFunc fn first cap).run Tryz.prog w=.ok (.func fn first cap) w:=fun _ _ _ _=>rfl
 go_enter Tryz.func48,Tryz.ntmps48
 go_wp2_with (go_at_call 55;refine kk.mono ?_;rintro e w5 ⟨rfl,hb5⟩)
 go_ret2
 exact⟨rfl,hb0.trans (hb5.mono hb0.size)⟩
theorem zft {w:World} {g1 g2 li hh:Bool} {q1 p1 q2 p2:Option Addr} {l1 c1 m1 e1 l2 c2 m2 e2:Nat} {nu1 de1 nu2 de2:List Int} (h1:Sl w (.slice q1 l1 c1) nu1) (h2:Sl w (.slice p1 m1 e1) de1) (h3:Sl w (.slice q2 l2 c2) nu2) (h4:Sl w (.slice p2 m2 e2) de2) (b1:nu1.length<=274877906000) (b2:de1.length<=274877906000) (b3:nu2.length<=274877906000) (b4:de2.length<=274877906000) (hT:Tb w) (hL:(large (val nu1) (val de1)||large (val nu2) (val de2))=false):
  Calls Tryz.prog 57 #[.agg (iA g1 q1 l1 c1 p1 m1 e1 g2 q2 l2 c2 p2 m2 e2 li hh)] w fun e w'=>∃a1 n1 k1 a2 n2 k2 b1 r1 s1 b2 r2 s2,e=.returned (.agg #[.bool (mkG g1 (val nu1) (denI (val de1))),.slice a1 n1 k1,.slice a2 n2 k2,.bool (mkG g2 (val nu2) (denI (val de2))),.slice b1 r1 s1,.slice b2 r2 s2,.bool li,.bool hh,.bool (!li&&(!hh&&decide (0<fcS (mkG g1 (val nu1) (denI (val de1))) (mkN (val nu1) (denI (val de1))) (mkD (val nu1) (denI (val de1))) (mkG g2 (val nu2) (denI (val de2))) (mkN (val nu2) (denI (val de2))) (mkD (val nu2) (denI (val de2))))))])/\FAt w' (.agg #[.bool (mkG g1 (val nu1) (denI (val de1))),.slice a1 n1 k1,.slice a2 n2 k2]) (mkG g1 (val nu1) (denI (val de1))) (mkN (val nu1) (denI (val de1))) (mkD (val nu1) (denI (val de1)))/\FAt w' (.agg #[.bool (mkG g2 (val nu2) (denI (val de2))),.slice b1 r1 s1,.slice b2 r2 s2]) (mkG g2 (val nu2) (denI (val de2))) (mkN (val nu2) (denI (val de2))) (mkD (val nu2) (denI (val de2)))/\Below w.heap.size w w':=by
 rw[Bool.or_eq_false_iff] at hL
 exact zlg (fun z hz=>zd9 (h1.below hz) (h2.below hz) b1 b2 (hT.below hz) hL.1) (fun z hz=>zd9 (h3.below hz) (h4.below hz) b3 b4 (hT.below hz) hL.2)
theorem zeq {w:World} {g1 g2 li hh:Bool} {q1 p1 q2 p2:Option Addr} {l1 c1 m1 e1 l2 c2 m2 e2:Nat} {nu1 de1 nu2 de2:List Int} (h1:Sl w (.slice q1 l1 c1) nu1) (h2:Sl w (.slice p1 m1 e1) de1) (h3:Sl w (.slice q2 l2 c2) nu2) (h4:Sl w (.slice p2 m2 e2) de2) (b1:nu1.length<=274877906000) (b2:de1.length<=274877906000) (b3:nu2.length<=274877906000) (b4:de2.length<=274877906000) (hT:Tb w) (hL:(large (val nu1) (val de1)||large (val nu2) (val de2))=true):
  Calls Tryz.prog 57 #[.agg (iA g1 q1 l1 c1 p1 m1 e1 g2 q2 l2 c2 p2 m2 e2 li hh)] w fun e w'=>e=.panicked [{ v:=.iface 141 (.agg #[.int .i64 1]),recovered:=false }]/\Below w.heap.size w w':=by
 cases hA:large (val nu1) (val de1) with
 | true=>exact zfn (fun z hz=>zea (h1.below hz) (h2.below hz) b1 b2 (hT.below hz) hA)
 | false=>
  rw[hA,Bool.false_or] at hL
  exact zfo (fun z hz=>zd9 (h1.below hz) (h2.below hz) b1 b2 (hT.below hz) hA) (fun z hz=>zea (h3.below hz) (h4.below hz) b3 b4 (hT.below hz) hL)
theorem zjv {w:World} {g1 g2 li hh:Bool} {q1 p1 q2 p2:Option Addr} {l1 c1 m1 e1 l2 c2 m2 e2:Nat} {nu1 de1 nu2 de2:List Int} (h1:Sl w (.slice q1 l1 c1) nu1) (h2:Sl w (.slice p1 m1 e1) de1) (h3:Sl w (.slice q2 l2 c2) nu2) (h4:Sl w (.slice p2 m2 e2) de2) (b1:nu1.length<=274877906000) (b2:de1.length<=274877906000) (b3:nu2.length<=274877906000) (b4:de2.length<=274877906000) (hT:Tb w):
  Calls Tryz.prog 48 #[.agg (iA g1 q1 l1 c1 p1 m1 e1 g2 q2 l2 c2 p2 m2 e2 li hh)] w fun e w'=>e=.returned (.tuple #[.bool (!(large (val nu1) (val de1)||large (val nu2) (val de2))&&(!li&&(!hh&&decide (0<fcS (mkG g1 (val nu1) (denI (val de1))) (mkN (val nu1) (denI (val de1))) (mkD (val nu1) (denI (val de1))) (mkG g2 (val nu2) (denI (val de2))) (mkN (val nu2) (denI (val de2))) (mkD (val nu2) (denI (val de2))))))),.int .i64 (if (large (val nu1) (val de1)||large (val nu2) (val de2)) then 1 else 0)])/\Below w.heap.size w w':=by
 cases hL:(large (val nu1) (val de1)||large (val nu2) (val de2)) with
 | true=>
  refine zdw (b:=false) (y:=1) (fun z hz hlt hr=>ziy (fun z1 hz1=>?_))
  have hb:=hz.trans (hz1.mono hz.size)
  exact zhz (Nat.lt_of_lt_of_le hlt hz1.size) (zad hr hz1 hlt) (fun z2 hz2=>by
   have hb2:=hb.trans (hz2.mono hb.size)
   exact zeq (h1.below hb2) (h2.below hb2) (h3.below hb2) (h4.below hb2) b1 b2 b3 b4 (hT.below hb2) hL)
 | false=>
  refine zdw (b:=(!li&&(!hh&&decide (0<fcS (mkG g1 (val nu1) (denI (val de1))) (mkN (val nu1) (denI (val de1))) (mkD (val nu1) (denI (val de1))) (mkG g2 (val nu2) (denI (val de2))) (mkN (val nu2) (denI (val de2))) (mkD (val nu2) (denI (val de2))))))) (y:=0) (fun z hz hlt hr=>zkd (fun z1 hz1=>?_))
  have hb:=hz.trans (hz1.mono hz.size)
  exact zlx (Nat.lt_of_lt_of_le hlt hz1.size) (zad hr hz1 hlt) (fun z2 hz2=>by
   have hb2:=hb.trans (hz2.mono hb.size)
   refine(zft (h1.below hb2) (h2.below hb2) (h3.below hb2) (h4.below hb2) b1 b2 b3 b4 (hT.below hb2) hL).mono ?_
   rintro e w' ⟨a1,n1,k1,a2,n2,k2,b1,r1,s1,b2,r2,s2,rfl,_,_,hb3⟩
   exact⟨_,a1,n1,k1,a2,n2,k2,_,b1,r1,s1,b2,r2,s2,rfl,hb3⟩)
set_option maxRecDepth 100000
set_option maxHeartbeats 16000000
theorem zjw {w:World} {B1 B2:Nat} {g1s g2s lis hhs G1s G2s Vs:Bool} {q1s p1s q2s p2s:Option Addr} {l1s c1s m1s e1s l2s c2s m2s e2s:Nat} {X1s Y1s X2s Y2s:Int} {g1t g2t lit hht G1t G2t Vt:Bool} {q1t p1t q2t p2t:Option Addr} {l1t c1t m1t e1t l2t c2t m2t e2t:Nat} {X1t Y1t X2t Y2t:Int} (_hB1:B1<w.heap.size) (hB2:B2<w.heap.size) (hr1:w.rangeAt B1 0 [.bool g1s,.slice q1s l1s c1s,.slice p1s m1s e1s,.bool g2s,.slice q2s l2s c2s,.slice p2s m2s e2s,.bool lis,.bool hhs]) (hr2:w.rangeAt B2 0 [.bool g1t,.slice q1t l1t c1t,.slice p1t m1t e1t,.bool g2t,.slice q2t l2t c2t,.slice p2t m2t e2t,.bool lit,.bool hht])
  (ks:(∀z,Below w.heap.size w z->Calls Tryz.prog 57 #[.agg (iA g1s q1s l1s c1s p1s m1s e1s g2s q2s l2s c2s p2s m2s e2s lis hhs)] z fun e w'=>∃a1s n1s k1s a2s n2s k2s b1s r1s s1s b2s r2s s2s,e=.returned (.agg (iB G1s a1s n1s k1s a2s n2s k2s G2s b1s r1s s1s b2s r2s s2s lis hhs Vs))/\FAt w' (.agg (qA G1s a1s n1s k1s a2s n2s k2s)) G1s X1s Y1s/\FAt w' (.agg (qA G2s b1s r1s s1s b2s r2s s2s)) G2s X2s Y2s/\Below z.heap.size z w')) (kt:(∀z,Below w.heap.size w z->Calls Tryz.prog 57 #[.agg (iA g1t q1t l1t c1t p1t m1t e1t g2t q2t l2t c2t p2t m2t e2t lit hht)] z fun e w'=>∃a1t n1t k1t a2t n2t k2t b1t r1t s1t b2t r2t s2t,e=.returned (.agg (iB G1t a1t n1t k1t a2t n2t k2t G2t b1t r1t s1t b2t r2t s2t lit hht Vt))/\FAt w' (.agg (qA G1t a1t n1t k1t a2t n2t k2t)) G1t X1t Y1t/\FAt w' (.agg (qA G2t b1t r1t s1t b2t r2t s2t)) G2t X2t Y2t/\Below z.heap.size z w')):
  Calls Tryz.prog 56 #[.pointer (some ⟨B1,0,none⟩),.pointer (some ⟨B2,0,none⟩)] w fun e w'=>e=.returned (.bool (Vs||((lit||(!lis&&decide (0<=fcS G1s X1s Y1s G1t X1t Y1t)))&&((hht||(!hhs&&decide (fcS G2s X2s Y2s G2t X2t Y2t<=0)))&&!Vt))))/\Below w.heap.size w w':=by
 have hs:=zac ks
 have ht:=zac kt
 have x0:w.cell? ⟨B1,0,none⟩=some (.bool g1s):=by simpa using hr1 0 _ rfl
 have x1:w.cell? ⟨B1,1,none⟩=some (.slice q1s l1s c1s):=by simpa using hr1 1 _ rfl
 have x2:w.cell? ⟨B1,2,none⟩=some (.slice p1s m1s e1s):=by simpa using hr1 2 _ rfl
 have x3:w.cell? ⟨B1,3,none⟩=some (.bool g2s):=by simpa using hr1 3 _ rfl
 have x4:w.cell? ⟨B1,4,none⟩=some (.slice q2s l2s c2s):=by simpa using hr1 4 _ rfl
 have x5:w.cell? ⟨B1,5,none⟩=some (.slice p2s m2s e2s):=by simpa using hr1 5 _ rfl
 have x6:w.cell? ⟨B1,6,none⟩=some (.bool lis):=by simpa using hr1 6 _ rfl
 have x7:w.cell? ⟨B1,7,none⟩=some (.bool hhs):=by simpa using hr1 7 _ rfl
 have eW:=zac hr2
 obtain⟨LW,hLW⟩:∃b,Hid ((lit||(!lis&&decide (0<=fcS G1s X1s Y1s G1t X1t Y1t)))=b):=⟨_,rfl⟩
 obtain⟨HG,hHG⟩:∃b,Hid ((hht||(!hhs&&decide (fcS G2s X2s Y2s G2t X2t Y2t<=0)))=b):=⟨_,rfl⟩
 rw[hLW.out,hHG.out]
 clear ks kt hr1 hr2
 go_enter Tryz.func56,Tryz.ntmps56
 go_upto_region 2 with(go_at_call 57;refine(hs.out _ (Below.refl _ _)).mono ?_;rintro e w5 ⟨a1s,n1s,k1s,a2s,n2s,k2s,b1s,r1s,s1s,b2s,r2s,s2s,rfl,F1,F2,hb5⟩)
 have T5:Below w.heap.size w (w5.alloc (.cells (iB G1s a1s n1s k1s a2s n2s k2s G2s b1s r1s s1s b2s r2s s2s lis hhs Vs) 109)):=hb5.trans ((zaa w5 _).mono hb5.size)
 have J5:BlkI (w5.alloc (.cells (iB G1s a1s n1s k1s a2s n2s k2s G2s b1s r1s s1s b2s r2s s2s lis hhs Vs) 109)) w5.heap.size 109 (iB G1s a1s n1s k1s a2s n2s k2s G2s b1s r1s s1s b2s r2s s2s lis hhs Vs):=heap_alloc_new _ _
 have A5:FAt (w5.alloc (.cells (iB G1s a1s n1s k1s a2s n2s k2s G2s b1s r1s s1s b2s r2s s2s lis hhs Vs) 109)) (.agg (qA G1s a1s n1s k1s a2s n2s k2s)) G1s X1s Y1s:=F1.below (zaa w5 _)
 have C5:FAt (w5.alloc (.cells (iB G1s a1s n1s k1s a2s n2s k2s G2s b1s r1s s1s b2s r2s s2s lis hhs Vs) 109)) (.agg (qA G2s b1s r1s s1s b2s r2s s2s)) G2s X2s Y2s:=F2.below (zaa w5 _)
 have L5:w.heap.size<=w5.heap.size:=hb5.size
 clear x0 x1 x2 x3 x4 x5 x6 x7 F1 F2 hb5
 generalize (w5.alloc (.cells (iB G1s a1s n1s k1s a2s n2s k2s G2s b1s r1s s1s b2s r2s s2s lis hhs Vs) 109))=W5 at*
 obtain⟨P,hP⟩:∃P,P=w5.heap.size:=⟨_,rfl⟩
 rw[<-hP] at J5 L5 ⊢
 clear hP
 have A5':=zac A5
 have C5':=zac C5
 have J5':=zac J5
 have T5':Hid (Below w.heap.size w W5):=T5
 have bx:=zad eW.out T5 hB2
 have y0:W5.cell? ⟨B2,0,none⟩=some (.bool g1t):=by simpa using bx 0 _ rfl
 have y1:W5.cell? ⟨B2,1,none⟩=some (.slice q1t l1t c1t):=by simpa using bx 1 _ rfl
 have y2:W5.cell? ⟨B2,2,none⟩=some (.slice p1t m1t e1t):=by simpa using bx 2 _ rfl
 have y3:W5.cell? ⟨B2,3,none⟩=some (.bool g2t):=by simpa using bx 3 _ rfl
 have y4:W5.cell? ⟨B2,4,none⟩=some (.slice q2t l2t c2t):=by simpa using bx 4 _ rfl
 have y5:W5.cell? ⟨B2,5,none⟩=some (.slice p2t m2t e2t):=by simpa using bx 5 _ rfl
 have y6:W5.cell? ⟨B2,6,none⟩=some (.bool lit):=by simpa using bx 6 _ rfl
 have y7:W5.cell? ⟨B2,7,none⟩=some (.bool hht):=by simpa using bx 7 _ rfl
 clear bx eW A5 C5 J5 T5 hs
 go_upto_region 3 with(go_at_call 57;refine(ht.out _ T5'.out).mono ?_;rintro e w6 ⟨a1t,n1t,k1t,a2t,n2t,k2t,b1t,r1t,s1t,b2t,r2t,s2t,rfl,F1,F2,hb6⟩)
 have hb7:=hb6.trans ((zaa w6 (.cells (iB G1t a1t n1t k1t a2t n2t k2t G2t b1t r1t s1t b2t r2t s2t lit hht Vt) 109)).mono hb6.size)
 have JQ:BlkI (w6.alloc (.cells (iB G1t a1t n1t k1t a2t n2t k2t G2t b1t r1t s1t b2t r2t s2t lit hht Vt) 109)) w6.heap.size 109 (iB G1t a1t n1t k1t a2t n2t k2t G2t b1t r1t s1t b2t r2t s2t lit hht Vt):=heap_alloc_new _ _
 have AQ:Hid (FAt (w6.alloc (.cells (iB G1t a1t n1t k1t a2t n2t k2t G2t b1t r1t s1t b2t r2t s2t lit hht Vt) 109)) (.agg (qA G1t a1t n1t k1t a2t n2t k2t)) G1t X1t Y1t):=F1.below (zaa w6 _)
 have CQ:Hid (FAt (w6.alloc (.cells (iB G1t a1t n1t k1t a2t n2t k2t G2t b1t r1t s1t b2t r2t s2t lit hht Vt) 109)) (.agg (qA G2t b1t r1t s1t b2t r2t s2t)) G2t X2t Y2t):=F2.below (zaa w6 _)
 have JP:=J5'.out.below hb7
 have AP:=zac (A5'.out.below hb7)
 have CP:=zac (C5'.out.below hb7)
 have T7:=zac (T5'.out.trans (hb7.mono T5'.out.size))
 clear y0 y1 y2 y3 y4 y5 y6 y7 F1 F2 hb6 hb7 ht A5' C5' J5' T5'
 generalize (w6.alloc (.cells (iB G1t a1t n1t k1t a2t n2t k2t G2t b1t r1t s1t b2t r2t s2t lit hht Vt) 109))=W7 at*
 obtain⟨Q,hQ⟩:∃Q,Q=w6.heap.size:=⟨_,rfl⟩
 rw[<-hQ] at JQ ⊢
 clear hQ
 obtain⟨u0,u1,u2,u3,u4,u5,u6,u7,u8⟩:=JP.c9
 obtain⟨v0,v1,v2,v3,v4,v5,v6,v7,v8⟩:=JQ.c9
 have JP':Hid (BlkI W7 P 109 (iB G1s a1s n1s k1s a2s n2s k2s G2s b1s r1s s1s b2s r2s s2s lis hhs Vs)):=JP
 have JQ':=zac JQ
 clear JP JQ
 go_cut [5] from 11 to 25 (fun v5 wx=>v5=.bool LW/\Hid (Below W7.heap.size W7 wx))
 case first=>
  clear hHG
  cases lit with
  | true=>
   have hv:LW=true:=by rw[<-hLW.out];rfl
   subst hv
   go_wp2_with fail
   go_meet
   case rel=>exact⟨rfl,Below.refl _ _⟩
  | false=>
   cases lis with
   | true=>
    have hv:LW=false:=by rw[<-hLW.out];rfl
    subst hv
    go_wp2_with fail
    go_meet
    case rel=>exact⟨rfl,Below.refl _ _⟩
   | false=>
    have hc:=zfq AP.out AQ.out
    have hv:decide (0<=fcS G1s X1s Y1s G1t X1t Y1t)=LW:=hLW.out
    generalize fcS G1s X1s Y1s G1t X1t Y1t=C at hc hv
    have hv':decide (C>=0)=LW:=hv
    go_wp2_with (go_at_call 58;refine hc.mono ?_;rintro e wk ⟨rfl,hbk⟩)
    go_meet
    case rel=>exact⟨by first | rfl | rw[hv] | rw[hv'],hbk⟩
 case rest=>
  obtain⟨rfl,hb8⟩:=hcut
  have JP8:=JP'.out.below hb8.out
  have JQ8:=JQ'.out.below hb8.out
  have CP8:Hid (FAt wc (.agg (qA G2s b1s r1s s1s b2s r2s s2s)) G2s X2s Y2s):=CP.out.below hb8.out
  have CQ8:Hid (FAt wc (.agg (qA G2t b1t r1t s1t b2t r2t s2t)) G2t X2t Y2t):=CQ.out.below hb8.out
  have T8:Hid (Below w.heap.size w wc):=T7.out.trans (hb8.out.mono T7.out.size)
  clear u0 u1 u2 u3 u4 u5 u6 u7 u8 v0 v1 v2 v3 v4 v5 v6 v7 v8 AP AQ CP CQ JP' JQ' hb8 T7 hLW
  obtain⟨W8,hW8⟩:∃z,z=wc:=⟨_,rfl⟩
  rw[<-hW8] at JP8 JQ8 CP8 CQ8 T8 ⊢
  clear hW8
  obtain⟨u0,u1,u2,u3,u4,u5,u6,u7,u8⟩:=JP8.c9
  obtain⟨v0,v1,v2,v3,v4,v5,v6,v7,v8⟩:=JQ8.c9
  have JP':Hid (BlkI W8 P 109 (iB G1s a1s n1s k1s a2s n2s k2s G2s b1s r1s s1s b2s r2s s2s lis hhs Vs)):=JP8
  have JQ':Hid (BlkI W8 Q 109 (iB G1t a1t n1t k1t a2t n2t k2t G2t b1t r1t s1t b2t r2t s2t lit hht Vt)):=JQ8
  clear JP8 JQ8
  go_upto_region 4 with fail
  go_cut [6] from 26 to 40 (fun v6 wx=>v6=.bool HG/\Hid (Below W8.heap.size W8 wx))
  case first=>
   cases hht with
   | true=>
    have hv:HG=true:=by rw[<-hHG.out];rfl
    subst hv
    go_wp2_with fail
    go_meet
    case rel=>exact⟨rfl,Below.refl _ _⟩
   | false=>
    cases hhs with
    | true=>
     have hv:HG=false:=by rw[<-hHG.out];rfl
     subst hv
     go_wp2_with fail
     go_meet
     case rel=>exact⟨rfl,Below.refl _ _⟩
    | false=>
     have hc:=zfq CP8.out CQ8.out
     have hv:decide (fcS G2s X2s Y2s G2t X2t Y2t<=0)=HG:=hHG.out
     generalize fcS G2s X2s Y2s G2t X2t Y2t=C at hc hv
     go_wp2_with (go_at_call 58;refine hc.mono ?_;rintro e wk ⟨rfl,hbk⟩)
     go_meet
     case rel=>exact⟨by first | rfl | rw[hv],hbk⟩
  case rest=>
   obtain⟨rfl,hb9⟩:=hcut
   have z1:wc.cell? ⟨P,8,none⟩=some (.bool Vs):=(JP'.out.below hb9.out).cell 8
   have z2:wc.cell? ⟨Q,8,none⟩=some (.bool Vt):=(JQ'.out.below hb9.out).cell 8
   have T9:Hid (Below w.heap.size w wc):=T8.out.trans (hb9.out.mono T8.out.size)
   clear u0 u1 u2 u3 u4 u5 u6 u7 u8 v0 v1 v2 v3 v4 v5 v6 v7 v8 CP8 CQ8 JP' JQ' hb9 T8 hHG
   cases Vs<;>cases LW<;>cases HG<;>cases Vt<;>(go_wp2_with fail;go_ret;exact⟨rfl,T9.out⟩)
theorem zfu {w:World} {B1 B2:Nat} {g1s g2s lis hhs:Bool} {q1s p1s q2s p2s:Option Addr} {l1s c1s m1s e1s l2s c2s m2s e2s:Nat} (hr1:w.rangeAt B1 0 [.bool g1s,.slice q1s l1s c1s,.slice p1s m1s e1s,.bool g2s,.slice q2s l2s c2s,.slice p2s m2s e2s,.bool lis,.bool hhs])
  (ks:∀z,Below w.heap.size w z->Calls Tryz.prog 57 #[.agg (iA g1s q1s l1s c1s p1s m1s e1s g2s q2s l2s c2s p2s m2s e2s lis hhs)] z fun e w'=>e=.panicked [{ v:=.iface 141 (.agg #[.int .i64 1]),recovered:=false }]/\Below z.heap.size z w'):
  Calls Tryz.prog 56 #[.pointer (some ⟨B1,0,none⟩),.pointer (some ⟨B2,0,none⟩)] w fun e w'=>e=.panicked [{ v:=.iface 141 (.agg #[.int .i64 1]),recovered:=false }]/\Below w.heap.size w w':=by
 have x0:w.cell? ⟨B1,0,none⟩=some (.bool g1s):=by simpa using hr1 0 _ rfl
 have x1:w.cell? ⟨B1,1,none⟩=some (.slice q1s l1s c1s):=by simpa using hr1 1 _ rfl
 have x2:w.cell? ⟨B1,2,none⟩=some (.slice p1s m1s e1s):=by simpa using hr1 2 _ rfl
 have x3:w.cell? ⟨B1,3,none⟩=some (.bool g2s):=by simpa using hr1 3 _ rfl
 have x4:w.cell? ⟨B1,4,none⟩=some (.slice q2s l2s c2s):=by simpa using hr1 4 _ rfl
 have x5:w.cell? ⟨B1,5,none⟩=some (.slice p2s m2s e2s):=by simpa using hr1 5 _ rfl
 have x6:w.cell? ⟨B1,6,none⟩=some (.bool lis):=by simpa using hr1 6 _ rfl
 have x7:w.cell? ⟨B1,7,none⟩=some (.bool hhs):=by simpa using hr1 7 _ rfl
 go_enter Tryz.func56,Tryz.ntmps56
 go_wp2_with (go_at_call 57;refine(ks _ (Below.refl _ _)).mono ?_;rintro e w5 ⟨rfl,hb5⟩)
 exact⟨rfl,rfl,hb5⟩
theorem zfv {w:World} {B1 B2:Nat} {g1s g2s lis hhs G1s G2s Vs:Bool} {q1s p1s q2s p2s:Option Addr} {l1s c1s m1s e1s l2s c2s m2s e2s:Nat} {X1s Y1s X2s Y2s:Int} {g1t g2t lit hht:Bool} {q1t p1t q2t p2t:Option Addr} {l1t c1t m1t e1t l2t c2t m2t e2t:Nat} (hB2:B2<w.heap.size) (hr1:w.rangeAt B1 0 [.bool g1s,.slice q1s l1s c1s,.slice p1s m1s e1s,.bool g2s,.slice q2s l2s c2s,.slice p2s m2s e2s,.bool lis,.bool hhs]) (hr2:w.rangeAt B2 0 [.bool g1t,.slice q1t l1t c1t,.slice p1t m1t e1t,.bool g2t,.slice q2t l2t c2t,.slice p2t m2t e2t,.bool lit,.bool hht])
  (ks:(∀z,Below w.heap.size w z->Calls Tryz.prog 57 #[.agg (iA g1s q1s l1s c1s p1s m1s e1s g2s q2s l2s c2s p2s m2s e2s lis hhs)] z fun e w'=>∃a1s n1s k1s a2s n2s k2s b1s r1s s1s b2s r2s s2s,e=.returned (.agg (iB G1s a1s n1s k1s a2s n2s k2s G2s b1s r1s s1s b2s r2s s2s lis hhs Vs))/\FAt w' (.agg (qA G1s a1s n1s k1s a2s n2s k2s)) G1s X1s Y1s/\FAt w' (.agg (qA G2s b1s r1s s1s b2s r2s s2s)) G2s X2s Y2s/\Below z.heap.size z w')) (kt:∀z,Below w.heap.size w z->Calls Tryz.prog 57 #[.agg (iA g1t q1t l1t c1t p1t m1t e1t g2t q2t l2t c2t p2t m2t e2t lit hht)] z fun e w'=>e=.panicked [{ v:=.iface 141 (.agg #[.int .i64 1]),recovered:=false }]/\Below z.heap.size z w'):
  Calls Tryz.prog 56 #[.pointer (some ⟨B1,0,none⟩),.pointer (some ⟨B2,0,none⟩)] w fun e w'=>e=.panicked [{ v:=.iface 141 (.agg #[.int .i64 1]),recovered:=false }]/\Below w.heap.size w w':=by
 have hs:=zac ks
 have x0:w.cell? ⟨B1,0,none⟩=some (.bool g1s):=by simpa using hr1 0 _ rfl
 have x1:w.cell? ⟨B1,1,none⟩=some (.slice q1s l1s c1s):=by simpa using hr1 1 _ rfl
 have x2:w.cell? ⟨B1,2,none⟩=some (.slice p1s m1s e1s):=by simpa using hr1 2 _ rfl
 have x3:w.cell? ⟨B1,3,none⟩=some (.bool g2s):=by simpa using hr1 3 _ rfl
 have x4:w.cell? ⟨B1,4,none⟩=some (.slice q2s l2s c2s):=by simpa using hr1 4 _ rfl
 have x5:w.cell? ⟨B1,5,none⟩=some (.slice p2s m2s e2s):=by simpa using hr1 5 _ rfl
 have x6:w.cell? ⟨B1,6,none⟩=some (.bool lis):=by simpa using hr1 6 _ rfl
 have x7:w.cell? ⟨B1,7,none⟩=some (.bool hhs):=by simpa using hr1 7 _ rfl
 have eW:=zac hr2
 clear ks hr1 hr2
 go_enter Tryz.func56,Tryz.ntmps56
 go_upto_region 2 with(go_at_call 57;refine(hs.out _ (Below.refl _ _)).mono ?_;rintro e w5 ⟨a1s,n1s,k1s,a2s,n2s,k2s,b1s,r1s,s1s,b2s,r2s,s2s,rfl,F1,F2,hb5⟩)
 have T5:Below w.heap.size w (w5.alloc (.cells (iB G1s a1s n1s k1s a2s n2s k2s G2s b1s r1s s1s b2s r2s s2s lis hhs Vs) 109)):=hb5.trans ((zaa w5 _).mono hb5.size)
 clear x0 x1 x2 x3 x4 x5 x6 x7 F1 F2 hb5 hs
 generalize (w5.alloc (.cells (iB G1s a1s n1s k1s a2s n2s k2s G2s b1s r1s s1s b2s r2s s2s lis hhs Vs) 109))=W5 at*
 have bx:=zad eW.out T5 hB2
 have y0:W5.cell? ⟨B2,0,none⟩=some (.bool g1t):=by simpa using bx 0 _ rfl
 have y1:W5.cell? ⟨B2,1,none⟩=some (.slice q1t l1t c1t):=by simpa using bx 1 _ rfl
 have y2:W5.cell? ⟨B2,2,none⟩=some (.slice p1t m1t e1t):=by simpa using bx 2 _ rfl
 have y3:W5.cell? ⟨B2,3,none⟩=some (.bool g2t):=by simpa using bx 3 _ rfl
 have y4:W5.cell? ⟨B2,4,none⟩=some (.slice q2t l2t c2t):=by simpa using bx 4 _ rfl
 have y5:W5.cell? ⟨B2,5,none⟩=some (.slice p2t m2t e2t):=by simpa using bx 5 _ rfl
 have y6:W5.cell? ⟨B2,6,none⟩=some (.bool lit):=by simpa using bx 6 _ rfl
 have y7:W5.cell? ⟨B2,7,none⟩=some (.bool hht):=by simpa using bx 7 _ rfl
 have T5':Hid (Below w.heap.size w W5):=T5
 clear bx eW T5
 go_wp2_with (go_at_call 57;refine(kt _ T5'.out).mono ?_;rintro e w6 ⟨rfl,hb6⟩)
 exact⟨rfl,rfl,T5'.out.trans (hb6.mono T5'.out.size)⟩
theorem zc0 {w:World} {g1s g2s lis hhs:Bool} {q1s p1s q2s p2s:Option Addr} {l1s c1s m1s e1s l2s c2s m2s e2s:Nat} {g1t g2t lit hht:Bool} {q1t p1t q2t p2t:Option Addr} {l1t c1t m1t e1t l2t c2t m2t e2t:Nat} {b:Bool} {y:Int}
  (k:∀z,Below w.heap.size w z->w.heap.size+1<z.heap.size->z.rangeAt w.heap.size 0 [.bool g1s,.slice q1s l1s c1s,.slice p1s m1s e1s,.bool g2s,.slice q2s l2s c2s,.slice p2s m2s e2s,.bool lis,.bool hhs]->z.rangeAt (w.heap.size+1) 0 [.bool g1t,.slice q1t l1t c1t,.slice p1t m1t e1t,.bool g2t,.slice q2t l2t c2t,.slice p2t m2t e2t,.bool lit,.bool hht]->Calls Tryz.prog 55 #[.func (.func 56) #[] #[.pointer (some ⟨w.heap.size,0,none⟩),.pointer (some ⟨w.heap.size+1,0,none⟩)]] z fun e w'=>e=.returned (.tuple #[.bool b,.int .i64 y])/\Below z.heap.size z w'):
  Calls Tryz.prog 31 #[.agg (iA g1s q1s l1s c1s p1s m1s e1s g2s q2s l2s c2s p2s m2s e2s lis hhs),.agg (iA g1t q1t l1t c1t p1t m1t e1t g2t q2t l2t c2t p2t m2t e2t lit hht)] w fun e w'=>e=.returned (.tuple #[.bool b,.int .i64 y])/\Below w.heap.size w w':=by
 have hb0:=zah w (.cells (iA g1s q1s l1s c1s p1s m1s e1s g2s q2s l2s c2s p2s m2s e2s lis hhs) 56) (.cells (iA g1t q1t l1t c1t p1t m1t e1t g2t q2t l2t c2t p2t m2t e2t lit hht) 56)
 have hq:=zbh (w.alloc (.cells (iA g1s q1s l1s c1s p1s m1s e1s g2s q2s l2s c2s p2s m2s e2s lis hhs) 56)) [.bool g1t,.slice q1t l1t c1t,.slice p1t m1t e1t,.bool g2t,.slice q2t l2t c2t,.slice p2t m2t e2t,.bool lit,.bool hht] 56
 rw[show (w.alloc (.cells (iA g1s q1s l1s c1s p1s m1s e1s g2s q2s l2s c2s p2s m2s e2s lis hhs) 56)).heap.size=w.heap.size+1 by simp] at hq
 have kk:=k _ hb0 (by simp) (World.rangeAt_alloc (zbh w [.bool g1s,.slice q1s l1s c1s,.slice p1s m1s e1s,.bool g2s,.slice q2s l2s c2s,.slice p2s m2s e2s,.bool lis,.bool hhs] 56) _) hq
 have hmf:∀(fn:Fn) (first cap:Array Value) (w:World),(Instr.makeFunc fn first cap).run Tryz.prog w=.ok (.func fn first cap) w:=fun _ _ _ _=>rfl
 go_enter Tryz.func31,Tryz.ntmps31
 go_wp2_with (go_at_call 55;refine kk.mono ?_;rintro e w5 ⟨rfl,hb5⟩)
 go_ret2
 exact⟨rfl,hb0.trans (hb5.mono hb0.size)⟩
def IvC.lg (c:IvC):Bool:=large c.n1 c.d1||large c.n2 c.d2
def IvC.vd (c:IvC):Bool:=!c.li&&(!c.hh&&decide (0<fcS (mkG c.g1 c.n1 (denI c.d1)) (mkN c.n1 (denI c.d1)) (mkD c.n1 (denI c.d1)) (mkG c.g2 c.n2 (denI c.d2)) (mkN c.n2 (denI c.d2)) (mkD c.n2 (denI c.d2))))
def IvC.ins (s t:IvC):Bool:=s.vd||((t.li||(!s.li&&decide (0<=fcS (mkG s.g1 s.n1 (denI s.d1)) (mkN s.n1 (denI s.d1)) (mkD s.n1 (denI s.d1)) (mkG t.g1 t.n1 (denI t.d1)) (mkN t.n1 (denI t.d1)) (mkD t.n1 (denI t.d1)))))&&
 ((t.hh||(!s.hh&&decide (fcS (mkG s.g2 s.n2 (denI s.d2)) (mkN s.n2 (denI s.d2)) (mkD s.n2 (denI s.d2)) (mkG t.g2 t.n2 (denI t.d2)) (mkN t.n2 (denI t.d2)) (mkD t.n2 (denI t.d2))<=0)))&&!t.vd))
theorem zly {w:World} {g1s g2s lis hhs:Bool} {q1s p1s q2s p2s:Option Addr} {l1s c1s m1s e1s l2s c2s m2s e2s:Nat} {nu1s de1s nu2s de2s:List Int} (h1s:Sl w (.slice q1s l1s c1s) nu1s) (h2s:Sl w (.slice p1s m1s e1s) de1s) (h3s:Sl w (.slice q2s l2s c2s) nu2s) (h4s:Sl w (.slice p2s m2s e2s) de2s) (b1s:nu1s.length<=274877906000) (b2s:de1s.length<=274877906000) (b3s:nu2s.length<=274877906000) (b4s:de2s.length<=274877906000) (hT:Tb w):
  Calls Tryz.prog 48 #[.agg (iA g1s q1s l1s c1s p1s m1s e1s g2s q2s l2s c2s p2s m2s e2s lis hhs)] w fun e w'=>e=.returned (.tuple #[.bool (!(IvC.mk g1s (val nu1s) (val de1s) g2s (val nu2s) (val de2s) lis hhs).lg&&(IvC.mk g1s (val nu1s) (val de1s) g2s (val nu2s) (val de2s) lis hhs).vd),.int .i64 (if (IvC.mk g1s (val nu1s) (val de1s) g2s (val nu2s) (val de2s) lis hhs).lg then 1 else 0)])/\Below w.heap.size w w':=
 zjv h1s h2s h3s h4s b1s b2s b3s b4s hT
theorem inside_c {w:World} {g1s g2s lis hhs:Bool} {q1s p1s q2s p2s:Option Addr} {l1s c1s m1s e1s l2s c2s m2s e2s:Nat} {nu1s de1s nu2s de2s:List Int} {g1t g2t lit hht:Bool} {q1t p1t q2t p2t:Option Addr} {l1t c1t m1t e1t l2t c2t m2t e2t:Nat} {nu1t de1t nu2t de2t:List Int} (h1s:Sl w (.slice q1s l1s c1s) nu1s) (h2s:Sl w (.slice p1s m1s e1s) de1s) (h3s:Sl w (.slice q2s l2s c2s) nu2s) (h4s:Sl w (.slice p2s m2s e2s) de2s) (b1s:nu1s.length<=274877906000) (b2s:de1s.length<=274877906000) (b3s:nu2s.length<=274877906000) (b4s:de2s.length<=274877906000) (h1t:Sl w (.slice q1t l1t c1t) nu1t) (h2t:Sl w (.slice p1t m1t e1t) de1t) (h3t:Sl w (.slice q2t l2t c2t) nu2t) (h4t:Sl w (.slice p2t m2t e2t) de2t) (b1t:nu1t.length<=274877906000) (b2t:de1t.length<=274877906000) (b3t:nu2t.length<=274877906000) (b4t:de2t.length<=274877906000) (hT:Tb w):
  Calls Tryz.prog 31 #[.agg (iA g1s q1s l1s c1s p1s m1s e1s g2s q2s l2s c2s p2s m2s e2s lis hhs),.agg (iA g1t q1t l1t c1t p1t m1t e1t g2t q2t l2t c2t p2t m2t e2t lit hht)] w fun e w'=>e=.returned (.tuple #[.bool (!((IvC.mk g1s (val nu1s) (val de1s) g2s (val nu2s) (val de2s) lis hhs).lg||(IvC.mk g1t (val nu1t) (val de1t) g2t (val nu2t) (val de2t) lit hht).lg)&&(IvC.mk g1s (val nu1s) (val de1s) g2s (val nu2s) (val de2s) lis hhs).ins (IvC.mk g1t (val nu1t) (val de1t) g2t (val nu2t) (val de2t) lit hht)),.int .i64 (if ((IvC.mk g1s (val nu1s) (val de1s) g2s (val nu2s) (val de2s) lis hhs).lg||(IvC.mk g1t (val nu1t) (val de1t) g2t (val nu2t) (val de2t) lit hht).lg) then 1 else 0)])/\Below w.heap.size w w':=by
 cases hA:(IvC.mk g1s (val nu1s) (val de1s) g2s (val nu2s) (val de2s) lis hhs).lg with
 | true=>
  refine zc0 (b:=false) (y:=1) (fun z hz hlt hr1 hr2=>zeu (fun z1 hz1=>?_))
  have hb:=hz.trans (hz1.mono hz.size)
  exact zfu (zad hr1 hz1 (by omega)) (fun z2 hz2=>by
   have hb2:=hb.trans (hz2.mono hb.size)
   exact zeq (h1s.below hb2) (h2s.below hb2) (h3s.below hb2) (h4s.below hb2) b1s b2s b3s b4s (hT.below hb2) hA)
 | false=>
  cases hB:(IvC.mk g1t (val nu1t) (val de1t) g2t (val nu2t) (val de2t) lit hht).lg with
  | true=>
   refine zc0 (b:=false) (y:=1) (fun z hz hlt hr1 hr2=>zeu (fun z1 hz1=>?_))
   have hb:=hz.trans (hz1.mono hz.size)
   exact zfv (Nat.lt_of_lt_of_le hlt hz1.size) (zad hr1 hz1 (by omega)) (zad hr2 hz1 hlt) (fun z2 hz2=>by
    have hb2:=hb.trans (hz2.mono hb.size)
    exact zft (h1s.below hb2) (h2s.below hb2) (h3s.below hb2) (h4s.below hb2) b1s b2s b3s b4s (hT.below hb2) hA) (fun z2 hz2=>by
    have hb2:=hb.trans (hz2.mono hb.size)
    exact zeq (h1t.below hb2) (h2t.below hb2) (h3t.below hb2) (h4t.below hb2) b1t b2t b3t b4t (hT.below hb2) hB)
  | false=>
   refine zc0 (b:=(IvC.mk g1s (val nu1s) (val de1s) g2s (val nu2s) (val de2s) lis hhs).ins (IvC.mk g1t (val nu1t) (val de1t) g2t (val nu2t) (val de2t) lit hht)) (y:=0) (fun z hz hlt hr1 hr2=>zke (fun z1 hz1=>?_))
   have hb:=hz.trans (hz1.mono hz.size)
   exact zjw (Nat.lt_of_lt_of_le (by omega) hz1.size) (Nat.lt_of_lt_of_le hlt hz1.size) (zad hr1 hz1 (by omega)) (zad hr2 hz1 hlt) (fun z2 hz2=>by
    have hb2:=hb.trans (hz2.mono hb.size)
    exact zft (h1s.below hb2) (h2s.below hb2) (h3s.below hb2) (h4s.below hb2) b1s b2s b3s b4s (hT.below hb2) hA) (fun z2 hz2=>by
    have hb2:=hb.trans (hz2.mono hb.size)
    exact zft (h1t.below hb2) (h2t.below hb2) (h3t.below hb2) (h4t.below hb2) b1t b2t b3t b4t (hT.below hb2) hB)
end Go.Proofs.YtaonejnicgbifaaGreatDoor
