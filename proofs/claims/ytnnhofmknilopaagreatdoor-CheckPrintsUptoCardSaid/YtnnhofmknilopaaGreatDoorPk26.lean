import Derived.Test.YtnnhofmknilopaaGreatDoorPk25
namespace Go.Proofs.YtnnhofmknilopaaGreatDoor
open Go Go.RowKit
set_option maxRecDepth 100000
set_option maxHeartbeats 16000000
theorem zk3 {w0:World} {k f:Int} {ng:Bool} {X Y:Int} {aq cq sq:Option Addr} {an ac cn cc sc n:Nat} {m:ByteArray} {ds:Nat->Nd} {T:Nat->List UInt8}
  (hN:nodeOk k f ng X Y m n=true) (hk:10<=k) (bA:n=0\/∃kb ko,sq=some ⟨kb,ko,none⟩/\kb<w0.heap.size/\∀i,i<n->NdAt w0 kb (ko+i*7) (ds i))
  (hX:∀i,i<n->TxC w0 188 [(ds i).val] (T i)) (hl:(sepT T n).length<=1000000):
  TxC w0 301 [.agg #[.int .i64 k,.int .i64 f,.bool ng,.slice aq an ac,.slice cq cn cc,.string m,.slice sq n sc]] (headT k f++(sepT T n++[41])):=by
 intro w hbw
 have b0':=zaa w (.cells #[.int .i64 k,.int .i64 f,.bool ng,.slice aq an ac,.slice cq cn cc,.string m,.slice sq n sc] 27)
 have c0:Hid ((w.alloc (.cells #[.int .i64 k,.int .i64 f,.bool ng,.slice aq an ac,.slice cq cn cc,.string m,.slice sq n sc] 27)).heap[w.heap.size]?=some (.cells #[.int .i64 k,.int .i64 f,.bool ng,.slice aq an ac,.slice cq cn cc,.string m,.slice sq n sc] 27 (0,0))):=heap_alloc_new w _
 have W0:=zab b0'
 have bF:=zab bA
 have hX':=zab hX
 have aH:=zab hbw
 have hn3:n<=3:=by rcases zgf hN with h | h | h | h | h | h | h | h | h | h | h | h | h | h | h<;>omega
 have hhl:=zg9 hN
 clear bA hX hbw b0'
 obtain⟨H,hH⟩:∃H,Hid (headT k f=H):=⟨_,rfl⟩
 rw[hH.out] at hhl ⊢
 go_enter Tryz.func301,Tryz.ntmps301
 go_upto_region 2 with fail
 generalize (w.alloc (.cells #[.int .i64 k,.int .i64 f,.bool ng,.slice aq an ac,.slice cq cn cc,.string m,.slice sq n sc] 27))=W at*
 obtain⟨x0,x1,x2,x3,x4,x5,x6⟩:=zaf c0.out
 go_upto_block 0 with fail
 go_cut [3] from 7 to 30 (fun v3 wx=>v3=.string ⟨H.toArray⟩/\Hid (Below w.heap.size w wx)/\Hid (wx.heap[w.heap.size]?=some (.cells #[.int .i64 k,.int .i64 f,.bool ng,.slice aq an ac,.slice cq cn cc,.string m,.slice sq n sc] 27 (0,0))))
 case first=>
  rcases zgf hN with⟨rfl,rfl⟩ | ⟨rfl,rfl⟩ | ⟨rfl,rfl⟩ | ⟨rfl,rfl⟩ | ⟨rfl,rfl⟩ | ⟨rfl,rfl⟩ | ⟨rfl,rfl⟩ | ⟨rfl,rfl⟩ | ⟨rfl,rfl⟩ | ⟨rfl,-⟩ | ⟨rfl,-⟩ | ⟨rfl,-⟩ | ⟨rfl,-⟩ | ⟨rfl,-⟩ | ⟨rfl,-⟩
  iterate 9 (exact absurd hk (by decide))
  ·have ha:=zd7 hN
   have hit:=zfw W f (by omega) (by omega)
   have hil:=zbn (n:=f) (by show _<10000000000000000000;omega)
   have bT:H=if f=2 then [115,113,114,116,40] else [114,111,111,116,40]++Lib.itoa f++[44,32]:=by rw[<-hH.out];rfl
   generalize Lib.itoa f=I at hit hil bT
   by_cases h2:f=2
   ·subst h2
    rw[if_pos rfl] at bT
    subst bT
    go_wp2_with fail
    go_meet
    case rel=>exact⟨rfl,W0,c0⟩
   ·rw[if_neg h2] at bT
    subst bT
    have h2':(f==2)=false:=by simpa using h2
    have h2'':(f != 2)=true:=by simpa using h2
    go_wp2_with (go_at_call 300;refine hit.mono ?_;rintro e w2 ⟨rfl,hb2⟩
                 have W2:=W0.out.trans (hb2.mono W0.out.size)
                 have c2:=zab ((hb2.block _ (Array.getElem?_eq_some_iff.1 c0.out).1).trans c0.out))
    go_meet
    case rel=>exact⟨zbf (by simp),W2,c2⟩
  ·have ha:=zi7 hN
   have hfn:=fnQ_ok (f:=f) (by unfold loA at ha;simp at ha;omega) (by unfold hiA at ha;simp at ha;omega) W
   have hfl:=zie (f:=f) (by unfold loA at ha;simp at ha;omega) (by unfold hiA at ha;simp at ha;omega)
   have dS:H=fnT f++[40]:=by rw[<-hH.out];rfl
   unfold tx at hfn
   generalize fnT f=F at hfn hfl dS
   subst dS
   go_wp2_with (go_at_call 392;refine hfn.mono ?_;rintro e w2 ⟨rfl,hb2⟩
                have W2:=W0.out.trans (hb2.mono W0.out.size)
                have c2:=zab ((hb2.block _ (Array.getElem?_eq_some_iff.1 c0.out).1).trans c0.out))
   go_meet
   case rel=>exact⟨zbf (by simp),W2,c2⟩
  ·obtain rfl:H=[97,98,115,40]:=by rw[<-hH.out];rfl
   go_wp2_with fail
   go_meet
   case rel=>exact⟨rfl,W0,c0⟩
  ·obtain rfl:H=[109,105,110,40]:=by rw[<-hH.out];rfl
   go_wp2_with fail
   go_meet
   case rel=>exact⟨rfl,W0,c0⟩
  ·obtain rfl:H=[109,97,120,40]:=by rw[<-hH.out];rfl
   go_wp2_with fail
   go_meet
   case rel=>exact⟨rfl,W0,c0⟩
  ·obtain rfl:H=[105,102,40]:=by rw[<-hH.out];rfl
   go_wp2_with fail
   go_meet
   case rel=>exact⟨rfl,W0,c0⟩
 case rest=>
  obtain⟨rfl,W1,c1⟩:=hcut
  clear x0 x1 x2 x3 x4 x5 x6 c0 W0 hH
  go_wp2
  go_loopw [3,4] (fun s i wr=>∃c:Nat,c<=n/\i=.int .i64 c/\s=.string ⟨(H++sepT T c).toArray⟩/\Hid (Below w.heap.size w wr)/\Hid (wr.heap[w.heap.size]?=some (.cells #[.int .i64 k,.int .i64 f,.bool ng,.slice aq an ac,.slice cq cn cc,.string m,.slice sq n sc] 27 (0,0)))) (fun _ i _=>n - (intOf i).toNat)
  case atStart=>exact⟨0,Nat.zero_le _,rfl,zbf (by simp[sepT]),W1,c1⟩
  case round=>
   clear W1 c1
   obtain⟨c,hc,rfl,rfl,W4,c4⟩:=hrel
   have hmc:=zdo T hc
   obtain⟨z0,z1,z2,z3,z4,z5,z6⟩:=zaf c4.out
   by_cases hlt:c<n
   ·have bR:(c:Int)<(n:Int):=by omega
    obtain⟨kb,ko,hsq,hkb,hnd⟩:=bF.out.resolve_left (by omega)
    subst hsq
    have bK:=zdo T (show c+1<=n by omega)
    have aa:sepT T (c+1)=(if c=0 then [] else sepT T c++[44,32])++T c:=rfl
    have hw:=hX'.out c hlt wr (aH.out.trans (zap W4.out aH.out.size))
    obtain⟨x0,x1,x2,x3,x4,x5,x6⟩:=(hnd c hlt).below (aH.out.trans (zap W4.out aH.out.size)) hkb
    clear hnd
    generalize ds c=dk at*
    obtain⟨k2,f2,g2,aq2,an2,ac2,cq2,cn2,cc2,m2,sq2,sn2,sc2⟩:=dk
    unfold Nd.val at hw
    simp only at hw x0 x1 x2 x3 x4 x5 x6
    by_cases h0:c=0
    ·subst h0
     simp only[Nat.zero_mul,Nat.add_zero] at x0 x1 x2 x3 x4 x5 x6
     rw[if_pos rfl] at aa
     rw[aa] at bK
     simp only[List.length_append,List.length_nil] at bK
     have h00:(sepT T 0).length=0:=rfl
     generalize T 0=U at*
     go_wp2_with (go_at_call 188;refine hw.mono ?_;rintro e w6 ⟨rfl,hb6⟩)
     go_roundw
     case rel=>exact⟨1,by omega,by go_num,zbf (by rw[aa];simp[sepT]),W4.out.trans (hb6.mono W4.out.size),(hb6.block _ (Array.getElem?_eq_some_iff.1 c4.out).1).trans c4.out⟩
     case measure=>simp[intOf];omega
    ·have h0':(c:Int) > 0:=by omega
     rw[if_neg h0] at aa
     rw[aa] at bK
     simp only[List.length_append,List.length_cons,List.length_nil] at bK
     generalize T c=U at*
     generalize sepT T c=V at*
     go_wp2_with (go_at_call 188;refine hw.mono ?_;rintro e w6 ⟨rfl,hb6⟩)
     go_roundw
     case rel=>exact⟨c+1,by omega,by go_num,zbf (by rw[aa];simp),W4.out.trans (hb6.mono W4.out.size),(hb6.block _ (Array.getElem?_eq_some_iff.1 c4.out).1).trans c4.out⟩
     case measure=>simp[intOf];omega
   ·obtain rfl:c=n:=by omega
    go_wp2
    go_ret
    exact⟨zel (by simp),W4.out⟩
theorem text_num {w0:World} {f:Int} {ng:Bool} {aq cq sq:Option Addr} {ac cc sc:Nat} {nu de:List Int} {m:ByteArray} (h1:Sl w0 (.slice aq nu.length ac) nu) (h2:Sl w0 (.slice cq de.length cc) de) (ln:nu.length<=1048576) (ld:de.length<=1048576) (hL:large (val nu) (val de)=false):
  TxC w0 188 [.agg #[.int .i64 1,.int .i64 f,.bool ng,.slice aq nu.length ac,.slice cq de.length cc,.string m,.slice sq 0 sc]] (numT ng (val nu) (val de)):=by
 intro w hbw
 have b0:=zaa w (.cells #[.int .i64 1,.int .i64 f,.bool ng,.slice aq nu.length ac,.slice cq de.length cc,.string m,.slice sq 0 sc] 27)
 have c0:(w.alloc (.cells #[.int .i64 1,.int .i64 f,.bool ng,.slice aq nu.length ac,.slice cq de.length cc,.string m,.slice sq 0 sc] 27)).heap[w.heap.size]?=some (.cells #[.int .i64 1,.int .i64 f,.bool ng,.slice aq nu.length ac,.slice cq de.length cc,.string m,.slice sq 0 sc] 27 (0,0)):=heap_alloc_new w _
 have hX:=hbw.trans (zap b0 hbw.size)
 obtain⟨x0,x1,x2,x3,x4,x5,x6⟩:=zaf c0
 have hof:=zfa (g:=ng) (h1.below hX) (h2.below hX) (by omega) (by omega)
 have hlt:=zct hL
 have hd1:1<=mkD (val nu) (denI (val de)):=zga (zae h1.1) (by have:=zae h2.1;unfold denI;split<;>omega)
 unfold numT
 clear h1 h2 hX hbw c0
 go_enter Tryz.func188,Tryz.ntmps188
 go_wp2_with (first
  | (go_at_call 106;refine hof.mono ?_;rintro e w1 ⟨v,rfl,hQ,hb1⟩
     have ht:=zcz hQ hd1 hlt.1 hlt.2
     have B1:=b0.trans (hb1.mono b0.size)
     clear hof hb1)
  | (go_at_call 105;refine ht.mono ?_;rintro e w2 ⟨rfl,hb2⟩))
 go_ret
 exact⟨rfl,B1.trans (hb2.mono B1.size)⟩
theorem zk4 {w0:World} {f:Int} {ng:Bool} {aq cq sq:Option Addr} {ac cc sc:Nat} {nu de:List Int} {m:ByteArray}:TxC w0 188 [.agg #[.int .i64 2,.int .i64 f,.bool ng,.slice aq nu.length ac,.slice cq de.length cc,.string m,.slice sq 0 sc]] m.toList:=by
 intro w hbw
 have b0:=zaa w (.cells #[.int .i64 2,.int .i64 f,.bool ng,.slice aq nu.length ac,.slice cq de.length cc,.string m,.slice sq 0 sc] 27)
 have c0:(w.alloc (.cells #[.int .i64 2,.int .i64 f,.bool ng,.slice aq nu.length ac,.slice cq de.length cc,.string m,.slice sq 0 sc] 27)).heap[w.heap.size]?=some (.cells #[.int .i64 2,.int .i64 f,.bool ng,.slice aq nu.length ac,.slice cq de.length cc,.string m,.slice sq 0 sc] 27 (0,0)):=heap_alloc_new w _
 have hX:=hbw.trans (zap b0 hbw.size)
 obtain⟨x0,x1,x2,x3,x4,x5,x6⟩:=zaf c0
 rw[<-ze4 m]
 clear c0 hX hbw
 go_enter Tryz.func188,Tryz.ntmps188
 go_wp2
 go_ret
 exact⟨rfl,b0⟩
theorem text_pi {w0:World} {f:Int} {ng:Bool} {aq cq sq:Option Addr} {ac cc sc:Nat} {nu de:List Int} {m:ByteArray}:TxC w0 188 [.agg #[.int .i64 3,.int .i64 f,.bool ng,.slice aq nu.length ac,.slice cq de.length cc,.string m,.slice sq 0 sc]] [112,105]:=by
 intro w hbw
 have b0:=zaa w (.cells #[.int .i64 3,.int .i64 f,.bool ng,.slice aq nu.length ac,.slice cq de.length cc,.string m,.slice sq 0 sc] 27)
 have c0:(w.alloc (.cells #[.int .i64 3,.int .i64 f,.bool ng,.slice aq nu.length ac,.slice cq de.length cc,.string m,.slice sq 0 sc] 27)).heap[w.heap.size]?=some (.cells #[.int .i64 3,.int .i64 f,.bool ng,.slice aq nu.length ac,.slice cq de.length cc,.string m,.slice sq 0 sc] 27 (0,0)):=heap_alloc_new w _
 have hX:=hbw.trans (zap b0 hbw.size)
 obtain⟨x0,x1,x2,x3,x4,x5,x6⟩:=zaf c0
 clear c0 hX hbw
 go_enter Tryz.func188,Tryz.ntmps188
 go_wp2
 go_ret
 exact⟨rfl,b0⟩
theorem text_neg {w0:World} {f:Int} {ng:Bool} {aq cq:Option Addr} {ac cc sc:Nat} {nu de:List Int} {m:ByteArray} {kb ko:Nat} {d1:Nd} {T:List UInt8} (hkb:kb<w0.heap.size) (hn:NdAt w0 kb ko d1) (hK:TxC w0 299 [d1.val,.int .i64 3] T) (hl:T.length<=1000000):
  TxC w0 188 [.agg #[.int .i64 4,.int .i64 f,.bool ng,.slice aq nu.length ac,.slice cq de.length cc,.string m,.slice (some ⟨kb,ko,none⟩) 1 sc]] (45::T):=by
 intro w hbw
 have b0:=zaa w (.cells #[.int .i64 4,.int .i64 f,.bool ng,.slice aq nu.length ac,.slice cq de.length cc,.string m,.slice (some ⟨kb,ko,none⟩) 1 sc] 27)
 have c0:(w.alloc (.cells #[.int .i64 4,.int .i64 f,.bool ng,.slice aq nu.length ac,.slice cq de.length cc,.string m,.slice (some ⟨kb,ko,none⟩) 1 sc] 27)).heap[w.heap.size]?=some (.cells #[.int .i64 4,.int .i64 f,.bool ng,.slice aq nu.length ac,.slice cq de.length cc,.string m,.slice (some ⟨kb,ko,none⟩) 1 sc] 27 (0,0)):=heap_alloc_new w _
 have hX:=hbw.trans (zap b0 hbw.size)
 obtain⟨x0,x1,x2,x3,x4,x5,x6⟩:=zaf c0
 obtain⟨k1,f1,g1,aq1,an1,ac1,cq1,cn1,cc1,m1,sq1,sn1,sc1⟩:=d1
 have hP:=hK _ hX
 obtain⟨y0,y1,y2,y3,y4,y5,y6⟩:=hn.below hX hkb
 unfold Nd.val at hP
 simp only at hP
 clear hn hK hX hbw c0
 go_enter Tryz.func188,Tryz.ntmps188
 go_wp2_with (go_at_call 299;refine hP.mono ?_;rintro e w1 ⟨rfl,hb1⟩)
 go_ret
 exact⟨zel (by simp),b0.trans (hb1.mono b0.size)⟩
abbrev SJu (w:World) (kb:Nat) (ko:Nat) (sc:Nat) (k0:Int) (f0:Int) (g0:Bool) (aq0:Option Addr) (an0:Nat) (ac0:Nat) (cq0:Option Addr) (cn0:Nat) (cc0:Nat) (m0:ByteArray) (sq0:Option Addr) (sn0:Nat) (sc0:Nat) (k1:Int) (f1:Int) (g1:Bool) (aq1:Option Addr) (an1:Nat) (ac1:Nat) (cq1:Option Addr) (cn1:Nat) (cc1:Nat) (m1:ByteArray) (sq1:Option Addr) (sn1:Nat) (sc1:Nat):World->Prop:=fun z=>z.cell? ⟨w.heap.size,6,none⟩=some (.slice (some ⟨kb,ko,none⟩) 2 sc)/\z.cell? ⟨kb,ko,none⟩=some (.int .i64 k0)/\z.cell? ⟨kb,ko+1,none⟩=some (.int .i64 f0)/\z.cell? ⟨kb,ko+2,none⟩=some (.bool g0)/\z.cell? ⟨kb,ko+3,none⟩=some (.slice aq0 an0 ac0)/\z.cell? ⟨kb,ko+4,none⟩=some (.slice cq0 cn0 cc0)/\z.cell? ⟨kb,ko+5,none⟩=some (.string m0)/\z.cell? ⟨kb,ko+6,none⟩=some (.slice sq0 sn0 sc0)/\z.cell? ⟨kb,ko+7,none⟩=some (.int .i64 k1)/\z.cell? ⟨kb,ko+7+1,none⟩=some (.int .i64 f1)/\z.cell? ⟨kb,ko+7+2,none⟩=some (.bool g1)/\z.cell? ⟨kb,ko+7+3,none⟩=some (.slice aq1 an1 ac1)/\z.cell? ⟨kb,ko+7+4,none⟩=some (.slice cq1 cn1 cc1)/\z.cell? ⟨kb,ko+7+5,none⟩=some (.string m1)/\z.cell? ⟨kb,ko+7+6,none⟩=some (.slice sq1 sn1 sc1)
theorem text_op5 {w0:World} {f:Int} {ng:Bool} {aq cq:Option Addr} {ac cc sc:Nat} {nu de:List Int} {m:ByteArray} {kb ko:Nat} {d0 d1:Nd} {T0 T1:List UInt8} (hkb:kb<w0.heap.size) (n0:NdAt w0 kb ko d0) (n1:NdAt w0 kb (ko+7) d1) (kA:TxC w0 299 [d0.val,.int .i64 1] T0) (kB:TxC w0 299 [d1.val,.int .i64 2] T1) (l0:T0.length<=1000000) (l1:T1.length<=1000000):
  TxC w0 188 [.agg #[.int .i64 5,.int .i64 f,.bool ng,.slice aq nu.length ac,.slice cq de.length cc,.string m,.slice (some ⟨kb,ko,none⟩) 2 sc]] (T0++(signT 5++T1)):=by
 intro w hbw
 have b0:=zaa w (.cells #[.int .i64 5,.int .i64 f,.bool ng,.slice aq nu.length ac,.slice cq de.length cc,.string m,.slice (some ⟨kb,ko,none⟩) 2 sc] 27)
 have c0:(w.alloc (.cells #[.int .i64 5,.int .i64 f,.bool ng,.slice aq nu.length ac,.slice cq de.length cc,.string m,.slice (some ⟨kb,ko,none⟩) 2 sc] 27)).heap[w.heap.size]?=some (.cells #[.int .i64 5,.int .i64 f,.bool ng,.slice aq nu.length ac,.slice cq de.length cc,.string m,.slice (some ⟨kb,ko,none⟩) 2 sc] 27 (0,0)):=heap_alloc_new w _
 have hX:=hbw.trans (zap b0 hbw.size)
 obtain⟨x0,x1,x2,x3,x4,x5,x6⟩:=zaf c0
 obtain⟨k0,f0,g0,aq0,an0,ac0,cq0,cn0,cc0,m0,sq0,sn0,sc0⟩:=d0
 obtain⟨k1,f1,g1,aq1,an1,ac1,cq1,cn1,cc1,m1,sq1,sn1,sc1⟩:=d1
 obtain⟨y0,y1,y2,y3,y4,y5,y6⟩:=n0.below hX hkb
 obtain⟨z0,z1,z2,z3,z4,z5,z6⟩:=n1.below hX hkb
 have eM:kb<w.heap.size:=Nat.lt_of_lt_of_le hkb hbw.size
 have hsz:(w.alloc (.cells #[.int .i64 5,.int .i64 f,.bool ng,.slice aq nu.length ac,.slice cq de.length cc,.string m,.slice (some ⟨kb,ko,none⟩) 2 sc] 27)).heap.size=w.heap.size+1:=by simp
 unfold TxC Nd.val at kA kB
 simp only at kA kB y0 y1 y2 y3 y4 y5 y6 z0 z1 z2 z3 z4 z5 z6
 rw[show signT 5=[32,43,32] from rfl]
 have q1:¬9223372036854775807<T0.length+3:=by omega
 have q2:¬9223372036854775807<T0.length+3+T1.length:=by omega
 have hX':=zab hX
 clear n0 n1 c0 x1 x2 x3 x4 x5 hX hbw
 go_enter Tryz.func188,Tryz.ntmps188
 go_wp2_with fail
 generalize (w.alloc (.cells #[.int .i64 5,.int .i64 f,.bool ng,.slice aq nu.length ac,.slice cq de.length cc,.string m,.slice (some ⟨kb,ko,none⟩) 2 sc] 27))=W at*
 go_region_held3 (SJu w kb ko sc k0 f0 g0 aq0 an0 ac0 cq0 cn0 cc0 m0 sq0 sn0 sc0 k1 f1 g1 aq1 an1 ac1 cq1 cn1 cc1 m1 sq1 sn1 sc1)
  (first | exact⟨x6,y0,y1,y2,y3,y4,y5,y6,z0,z1,z2,z3,z4,z5,z6⟩ | exact hS5 | exact hS6)
  (first
    | (go_at_call 299;with_reducible refine(kA _ ?_).mono ?_;exact hX'.out.drew;rintro e w5 ⟨rfl,hb5⟩
       have hs:W.drew.heap.size=w.heap.size+1:=hsz
       have hS5:SJu w kb ko sc k0 f0 g0 aq0 an0 ac0 cq0 cn0 cc0 m0 sq0 sn0 sc0 k1 f1 g1 aq1 an1 ac1 cq1 cn1 cc1 m1 sq1 sn1 sc1 w5:=by
        have k1:kb<W.drew.heap.size:=by omega
        have k2:w.heap.size<W.drew.heap.size:=by omega
        exact⟨(hb5.cell (by exact k2)).trans x6,(hb5.cell (by exact k1)).trans y0,(hb5.cell (by exact k1)).trans y1,(hb5.cell (by exact k1)).trans y2,(hb5.cell (by exact k1)).trans y3,(hb5.cell (by exact k1)).trans y4,(hb5.cell (by exact k1)).trans y5,(hb5.cell (by exact k1)).trans y6,(hb5.cell (by exact k1)).trans z0,(hb5.cell (by exact k1)).trans z1,(hb5.cell (by exact k1)).trans z2,(hb5.cell (by exact k1)).trans z3,(hb5.cell (by exact k1)).trans z4,(hb5.cell (by exact k1)).trans z5,(hb5.cell (by exact k1)).trans z6⟩
       have hX5:Below w0.heap.size w0 w5:=hX'.out.drew.trans (zap hb5 (show w0.heap.size<=W.drew.heap.size from hX'.out.drew.size)))
    | (go_at_call 299;with_reducible refine(kB _ ?_).mono ?_;exact hX5;rintro e w6 ⟨rfl,hb6⟩
       have hS6:SJu w kb ko sc k0 f0 g0 aq0 an0 ac0 cq0 cn0 cc0 m0 sq0 sn0 sc0 k1 f1 g1 aq1 an1 ac1 cq1 cn1 cc1 m1 sq1 sn1 sc1 w6:=by
        have k0:=hb5.size
        have k1:kb<w5.heap.size:=by omega
        have k2:w.heap.size<w5.heap.size:=by omega
        obtain⟨a0,a1,a2,a3,a4,a5,a6,a7,a8,a9,a10,a11,a12,a13,a14⟩:=hS5
        exact⟨(hb6.cell (by exact k2)).trans a0,(hb6.cell (by exact k1)).trans a1,(hb6.cell (by exact k1)).trans a2,(hb6.cell (by exact k1)).trans a3,(hb6.cell (by exact k1)).trans a4,(hb6.cell (by exact k1)).trans a5,(hb6.cell (by exact k1)).trans a6,(hb6.cell (by exact k1)).trans a7,(hb6.cell (by exact k1)).trans a8,(hb6.cell (by exact k1)).trans a9,(hb6.cell (by exact k1)).trans a10,(hb6.cell (by exact k1)).trans a11,(hb6.cell (by exact k1)).trans a12,(hb6.cell (by exact k1)).trans a13,(hb6.cell (by exact k1)).trans a14⟩))
 all_goals
  go_wp2_with fail
  go_ret
  have bj:Below w.heap.size w w5:=b0.drew.trans (hb5.mono b0.drew.size)
  exact⟨zel (by simp),bj.trans (hb6.mono bj.size)⟩
theorem text_op6 {w0:World} {f:Int} {ng:Bool} {aq cq:Option Addr} {ac cc sc:Nat} {nu de:List Int} {m:ByteArray} {kb ko:Nat} {d0 d1:Nd} {T0 T1:List UInt8} (hkb:kb<w0.heap.size) (n0:NdAt w0 kb ko d0) (n1:NdAt w0 kb (ko+7) d1) (kA:TxC w0 299 [d0.val,.int .i64 1] T0) (kB:TxC w0 299 [d1.val,.int .i64 2] T1) (l0:T0.length<=1000000) (l1:T1.length<=1000000):
  TxC w0 188 [.agg #[.int .i64 6,.int .i64 f,.bool ng,.slice aq nu.length ac,.slice cq de.length cc,.string m,.slice (some ⟨kb,ko,none⟩) 2 sc]] (T0++(signT 6++T1)):=by
 intro w hbw
 have b0:=zaa w (.cells #[.int .i64 6,.int .i64 f,.bool ng,.slice aq nu.length ac,.slice cq de.length cc,.string m,.slice (some ⟨kb,ko,none⟩) 2 sc] 27)
 have c0:(w.alloc (.cells #[.int .i64 6,.int .i64 f,.bool ng,.slice aq nu.length ac,.slice cq de.length cc,.string m,.slice (some ⟨kb,ko,none⟩) 2 sc] 27)).heap[w.heap.size]?=some (.cells #[.int .i64 6,.int .i64 f,.bool ng,.slice aq nu.length ac,.slice cq de.length cc,.string m,.slice (some ⟨kb,ko,none⟩) 2 sc] 27 (0,0)):=heap_alloc_new w _
 have hX:=hbw.trans (zap b0 hbw.size)
 obtain⟨x0,x1,x2,x3,x4,x5,x6⟩:=zaf c0
 obtain⟨k0,f0,g0,aq0,an0,ac0,cq0,cn0,cc0,m0,sq0,sn0,sc0⟩:=d0
 obtain⟨k1,f1,g1,aq1,an1,ac1,cq1,cn1,cc1,m1,sq1,sn1,sc1⟩:=d1
 obtain⟨y0,y1,y2,y3,y4,y5,y6⟩:=n0.below hX hkb
 obtain⟨z0,z1,z2,z3,z4,z5,z6⟩:=n1.below hX hkb
 have eM:kb<w.heap.size:=Nat.lt_of_lt_of_le hkb hbw.size
 have hsz:(w.alloc (.cells #[.int .i64 6,.int .i64 f,.bool ng,.slice aq nu.length ac,.slice cq de.length cc,.string m,.slice (some ⟨kb,ko,none⟩) 2 sc] 27)).heap.size=w.heap.size+1:=by simp
 unfold TxC Nd.val at kA kB
 simp only at kA kB y0 y1 y2 y3 y4 y5 y6 z0 z1 z2 z3 z4 z5 z6
 rw[show signT 6=[32,45,32] from rfl]
 have q1:¬9223372036854775807<T0.length+3:=by omega
 have q2:¬9223372036854775807<T0.length+3+T1.length:=by omega
 have hX':=zab hX
 clear n0 n1 c0 x1 x2 x3 x4 x5 hX hbw
 go_enter Tryz.func188,Tryz.ntmps188
 go_wp2_with fail
 generalize (w.alloc (.cells #[.int .i64 6,.int .i64 f,.bool ng,.slice aq nu.length ac,.slice cq de.length cc,.string m,.slice (some ⟨kb,ko,none⟩) 2 sc] 27))=W at*
 go_region_held3 (SJu w kb ko sc k0 f0 g0 aq0 an0 ac0 cq0 cn0 cc0 m0 sq0 sn0 sc0 k1 f1 g1 aq1 an1 ac1 cq1 cn1 cc1 m1 sq1 sn1 sc1)
  (first | exact⟨x6,y0,y1,y2,y3,y4,y5,y6,z0,z1,z2,z3,z4,z5,z6⟩ | exact hS5 | exact hS6)
  (first
    | (go_at_call 299;with_reducible refine(kA _ ?_).mono ?_;exact hX'.out.drew;rintro e w5 ⟨rfl,hb5⟩
       have hs:W.drew.heap.size=w.heap.size+1:=hsz
       have hS5:SJu w kb ko sc k0 f0 g0 aq0 an0 ac0 cq0 cn0 cc0 m0 sq0 sn0 sc0 k1 f1 g1 aq1 an1 ac1 cq1 cn1 cc1 m1 sq1 sn1 sc1 w5:=by
        have k1:kb<W.drew.heap.size:=by omega
        have k2:w.heap.size<W.drew.heap.size:=by omega
        exact⟨(hb5.cell (by exact k2)).trans x6,(hb5.cell (by exact k1)).trans y0,(hb5.cell (by exact k1)).trans y1,(hb5.cell (by exact k1)).trans y2,(hb5.cell (by exact k1)).trans y3,(hb5.cell (by exact k1)).trans y4,(hb5.cell (by exact k1)).trans y5,(hb5.cell (by exact k1)).trans y6,(hb5.cell (by exact k1)).trans z0,(hb5.cell (by exact k1)).trans z1,(hb5.cell (by exact k1)).trans z2,(hb5.cell (by exact k1)).trans z3,(hb5.cell (by exact k1)).trans z4,(hb5.cell (by exact k1)).trans z5,(hb5.cell (by exact k1)).trans z6⟩
       have hX5:Below w0.heap.size w0 w5:=hX'.out.drew.trans (zap hb5 (show w0.heap.size<=W.drew.heap.size from hX'.out.drew.size)))
    | (go_at_call 299;with_reducible refine(kB _ ?_).mono ?_;exact hX5;rintro e w6 ⟨rfl,hb6⟩
       have hS6:SJu w kb ko sc k0 f0 g0 aq0 an0 ac0 cq0 cn0 cc0 m0 sq0 sn0 sc0 k1 f1 g1 aq1 an1 ac1 cq1 cn1 cc1 m1 sq1 sn1 sc1 w6:=by
        have k0:=hb5.size
        have k1:kb<w5.heap.size:=by omega
        have k2:w.heap.size<w5.heap.size:=by omega
        obtain⟨a0,a1,a2,a3,a4,a5,a6,a7,a8,a9,a10,a11,a12,a13,a14⟩:=hS5
        exact⟨(hb6.cell (by exact k2)).trans a0,(hb6.cell (by exact k1)).trans a1,(hb6.cell (by exact k1)).trans a2,(hb6.cell (by exact k1)).trans a3,(hb6.cell (by exact k1)).trans a4,(hb6.cell (by exact k1)).trans a5,(hb6.cell (by exact k1)).trans a6,(hb6.cell (by exact k1)).trans a7,(hb6.cell (by exact k1)).trans a8,(hb6.cell (by exact k1)).trans a9,(hb6.cell (by exact k1)).trans a10,(hb6.cell (by exact k1)).trans a11,(hb6.cell (by exact k1)).trans a12,(hb6.cell (by exact k1)).trans a13,(hb6.cell (by exact k1)).trans a14⟩))
 all_goals
  go_wp2_with fail
  go_ret
  have bj:Below w.heap.size w w5:=b0.drew.trans (hb5.mono b0.drew.size)
  exact⟨zel (by simp),bj.trans (hb6.mono bj.size)⟩
theorem text_op7 {w0:World} {f:Int} {ng:Bool} {aq cq:Option Addr} {ac cc sc:Nat} {nu de:List Int} {m:ByteArray} {kb ko:Nat} {d0 d1:Nd} {T0 T1:List UInt8} (hkb:kb<w0.heap.size) (n0:NdAt w0 kb ko d0) (n1:NdAt w0 kb (ko+7) d1) (kA:TxC w0 299 [d0.val,.int .i64 2] T0) (kB:TxC w0 299 [d1.val,.int .i64 3] T1) (l0:T0.length<=1000000) (l1:T1.length<=1000000):
  TxC w0 188 [.agg #[.int .i64 7,.int .i64 f,.bool ng,.slice aq nu.length ac,.slice cq de.length cc,.string m,.slice (some ⟨kb,ko,none⟩) 2 sc]] (T0++(signT 7++T1)):=by
 intro w hbw
 have b0:=zaa w (.cells #[.int .i64 7,.int .i64 f,.bool ng,.slice aq nu.length ac,.slice cq de.length cc,.string m,.slice (some ⟨kb,ko,none⟩) 2 sc] 27)
 have c0:(w.alloc (.cells #[.int .i64 7,.int .i64 f,.bool ng,.slice aq nu.length ac,.slice cq de.length cc,.string m,.slice (some ⟨kb,ko,none⟩) 2 sc] 27)).heap[w.heap.size]?=some (.cells #[.int .i64 7,.int .i64 f,.bool ng,.slice aq nu.length ac,.slice cq de.length cc,.string m,.slice (some ⟨kb,ko,none⟩) 2 sc] 27 (0,0)):=heap_alloc_new w _
 have hX:=hbw.trans (zap b0 hbw.size)
 obtain⟨x0,x1,x2,x3,x4,x5,x6⟩:=zaf c0
 obtain⟨k0,f0,g0,aq0,an0,ac0,cq0,cn0,cc0,m0,sq0,sn0,sc0⟩:=d0
 obtain⟨k1,f1,g1,aq1,an1,ac1,cq1,cn1,cc1,m1,sq1,sn1,sc1⟩:=d1
 obtain⟨y0,y1,y2,y3,y4,y5,y6⟩:=n0.below hX hkb
 obtain⟨z0,z1,z2,z3,z4,z5,z6⟩:=n1.below hX hkb
 have eM:kb<w.heap.size:=Nat.lt_of_lt_of_le hkb hbw.size
 have hsz:(w.alloc (.cells #[.int .i64 7,.int .i64 f,.bool ng,.slice aq nu.length ac,.slice cq de.length cc,.string m,.slice (some ⟨kb,ko,none⟩) 2 sc] 27)).heap.size=w.heap.size+1:=by simp
 unfold TxC Nd.val at kA kB
 simp only at kA kB y0 y1 y2 y3 y4 y5 y6 z0 z1 z2 z3 z4 z5 z6
 rw[show signT 7=[32,42,32] from rfl]
 have q1:¬9223372036854775807<T0.length+3:=by omega
 have q2:¬9223372036854775807<T0.length+3+T1.length:=by omega
 have hX':=zab hX
 clear n0 n1 c0 x1 x2 x3 x4 x5 hX hbw
 go_enter Tryz.func188,Tryz.ntmps188
 go_wp2_with fail
 generalize (w.alloc (.cells #[.int .i64 7,.int .i64 f,.bool ng,.slice aq nu.length ac,.slice cq de.length cc,.string m,.slice (some ⟨kb,ko,none⟩) 2 sc] 27))=W at*
 go_region_held3 (SJu w kb ko sc k0 f0 g0 aq0 an0 ac0 cq0 cn0 cc0 m0 sq0 sn0 sc0 k1 f1 g1 aq1 an1 ac1 cq1 cn1 cc1 m1 sq1 sn1 sc1)
  (first | exact⟨x6,y0,y1,y2,y3,y4,y5,y6,z0,z1,z2,z3,z4,z5,z6⟩ | exact hS5 | exact hS6)
  (first
    | (go_at_call 299;with_reducible refine(kA _ ?_).mono ?_;exact hX'.out.drew;rintro e w5 ⟨rfl,hb5⟩
       have hs:W.drew.heap.size=w.heap.size+1:=hsz
       have hS5:SJu w kb ko sc k0 f0 g0 aq0 an0 ac0 cq0 cn0 cc0 m0 sq0 sn0 sc0 k1 f1 g1 aq1 an1 ac1 cq1 cn1 cc1 m1 sq1 sn1 sc1 w5:=by
        have k1:kb<W.drew.heap.size:=by omega
        have k2:w.heap.size<W.drew.heap.size:=by omega
        exact⟨(hb5.cell (by exact k2)).trans x6,(hb5.cell (by exact k1)).trans y0,(hb5.cell (by exact k1)).trans y1,(hb5.cell (by exact k1)).trans y2,(hb5.cell (by exact k1)).trans y3,(hb5.cell (by exact k1)).trans y4,(hb5.cell (by exact k1)).trans y5,(hb5.cell (by exact k1)).trans y6,(hb5.cell (by exact k1)).trans z0,(hb5.cell (by exact k1)).trans z1,(hb5.cell (by exact k1)).trans z2,(hb5.cell (by exact k1)).trans z3,(hb5.cell (by exact k1)).trans z4,(hb5.cell (by exact k1)).trans z5,(hb5.cell (by exact k1)).trans z6⟩
       have hX5:Below w0.heap.size w0 w5:=hX'.out.drew.trans (zap hb5 (show w0.heap.size<=W.drew.heap.size from hX'.out.drew.size)))
    | (go_at_call 299;with_reducible refine(kB _ ?_).mono ?_;exact hX5;rintro e w6 ⟨rfl,hb6⟩
       have hS6:SJu w kb ko sc k0 f0 g0 aq0 an0 ac0 cq0 cn0 cc0 m0 sq0 sn0 sc0 k1 f1 g1 aq1 an1 ac1 cq1 cn1 cc1 m1 sq1 sn1 sc1 w6:=by
        have k0:=hb5.size
        have k1:kb<w5.heap.size:=by omega
        have k2:w.heap.size<w5.heap.size:=by omega
        obtain⟨a0,a1,a2,a3,a4,a5,a6,a7,a8,a9,a10,a11,a12,a13,a14⟩:=hS5
        exact⟨(hb6.cell (by exact k2)).trans a0,(hb6.cell (by exact k1)).trans a1,(hb6.cell (by exact k1)).trans a2,(hb6.cell (by exact k1)).trans a3,(hb6.cell (by exact k1)).trans a4,(hb6.cell (by exact k1)).trans a5,(hb6.cell (by exact k1)).trans a6,(hb6.cell (by exact k1)).trans a7,(hb6.cell (by exact k1)).trans a8,(hb6.cell (by exact k1)).trans a9,(hb6.cell (by exact k1)).trans a10,(hb6.cell (by exact k1)).trans a11,(hb6.cell (by exact k1)).trans a12,(hb6.cell (by exact k1)).trans a13,(hb6.cell (by exact k1)).trans a14⟩))
 all_goals
  go_wp2_with fail
  go_ret
  have bj:Below w.heap.size w w5:=b0.drew.trans (hb5.mono b0.drew.size)
  exact⟨zel (by simp),bj.trans (hb6.mono bj.size)⟩
theorem text_op8 {w0:World} {f:Int} {ng:Bool} {aq cq:Option Addr} {ac cc sc:Nat} {nu de:List Int} {m:ByteArray} {kb ko:Nat} {d0 d1:Nd} {T0 T1:List UInt8} (hkb:kb<w0.heap.size) (n0:NdAt w0 kb ko d0) (n1:NdAt w0 kb (ko+7) d1) (kA:TxC w0 299 [d0.val,.int .i64 2] T0) (kB:TxC w0 299 [d1.val,.int .i64 3] T1) (l0:T0.length<=1000000) (l1:T1.length<=1000000):
  TxC w0 188 [.agg #[.int .i64 8,.int .i64 f,.bool ng,.slice aq nu.length ac,.slice cq de.length cc,.string m,.slice (some ⟨kb,ko,none⟩) 2 sc]] (T0++(signT 8++T1)):=by
 intro w hbw
 have b0:=zaa w (.cells #[.int .i64 8,.int .i64 f,.bool ng,.slice aq nu.length ac,.slice cq de.length cc,.string m,.slice (some ⟨kb,ko,none⟩) 2 sc] 27)
 have c0:(w.alloc (.cells #[.int .i64 8,.int .i64 f,.bool ng,.slice aq nu.length ac,.slice cq de.length cc,.string m,.slice (some ⟨kb,ko,none⟩) 2 sc] 27)).heap[w.heap.size]?=some (.cells #[.int .i64 8,.int .i64 f,.bool ng,.slice aq nu.length ac,.slice cq de.length cc,.string m,.slice (some ⟨kb,ko,none⟩) 2 sc] 27 (0,0)):=heap_alloc_new w _
 have hX:=hbw.trans (zap b0 hbw.size)
 obtain⟨x0,x1,x2,x3,x4,x5,x6⟩:=zaf c0
 obtain⟨k0,f0,g0,aq0,an0,ac0,cq0,cn0,cc0,m0,sq0,sn0,sc0⟩:=d0
 obtain⟨k1,f1,g1,aq1,an1,ac1,cq1,cn1,cc1,m1,sq1,sn1,sc1⟩:=d1
 obtain⟨y0,y1,y2,y3,y4,y5,y6⟩:=n0.below hX hkb
 obtain⟨z0,z1,z2,z3,z4,z5,z6⟩:=n1.below hX hkb
 have eM:kb<w.heap.size:=Nat.lt_of_lt_of_le hkb hbw.size
 have hsz:(w.alloc (.cells #[.int .i64 8,.int .i64 f,.bool ng,.slice aq nu.length ac,.slice cq de.length cc,.string m,.slice (some ⟨kb,ko,none⟩) 2 sc] 27)).heap.size=w.heap.size+1:=by simp
 unfold TxC Nd.val at kA kB
 simp only at kA kB y0 y1 y2 y3 y4 y5 y6 z0 z1 z2 z3 z4 z5 z6
 rw[show signT 8=[32,47,32] from rfl]
 have q1:¬9223372036854775807<T0.length+3:=by omega
 have q2:¬9223372036854775807<T0.length+3+T1.length:=by omega
 have hX':=zab hX
 clear n0 n1 c0 x1 x2 x3 x4 x5 hX hbw
 go_enter Tryz.func188,Tryz.ntmps188
 go_wp2_with fail
 generalize (w.alloc (.cells #[.int .i64 8,.int .i64 f,.bool ng,.slice aq nu.length ac,.slice cq de.length cc,.string m,.slice (some ⟨kb,ko,none⟩) 2 sc] 27))=W at*
 go_region_held3 (SJu w kb ko sc k0 f0 g0 aq0 an0 ac0 cq0 cn0 cc0 m0 sq0 sn0 sc0 k1 f1 g1 aq1 an1 ac1 cq1 cn1 cc1 m1 sq1 sn1 sc1)
  (first | exact⟨x6,y0,y1,y2,y3,y4,y5,y6,z0,z1,z2,z3,z4,z5,z6⟩ | exact hS5 | exact hS6)
  (first
    | (go_at_call 299;with_reducible refine(kA _ ?_).mono ?_;exact hX'.out.drew;rintro e w5 ⟨rfl,hb5⟩
       have hs:W.drew.heap.size=w.heap.size+1:=hsz
       have hS5:SJu w kb ko sc k0 f0 g0 aq0 an0 ac0 cq0 cn0 cc0 m0 sq0 sn0 sc0 k1 f1 g1 aq1 an1 ac1 cq1 cn1 cc1 m1 sq1 sn1 sc1 w5:=by
        have k1:kb<W.drew.heap.size:=by omega
        have k2:w.heap.size<W.drew.heap.size:=by omega
        exact⟨(hb5.cell (by exact k2)).trans x6,(hb5.cell (by exact k1)).trans y0,(hb5.cell (by exact k1)).trans y1,(hb5.cell (by exact k1)).trans y2,(hb5.cell (by exact k1)).trans y3,(hb5.cell (by exact k1)).trans y4,(hb5.cell (by exact k1)).trans y5,(hb5.cell (by exact k1)).trans y6,(hb5.cell (by exact k1)).trans z0,(hb5.cell (by exact k1)).trans z1,(hb5.cell (by exact k1)).trans z2,(hb5.cell (by exact k1)).trans z3,(hb5.cell (by exact k1)).trans z4,(hb5.cell (by exact k1)).trans z5,(hb5.cell (by exact k1)).trans z6⟩
       have hX5:Below w0.heap.size w0 w5:=hX'.out.drew.trans (zap hb5 (show w0.heap.size<=W.drew.heap.size from hX'.out.drew.size)))
    | (go_at_call 299;with_reducible refine(kB _ ?_).mono ?_;exact hX5;rintro e w6 ⟨rfl,hb6⟩
       have hS6:SJu w kb ko sc k0 f0 g0 aq0 an0 ac0 cq0 cn0 cc0 m0 sq0 sn0 sc0 k1 f1 g1 aq1 an1 ac1 cq1 cn1 cc1 m1 sq1 sn1 sc1 w6:=by
        have k0:=hb5.size
        have k1:kb<w5.heap.size:=by omega
        have k2:w.heap.size<w5.heap.size:=by omega
        obtain⟨a0,a1,a2,a3,a4,a5,a6,a7,a8,a9,a10,a11,a12,a13,a14⟩:=hS5
        exact⟨(hb6.cell (by exact k2)).trans a0,(hb6.cell (by exact k1)).trans a1,(hb6.cell (by exact k1)).trans a2,(hb6.cell (by exact k1)).trans a3,(hb6.cell (by exact k1)).trans a4,(hb6.cell (by exact k1)).trans a5,(hb6.cell (by exact k1)).trans a6,(hb6.cell (by exact k1)).trans a7,(hb6.cell (by exact k1)).trans a8,(hb6.cell (by exact k1)).trans a9,(hb6.cell (by exact k1)).trans a10,(hb6.cell (by exact k1)).trans a11,(hb6.cell (by exact k1)).trans a12,(hb6.cell (by exact k1)).trans a13,(hb6.cell (by exact k1)).trans a14⟩))
 all_goals
  go_wp2_with fail
  go_ret
  have bj:Below w.heap.size w w5:=b0.drew.trans (hb5.mono b0.drew.size)
  exact⟨zel (by simp),bj.trans (hb6.mono bj.size)⟩
end Go.Proofs.YtnnhofmknilopaaGreatDoor
