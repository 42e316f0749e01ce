import Derived.Test.YtnnhofmknilopaaGreatDoorPk24
namespace Go.Proofs.YtnnhofmknilopaaGreatDoor
open Go Go.RowKit
set_option maxRecDepth 100000
set_option maxHeartbeats 16000000
theorem zl5 {w0:World} {f:Int} {ng:Bool} {aq cq sq:Option Addr} {ac cc sc:Nat} {nu de:List Int} {m:ByteArray} (h1:Sl w0 (.slice aq nu.length ac) nu) (h2:Sl w0 (.slice cq de.length cc) de) (ln:nu.length<=1048576) (ld:de.length<=1048576) (hT:Tb w0) (hL:large (val nu) (val de)=false):
  WrC w0 387 [.agg #[.int .i64 1,.int .i64 f,.bool ng,.slice aq nu.length ac,.slice cq de.length cc,.string m,.slice sq 0 sc]] (numT ng (val nu) (val de)):=by
 intro w B b l hbw hB0 hB hbl ae
 obtain⟨hBb,hbs⟩:=hbl.le
 have b0':=zaa w (.cells #[.int .i64 1,.int .i64 f,.bool ng,.slice aq nu.length ac,.slice cq de.length cc,.string m,.slice sq 0 sc] 27)
 have c0:Hid ((w.alloc (.cells #[.int .i64 1,.int .i64 f,.bool ng,.slice aq nu.length ac,.slice cq de.length cc,.string m,.slice sq 0 sc] 27)).heap[w.heap.size]?=some (.cells #[.int .i64 1,.int .i64 f,.bool ng,.slice aq nu.length ac,.slice cq de.length cc,.string m,.slice sq 0 sc] 27 (0,0))):=heap_alloc_new w _
 have W0:Hid (Wr B b w (w.alloc (.cells #[.int .i64 1,.int .i64 f,.bool ng,.slice aq nu.length ac,.slice cq de.length cc,.string m,.slice sq 0 sc] 27))):=Wr.of b0' hB
 have bl0:=zab (hbl.below b0')
 have aS:=zab hB0
 have aH:=zab hbw
 have hB':=zab hB
 have hNb:w.heap.size≠b:=by omega
 have hX:=W0.out.base hbw hB0
 have hf:=ze0 (g:=ng) (h1.below hX) (h2.below hX) (by omega) (by omega) (hT.below hX) hL
 obtain⟨x0,x1,x2,x3,x4,x5,x6⟩:=zaf c0.out
 clear hB0 hbw hB hbl b0' h1 h2 hX hT
 go_enter Tryz.func387,Tryz.ntmps387
 go_wp2_with (first
  | (go_at_call 93;refine hf.mono ?_;rintro e w1 ⟨rfl,hb1⟩
     have W1:=W0.out.trans (Wr.of (B:=B) (b:=b) hb1 (Nat.le_trans hB'.out W0.out.size))
     have hS:=wstr (s:=numT ng (val nu) (val de)) (bl0.out.below hb1) (by omega) (Nat.le_trans hB'.out W1.size)
     clear hf hb1)
  | (go_at_call 28;refine hS.mono ?_;rintro e w2 ⟨⟨v2,rfl⟩,bl2,W12⟩))
 go_end0
 exact⟨⟨_,rfl⟩,bl2,W1.trans W12⟩
theorem zkb {w0:World} {f:Int} {ng:Bool} {aq cq sq:Option Addr} {ac cc sc:Nat} {nu de:List Int} {m:ByteArray}:WrC w0 387 [.agg #[.int .i64 2,.int .i64 f,.bool ng,.slice aq nu.length ac,.slice cq de.length cc,.string m,.slice sq 0 sc]] m.toList:=by
 intro w B b l hbw hB0 hB hbl ae
 obtain⟨hBb,hbs⟩:=hbl.le
 have b0':=zaa w (.cells #[.int .i64 2,.int .i64 f,.bool ng,.slice aq nu.length ac,.slice cq de.length cc,.string m,.slice sq 0 sc] 27)
 have c0:Hid ((w.alloc (.cells #[.int .i64 2,.int .i64 f,.bool ng,.slice aq nu.length ac,.slice cq de.length cc,.string m,.slice sq 0 sc] 27)).heap[w.heap.size]?=some (.cells #[.int .i64 2,.int .i64 f,.bool ng,.slice aq nu.length ac,.slice cq de.length cc,.string m,.slice sq 0 sc] 27 (0,0))):=heap_alloc_new w _
 have W0:Hid (Wr B b w (w.alloc (.cells #[.int .i64 2,.int .i64 f,.bool ng,.slice aq nu.length ac,.slice cq de.length cc,.string m,.slice sq 0 sc] 27))):=Wr.of b0' hB
 have bl0:=zab (hbl.below b0')
 have aS:=zab hB0
 have aH:=zab hbw
 have hB':=zab hB
 have hNb:w.heap.size≠b:=by omega
 have hS:=wstr (s:=m.toList) bl0.out ae (Nat.le_trans hB W0.out.size)
 rw[<-ze4 m] at hS
 obtain⟨x0,x1,x2,x3,x4,x5,x6⟩:=zaf c0.out
 clear hB0 hbw hB hbl b0'
 go_enter Tryz.func387,Tryz.ntmps387
 go_wp2_with (go_at_call 28;refine hS.mono ?_;rintro e w2 ⟨⟨v2,rfl⟩,bl2,W12⟩)
 go_end0
 exact⟨⟨_,rfl⟩,bl2,W0.out.trans W12⟩
theorem write_pi {w0:World} {f:Int} {ng:Bool} {aq cq sq:Option Addr} {ac cc sc:Nat} {nu de:List Int} {m:ByteArray}:WrC w0 387 [.agg #[.int .i64 3,.int .i64 f,.bool ng,.slice aq nu.length ac,.slice cq de.length cc,.string m,.slice sq 0 sc]] [112,105]:=by
 intro w B b l hbw hB0 hB hbl ae
 obtain⟨hBb,hbs⟩:=hbl.le
 have b0':=zaa w (.cells #[.int .i64 3,.int .i64 f,.bool ng,.slice aq nu.length ac,.slice cq de.length cc,.string m,.slice sq 0 sc] 27)
 have c0:Hid ((w.alloc (.cells #[.int .i64 3,.int .i64 f,.bool ng,.slice aq nu.length ac,.slice cq de.length cc,.string m,.slice sq 0 sc] 27)).heap[w.heap.size]?=some (.cells #[.int .i64 3,.int .i64 f,.bool ng,.slice aq nu.length ac,.slice cq de.length cc,.string m,.slice sq 0 sc] 27 (0,0))):=heap_alloc_new w _
 have W0:Hid (Wr B b w (w.alloc (.cells #[.int .i64 3,.int .i64 f,.bool ng,.slice aq nu.length ac,.slice cq de.length cc,.string m,.slice sq 0 sc] 27))):=Wr.of b0' hB
 have bl0:=zab (hbl.below b0')
 have aS:=zab hB0
 have aH:=zab hbw
 have hB':=zab hB
 have hNb:w.heap.size≠b:=by omega
 have hS:=wstr (s:=[112,105]) bl0.out ae (Nat.le_trans hB W0.out.size)
 obtain⟨x0,x1,x2,x3,x4,x5,x6⟩:=zaf c0.out
 clear hB0 hbw hB hbl b0'
 go_enter Tryz.func387,Tryz.ntmps387
 go_wp2_with (go_at_call 28;refine hS.mono ?_;rintro e w2 ⟨⟨v2,rfl⟩,bl2,W12⟩)
 go_end0
 exact⟨⟨_,rfl⟩,bl2,W0.out.trans W12⟩
theorem zl6 {w0:World} {f:Int} {ng:Bool} {aq cq:Option Addr} {ac cc sc:Nat} {nu de:List Int} {m:ByteArray} {kb ko:Nat} {d1:Nd} {T:List UInt8} (hkb:kb<w0.heap.size) (hn:NdAt w0 kb ko d1) (hX:WrC w0 459 [d1.val,.int .i64 3] T):
  WrC w0 387 [.agg #[.int .i64 4,.int .i64 f,.bool ng,.slice aq nu.length ac,.slice cq de.length cc,.string m,.slice (some ⟨kb,ko,none⟩) 1 sc]] (45::T):=by
 intro w B b l hbw hB0 hB hbl ae
 obtain⟨hBb,hbs⟩:=hbl.le
 have b0':=zaa w (.cells #[.int .i64 4,.int .i64 f,.bool ng,.slice aq nu.length ac,.slice cq de.length cc,.string m,.slice (some ⟨kb,ko,none⟩) 1 sc] 27)
 have c0:Hid ((w.alloc (.cells #[.int .i64 4,.int .i64 f,.bool ng,.slice aq nu.length ac,.slice cq de.length cc,.string m,.slice (some ⟨kb,ko,none⟩) 1 sc] 27)).heap[w.heap.size]?=some (.cells #[.int .i64 4,.int .i64 f,.bool ng,.slice aq nu.length ac,.slice cq de.length cc,.string m,.slice (some ⟨kb,ko,none⟩) 1 sc] 27 (0,0))):=heap_alloc_new w _
 have W0:Hid (Wr B b w (w.alloc (.cells #[.int .i64 4,.int .i64 f,.bool ng,.slice aq nu.length ac,.slice cq de.length cc,.string m,.slice (some ⟨kb,ko,none⟩) 1 sc] 27))):=Wr.of b0' hB
 have bl0:=zab (hbl.below b0')
 have aS:=zab hB0
 have aH:=zab hbw
 have hB':=zab hB
 have hNb:w.heap.size≠b:=by omega
 simp only[List.length_cons] at ae
 have hX':=zab hX
 have hn':=zab hn
 obtain⟨k2,f2,g2,aq2,an2,ac2,cq2,cn2,cc2,m2,sq2,sn2,sc2⟩:=d1
 unfold Nd.val at hX'
 simp only at hX'
 have hS:=wstr (s:=[45]) bl0.out (by simp only[List.length_cons,List.length_nil];omega) (Nat.le_trans hB W0.out.size)
 obtain⟨x0,x1,x2,x3,x4,x5,x6⟩:=zaf c0.out
 clear hB0 hbw hB hbl b0' hX hn
 go_enter Tryz.func387,Tryz.ntmps387
 go_wp2_with (first
  | (go_at_call 28;refine hS.mono ?_;rintro e w1 ⟨⟨v1,rfl⟩,bl1,W01⟩
     have W1:=W0.out.trans W01
     have c1:=W01.blk c0.out hNb (by decide)
     have hP:=hX'.out w1 B b _ (W1.base aH.out aS.out) aS.out (Nat.le_trans hB'.out W1.size) bl1 (by simp only[List.length_append,List.length_cons,List.length_nil];omega)
     clear x0 x1 x2 x3 x4 x5 x6 W01
     obtain⟨x0,x1,x2,x3,x4,x5,x6⟩:=zaf c1
     obtain⟨y0,y1,y2,y3,y4,y5,y6⟩:=hn'.out.below (W1.base aH.out aS.out) hkb
     clear hS c1 bl1)
  | (go_at_call 459;refine hP.mono ?_;rintro e w2 ⟨⟨v2,rfl⟩,bl2,W12⟩))
 go_end0
 exact⟨⟨_,rfl⟩,by simpa using bl2,W1.trans W12⟩
theorem zl7 {w0:World} {f:Int} {ng:Bool} {aq cq:Option Addr} {ac cc sc:Nat} {nu de:List Int} {m:ByteArray} {kb ko:Nat} {d1:Nd} {T:List UInt8} (hkb:kb<w0.heap.size) (hn:NdAt w0 kb ko d1) (hX:WrC w0 459 [d1.val,.int .i64 5] T) (hTi:Ti w0) (hf1:-32<=f) (hf2:f<=32):
  WrC w0 387 [.agg #[.int .i64 9,.int .i64 f,.bool ng,.slice aq nu.length ac,.slice cq de.length cc,.string m,.slice (some ⟨kb,ko,none⟩) 1 sc]] (T++(94::Lib.itoa f)):=by
 intro w B b l hbw hB0 hB hbl ae
 obtain⟨hBb,hbs⟩:=hbl.le
 have b0':=zaa w (.cells #[.int .i64 9,.int .i64 f,.bool ng,.slice aq nu.length ac,.slice cq de.length cc,.string m,.slice (some ⟨kb,ko,none⟩) 1 sc] 27)
 have c0:Hid ((w.alloc (.cells #[.int .i64 9,.int .i64 f,.bool ng,.slice aq nu.length ac,.slice cq de.length cc,.string m,.slice (some ⟨kb,ko,none⟩) 1 sc] 27)).heap[w.heap.size]?=some (.cells #[.int .i64 9,.int .i64 f,.bool ng,.slice aq nu.length ac,.slice cq de.length cc,.string m,.slice (some ⟨kb,ko,none⟩) 1 sc] 27 (0,0))):=heap_alloc_new w _
 have W0:Hid (Wr B b w (w.alloc (.cells #[.int .i64 9,.int .i64 f,.bool ng,.slice aq nu.length ac,.slice cq de.length cc,.string m,.slice (some ⟨kb,ko,none⟩) 1 sc] 27))):=Wr.of b0' hB
 have bl0:=zab (hbl.below b0')
 have aS:=zab hB0
 have aH:=zab hbw
 have hB':=zab hB
 have hNb:w.heap.size≠b:=by omega
 simp only[List.length_cons,List.length_append] at ae
 have hX':=zab hX
 have hn':=zab hn
 have bE:=zab hTi
 obtain⟨k2,f2,g2,aq2,an2,ac2,cq2,cn2,cc2,m2,sq2,sn2,sc2⟩:=d1
 unfold Nd.val at hX'
 simp only at hX'
 have hP:=hX'.out _ B b _ (W0.out.base hbw hB0) hB0 (Nat.le_trans hB W0.out.size) bl0.out (by omega)
 have hil:=zbn (n:=f) (by show _<10000000000000000000;omega)
 have hit:=fun w hw=>zc5 f (by omega) (by omega) w hw
 generalize Lib.itoa f=I at*
 obtain⟨x0,x1,x2,x3,x4,x5,x6⟩:=zaf c0.out
 obtain⟨y0,y1,y2,y3,y4,y5,y6⟩:=hn'.out.below (W0.out.base hbw hB0) hkb
 clear hB0 hbw hB hbl b0' hX hn hTi
 go_enter Tryz.func387,Tryz.ntmps387
 go_wp2_with (first
  | (go_at_call 459;refine hP.mono ?_;rintro e w1 ⟨⟨v1,rfl⟩,bl1,W01⟩
     have W1:=W0.out.trans W01
     have c1:=W01.blk c0.out hNb (by decide)
     have hI:=hit w1 (bE.out.below (W1.base aH.out aS.out))
     clear x0 x1 x2 x3 x4 x5 x6 y0 y1 y2 y3 y4 y5 y6 hP W01
     obtain⟨x0,x1,x2,x3,x4,x5,x6⟩:=zaf c1)
  | (go_at_call 47;refine hI.mono ?_;rintro e w2 ⟨rfl,hb2⟩
     have W2:=W1.trans (Wr.of (B:=B) (b:=b) hb2 (Nat.le_trans hB'.out W1.size))
     have hS:=wstr (s:=94::I) (bl1.below hb2) (by simp only[List.length_append,List.length_cons];omega) (Nat.le_trans hB'.out W2.size)
     rw[show (⟨(94::I).toArray⟩:ByteArray)=⟨#[94]⟩++⟨I.toArray⟩ from ByteArray.ext (by simp)] at hS
     clear hI hb2)
  | (go_at_call 28;refine hS.mono ?_;rintro e w3 ⟨⟨v3,rfl⟩,bl3,W23⟩))
 go_end0
 exact⟨⟨_,rfl⟩,by simpa using bl3,W2.trans W23⟩
theorem zl8 {w0:World} {f:Int} {ng:Bool} {aq cq:Option Addr} {ac cc sc:Nat} {nu de:List Int} {m:ByteArray} {kb ko:Nat} {T:List UInt8} (hX:WrC w0 460 [.agg #[.int .i64 5,.int .i64 f,.bool ng,.slice aq nu.length ac,.slice cq de.length cc,.string m,.slice (some ⟨kb,ko,none⟩) 2 sc],.int .i64 1,.int .i64 2] T):
  WrC w0 387 [.agg #[.int .i64 5,.int .i64 f,.bool ng,.slice aq nu.length ac,.slice cq de.length cc,.string m,.slice (some ⟨kb,ko,none⟩) 2 sc]] T:=by
 intro w B b l hbw hB0 hB hbl ae
 obtain⟨hBb,hbs⟩:=hbl.le
 have b0':=zaa w (.cells #[.int .i64 5,.int .i64 f,.bool ng,.slice aq nu.length ac,.slice cq de.length cc,.string m,.slice (some ⟨kb,ko,none⟩) 2 sc] 27)
 have c0:Hid ((w.alloc (.cells #[.int .i64 5,.int .i64 f,.bool ng,.slice aq nu.length ac,.slice cq de.length cc,.string m,.slice (some ⟨kb,ko,none⟩) 2 sc] 27)).heap[w.heap.size]?=some (.cells #[.int .i64 5,.int .i64 f,.bool ng,.slice aq nu.length ac,.slice cq de.length cc,.string m,.slice (some ⟨kb,ko,none⟩) 2 sc] 27 (0,0))):=heap_alloc_new w _
 have W0:Hid (Wr B b w (w.alloc (.cells #[.int .i64 5,.int .i64 f,.bool ng,.slice aq nu.length ac,.slice cq de.length cc,.string m,.slice (some ⟨kb,ko,none⟩) 2 sc] 27))):=Wr.of b0' hB
 have bl0:=zab (hbl.below b0')
 have aS:=zab hB0
 have aH:=zab hbw
 have hB':=zab hB
 have hNb:w.heap.size≠b:=by omega
 have hP:=hX _ B b _ (W0.out.base hbw hB0) hB0 (Nat.le_trans hB W0.out.size) bl0.out ae
 obtain⟨x0,x1,x2,x3,x4,x5,x6⟩:=zaf c0.out
 clear hB0 hbw hB hbl b0' hX
 go_enter Tryz.func387,Tryz.ntmps387
 go_wp2_with (go_at_call 460;refine hP.mono ?_;rintro e w1 ⟨⟨v1,rfl⟩,bl1,W01⟩)
 go_end0
 exact⟨⟨_,rfl⟩,bl1,W0.out.trans W01⟩
theorem zl9 {w0:World} {f:Int} {ng:Bool} {aq cq:Option Addr} {ac cc sc:Nat} {nu de:List Int} {m:ByteArray} {kb ko:Nat} {T:List UInt8} (hX:WrC w0 460 [.agg #[.int .i64 6,.int .i64 f,.bool ng,.slice aq nu.length ac,.slice cq de.length cc,.string m,.slice (some ⟨kb,ko,none⟩) 2 sc],.int .i64 1,.int .i64 2] T):
  WrC w0 387 [.agg #[.int .i64 6,.int .i64 f,.bool ng,.slice aq nu.length ac,.slice cq de.length cc,.string m,.slice (some ⟨kb,ko,none⟩) 2 sc]] T:=by
 intro w B b l hbw hB0 hB hbl ae
 obtain⟨hBb,hbs⟩:=hbl.le
 have b0':=zaa w (.cells #[.int .i64 6,.int .i64 f,.bool ng,.slice aq nu.length ac,.slice cq de.length cc,.string m,.slice (some ⟨kb,ko,none⟩) 2 sc] 27)
 have c0:Hid ((w.alloc (.cells #[.int .i64 6,.int .i64 f,.bool ng,.slice aq nu.length ac,.slice cq de.length cc,.string m,.slice (some ⟨kb,ko,none⟩) 2 sc] 27)).heap[w.heap.size]?=some (.cells #[.int .i64 6,.int .i64 f,.bool ng,.slice aq nu.length ac,.slice cq de.length cc,.string m,.slice (some ⟨kb,ko,none⟩) 2 sc] 27 (0,0))):=heap_alloc_new w _
 have W0:Hid (Wr B b w (w.alloc (.cells #[.int .i64 6,.int .i64 f,.bool ng,.slice aq nu.length ac,.slice cq de.length cc,.string m,.slice (some ⟨kb,ko,none⟩) 2 sc] 27))):=Wr.of b0' hB
 have bl0:=zab (hbl.below b0')
 have aS:=zab hB0
 have aH:=zab hbw
 have hB':=zab hB
 have hNb:w.heap.size≠b:=by omega
 have hP:=hX _ B b _ (W0.out.base hbw hB0) hB0 (Nat.le_trans hB W0.out.size) bl0.out ae
 obtain⟨x0,x1,x2,x3,x4,x5,x6⟩:=zaf c0.out
 clear hB0 hbw hB hbl b0' hX
 go_enter Tryz.func387,Tryz.ntmps387
 go_wp2_with (go_at_call 460;refine hP.mono ?_;rintro e w1 ⟨⟨v1,rfl⟩,bl1,W01⟩)
 go_end0
 exact⟨⟨_,rfl⟩,bl1,W0.out.trans W01⟩
theorem zma {w0:World} {f:Int} {ng:Bool} {aq cq:Option Addr} {ac cc sc:Nat} {nu de:List Int} {m:ByteArray} {kb ko:Nat} {T:List UInt8} (hX:WrC w0 460 [.agg #[.int .i64 7,.int .i64 f,.bool ng,.slice aq nu.length ac,.slice cq de.length cc,.string m,.slice (some ⟨kb,ko,none⟩) 2 sc],.int .i64 2,.int .i64 3] T):
  WrC w0 387 [.agg #[.int .i64 7,.int .i64 f,.bool ng,.slice aq nu.length ac,.slice cq de.length cc,.string m,.slice (some ⟨kb,ko,none⟩) 2 sc]] T:=by
 intro w B b l hbw hB0 hB hbl ae
 obtain⟨hBb,hbs⟩:=hbl.le
 have b0':=zaa w (.cells #[.int .i64 7,.int .i64 f,.bool ng,.slice aq nu.length ac,.slice cq de.length cc,.string m,.slice (some ⟨kb,ko,none⟩) 2 sc] 27)
 have c0:Hid ((w.alloc (.cells #[.int .i64 7,.int .i64 f,.bool ng,.slice aq nu.length ac,.slice cq de.length cc,.string m,.slice (some ⟨kb,ko,none⟩) 2 sc] 27)).heap[w.heap.size]?=some (.cells #[.int .i64 7,.int .i64 f,.bool ng,.slice aq nu.length ac,.slice cq de.length cc,.string m,.slice (some ⟨kb,ko,none⟩) 2 sc] 27 (0,0))):=heap_alloc_new w _
 have W0:Hid (Wr B b w (w.alloc (.cells #[.int .i64 7,.int .i64 f,.bool ng,.slice aq nu.length ac,.slice cq de.length cc,.string m,.slice (some ⟨kb,ko,none⟩) 2 sc] 27))):=Wr.of b0' hB
 have bl0:=zab (hbl.below b0')
 have aS:=zab hB0
 have aH:=zab hbw
 have hB':=zab hB
 have hNb:w.heap.size≠b:=by omega
 have hP:=hX _ B b _ (W0.out.base hbw hB0) hB0 (Nat.le_trans hB W0.out.size) bl0.out ae
 obtain⟨x0,x1,x2,x3,x4,x5,x6⟩:=zaf c0.out
 clear hB0 hbw hB hbl b0' hX
 go_enter Tryz.func387,Tryz.ntmps387
 go_wp2_with (go_at_call 460;refine hP.mono ?_;rintro e w1 ⟨⟨v1,rfl⟩,bl1,W01⟩)
 go_end0
 exact⟨⟨_,rfl⟩,bl1,W0.out.trans W01⟩
theorem zmb {w0:World} {f:Int} {ng:Bool} {aq cq:Option Addr} {ac cc sc:Nat} {nu de:List Int} {m:ByteArray} {kb ko:Nat} {T:List UInt8} (hX:WrC w0 460 [.agg #[.int .i64 8,.int .i64 f,.bool ng,.slice aq nu.length ac,.slice cq de.length cc,.string m,.slice (some ⟨kb,ko,none⟩) 2 sc],.int .i64 2,.int .i64 3] T):
  WrC w0 387 [.agg #[.int .i64 8,.int .i64 f,.bool ng,.slice aq nu.length ac,.slice cq de.length cc,.string m,.slice (some ⟨kb,ko,none⟩) 2 sc]] T:=by
 intro w B b l hbw hB0 hB hbl ae
 obtain⟨hBb,hbs⟩:=hbl.le
 have b0':=zaa w (.cells #[.int .i64 8,.int .i64 f,.bool ng,.slice aq nu.length ac,.slice cq de.length cc,.string m,.slice (some ⟨kb,ko,none⟩) 2 sc] 27)
 have c0:Hid ((w.alloc (.cells #[.int .i64 8,.int .i64 f,.bool ng,.slice aq nu.length ac,.slice cq de.length cc,.string m,.slice (some ⟨kb,ko,none⟩) 2 sc] 27)).heap[w.heap.size]?=some (.cells #[.int .i64 8,.int .i64 f,.bool ng,.slice aq nu.length ac,.slice cq de.length cc,.string m,.slice (some ⟨kb,ko,none⟩) 2 sc] 27 (0,0))):=heap_alloc_new w _
 have W0:Hid (Wr B b w (w.alloc (.cells #[.int .i64 8,.int .i64 f,.bool ng,.slice aq nu.length ac,.slice cq de.length cc,.string m,.slice (some ⟨kb,ko,none⟩) 2 sc] 27))):=Wr.of b0' hB
 have bl0:=zab (hbl.below b0')
 have aS:=zab hB0
 have aH:=zab hbw
 have hB':=zab hB
 have hNb:w.heap.size≠b:=by omega
 have hP:=hX _ B b _ (W0.out.base hbw hB0) hB0 (Nat.le_trans hB W0.out.size) bl0.out ae
 obtain⟨x0,x1,x2,x3,x4,x5,x6⟩:=zaf c0.out
 clear hB0 hbw hB hbl b0' hX
 go_enter Tryz.func387,Tryz.ntmps387
 go_wp2_with (go_at_call 460;refine hP.mono ?_;rintro e w1 ⟨⟨v1,rfl⟩,bl1,W01⟩)
 go_end0
 exact⟨⟨_,rfl⟩,bl1,W0.out.trans W01⟩
theorem zkc {w0:World} {f:Int} {ng:Bool} {aq cq sq:Option Addr} {ac cc sc:Nat} {nu de:List Int} {m:ByteArray} {k:Int} {n:Nat} {T:List UInt8} (hk:10<=k) (hX:WrC w0 461 [.agg #[.int .i64 k,.int .i64 f,.bool ng,.slice aq nu.length ac,.slice cq de.length cc,.string m,.slice sq n sc]] T):
  WrC w0 387 [.agg #[.int .i64 k,.int .i64 f,.bool ng,.slice aq nu.length ac,.slice cq de.length cc,.string m,.slice sq n sc]] T:=by
 intro w B b l hbw hB0 hB hbl ae
 obtain⟨hBb,hbs⟩:=hbl.le
 have b0':=zaa w (.cells #[.int .i64 k,.int .i64 f,.bool ng,.slice aq nu.length ac,.slice cq de.length cc,.string m,.slice sq n sc] 27)
 have c0:Hid ((w.alloc (.cells #[.int .i64 k,.int .i64 f,.bool ng,.slice aq nu.length ac,.slice cq de.length cc,.string m,.slice sq n sc] 27)).heap[w.heap.size]?=some (.cells #[.int .i64 k,.int .i64 f,.bool ng,.slice aq nu.length ac,.slice cq de.length cc,.string m,.slice sq n sc] 27 (0,0))):=heap_alloc_new w _
 have W0:Hid (Wr B b w (w.alloc (.cells #[.int .i64 k,.int .i64 f,.bool ng,.slice aq nu.length ac,.slice cq de.length cc,.string m,.slice sq n sc] 27))):=Wr.of b0' hB
 have bl0:=zab (hbl.below b0')
 have aS:=zab hB0
 have aH:=zab hbw
 have hB':=zab hB
 have hNb:w.heap.size≠b:=by omega
 have hP:=hX _ B b _ (W0.out.base hbw hB0) hB0 (Nat.le_trans hB W0.out.size) bl0.out ae
 obtain⟨x0,x1,x2,x3,x4,x5,x6⟩:=zaf c0.out
 have e1:(k==1)=false:=by simp;omega
 have e2:(k==2)=false:=by simp;omega
 have e3:(k==3)=false:=by simp;omega
 have e4:(k==4)=false:=by simp;omega
 have e5:(k==5)=false:=by simp;omega
 have e6:(k==6)=false:=by simp;omega
 have e7:(k==7)=false:=by simp;omega
 have e8:(k==8)=false:=by simp;omega
 have e9:(k==9)=false:=by simp;omega
 clear hB0 hbw hB hbl b0' hX
 go_enter Tryz.func387,Tryz.ntmps387
 go_wp2_with (go_at_call 461;refine hP.mono ?_;rintro e w1 ⟨⟨v1,rfl⟩,bl1,W01⟩)
 go_end0
 exact⟨⟨_,rfl⟩,bl1,W0.out.trans W01⟩
theorem zmc {w:World}:∀{x:Ex} {d:Nd},ExOk w x d->x.vd->d.k=x.k/\1<=x.k/\x.k<=15
 | .non,_,h,_=>h.elim
 | .mk k f g nu de m n ar,d,h,hv=>by
  unfold ExOk at h
  refine⟨h.1.1,?_⟩
  show 1<=k/\k<=15
  rcases zgf hv.1 with h | h | h | h | h | h | h | h | h | h | h | h | h | h | h<;>omega
theorem write_ok {w0:World} (hT:Tb w0) (hTi:Ti w0):∀(x:Ex) (d:Nd),ExOk w0 x d->x.vd->WrC w0 387 [d.val] x.txt:=by
 intro x
 induction x with
 | non=>exact fun _ h=>h.elim
 | mk k f g nu de m n ar ih=>
  intro d h hv
  unfold ExOk at h
  obtain⟨⟨rfl,rfl,rfl,rfl,hsn⟩,h2,h3,h4,h5,h6,h7⟩:=h
  obtain⟨hN,hvk⟩:=hv
  obtain⟨dk,df,dg,aq,an,ac,cq,cn,cc,dm,sq,sn,sc⟩:=d
  simp only at hsn h2 h3 h7 hN
  subst hsn
  obtain⟨_,_,e1⟩:=h2.form
  obtain⟨_,_,e2⟩:=h3.form
  simp only[Value.slice.injEq] at e1 e2
  obtain⟨rfl,rfl,rfl⟩:=e1
  obtain⟨rfl,rfl,rfl⟩:=e2
  unfold Nd.val
  simp only
  have htx:(Ex.mk dk df dg nu de dm sn ar).txt=nodeT dk df dg (val nu) (val de) dm sn (fun i=>(ar i).txt) (fun i=>lev (ar i).k):=rfl
  rw[htx]
  have kid:∀{b o:Nat} {ds:Nat->Nd},(∀i,i<sn->NdAt w0 b (o+i*7) (ds i)/\ExOk w0 (ar i) (ds i))->∀i p,i<sn->WrC w0 459 [(ds i).val,.int .i64 p] (parT (lev (ar i).k) p (ar i).txt):=by
   intro b o ds hd i p hi
   obtain⟨hk0,hk1,hk2⟩:=zmc (hd i hi).2 (hvk i hi)
   have:=place_ok (p:=p) (ih i (ds i) (hd i hi).2 (hvk i hi)) (by omega) (by omega)
   rwa [hk0] at this
  rcases zgf hN with⟨rfl,rfl⟩ | ⟨rfl,rfl⟩ | ⟨rfl,rfl⟩ | ⟨rfl,rfl⟩ | ⟨rfl,rfl⟩ | ⟨rfl,rfl⟩ | ⟨rfl,rfl⟩ | ⟨rfl,rfl⟩ | ⟨rfl,rfl⟩ | hk | hk | hk | hk | hk | hk
  ·exact zl5 h2 h3 h4 h5 hT (ze5 hN)
  ·exact zkb
  ·exact write_pi
  ·obtain⟨b,o,rfl,hb,ds,hd⟩:=h7.resolve_left (by omega)
   exact zl6 hb (by simpa using (hd 0 (by omega)).1) (kid hd 0 3 (by omega))
  ·obtain⟨b,o,rfl,hb,ds,hd⟩:=h7.resolve_left (by omega)
   exact zl8 (zeo (.inl rfl) hb (by simpa using (hd 0 (by omega)).1) (by simpa using (hd 1 (by omega)).1) (kid hd 0 1 (by omega)) (kid hd 1 2 (by omega)))
  ·obtain⟨b,o,rfl,hb,ds,hd⟩:=h7.resolve_left (by omega)
   exact zl9 (zeo (.inr (.inl rfl)) hb (by simpa using (hd 0 (by omega)).1) (by simpa using (hd 1 (by omega)).1) (kid hd 0 1 (by omega)) (kid hd 1 2 (by omega)))
  ·obtain⟨b,o,rfl,hb,ds,hd⟩:=h7.resolve_left (by omega)
   exact zma (zeo (.inr (.inr (.inl rfl))) hb (by simpa using (hd 0 (by omega)).1) (by simpa using (hd 1 (by omega)).1) (kid hd 0 2 (by omega)) (kid hd 1 3 (by omega)))
  ·obtain⟨b,o,rfl,hb,ds,hd⟩:=h7.resolve_left (by omega)
   exact zmb (zeo (.inr (.inr (.inr rfl))) hb (by simpa using (hd 0 (by omega)).1) (by simpa using (hd 1 (by omega)).1) (kid hd 0 2 (by omega)) (kid hd 1 3 (by omega)))
  ·obtain⟨b,o,rfl,hb,ds,hd⟩:=h7.resolve_left (by omega)
   have ha:=zd7 hN
   exact zl7 hb (by simpa using (hd 0 (by omega)).1) (kid hd 0 5 (by omega)) hTi ha.1 ha.2
  all_goals
   have dY:10<=dk:=by omega
   have hnt:nodeT dk df dg (val nu) (val de) dm sn (fun i=>(ar i).txt) (fun i=>lev (ar i).k)=headT dk df++(sepT (fun i=>(ar i).txt) sn++[41]):=by
    unfold nodeT
    rw[if_neg (by omega),if_neg (by omega),if_neg (by omega),if_neg (by omega),if_neg (by omega),if_neg (by omega),if_neg (by omega)]
   rw[hnt]
   obtain⟨b,o,rfl,hb,ds,hd⟩:=h7.resolve_left (by omega)
   exact zkc dY (list_ok hN dY hTi (.inr ⟨b,o,rfl,hb,fun i hi=>(hd i hi).1⟩) fun i hi=>ih i (ds i) (hd i hi).2 (hvk i hi))
theorem text_ok {w:World} {x:Ex} {d:Nd} (h:ExOk w x d) (hT:Tb w) (hTi:Ti w) (hv:x.vd) (hl:x.txt.length<=600000):
  Calls Tryz.prog 296 #[d.val] w (Rt w (.string ⟨x.txt.toArray⟩)):=by
 have hw:=write_ok hT hTi x d h hv
 generalize x.txt=T at*
 unfold Nd.val at hw ⊢
 obtain⟨k,f,ng,aq,an,ac,cq,cn,cc,m,sq,sn,sc⟩:=d
 simp only at hw ⊢
 have b0:=zaa w (.cells #[.int .i64 k,.int .i64 f,.bool ng,.slice aq an ac,.slice cq cn cc,.string m,.slice sq sn sc] 27)
 have b1:=b0.trans ((zaa (w.alloc (.cells #[.int .i64 k,.int .i64 f,.bool ng,.slice aq an ac,.slice cq cn cc,.string m,.slice sq sn sc] 27)) (.cells #[.pointer none,.slice none 0 0] 43)).mono b0.size)
 have c0:(w.alloc (.cells #[.int .i64 k,.int .i64 f,.bool ng,.slice aq an ac,.slice cq cn cc,.string m,.slice sq sn sc] 27)).heap[w.heap.size]?=some (.cells #[.int .i64 k,.int .i64 f,.bool ng,.slice aq an ac,.slice cq cn cc,.string m,.slice sq sn sc] 27 (0,0)):=heap_alloc_new w _
 have c1:Hid (((w.alloc (.cells #[.int .i64 k,.int .i64 f,.bool ng,.slice aq an ac,.slice cq cn cc,.string m,.slice sq sn sc] 27)).alloc (.cells #[.pointer none,.slice none 0 0] 43)).heap[w.heap.size]?=some (.cells #[.int .i64 k,.int .i64 f,.bool ng,.slice aq an ac,.slice cq cn cc,.string m,.slice sq sn sc] 27 (0,0))):=by
  show _=_
  rw[(zaa _ _).block _ (by simp)];exact c0
 have bl:=Bld.made (w.alloc (.cells #[.int .i64 k,.int .i64 f,.bool ng,.slice aq an ac,.slice cq cn cc,.string m,.slice sq sn sc] 27))
 have hs:(w.alloc (.cells #[.int .i64 k,.int .i64 f,.bool ng,.slice aq an ac,.slice cq cn cc,.string m,.slice sq sn sc] 27)).heap.size=w.heap.size+1:=by simp
 rw[hs] at bl
 have hc:=hw _ (w.heap.size+1) (w.heap.size+1) [] b1 (by omega) (by simp) bl (by simp;omega)
 have b1':=zab b1
 clear c0 b0 b1 bl hs hw
 go_enter Tryz.func296,Tryz.ntmps296
 go_upto_region 2 with fail
 generalize ((w.alloc (.cells #[.int .i64 k,.int .i64 f,.bool ng,.slice aq an ac,.slice cq cn cc,.string m,.slice sq sn sc] 27)).alloc (.cells #[.pointer none,.slice none 0 0] 43))=W at*
 obtain⟨x0,x1,x2,x3,x4,x5,x6⟩:=zaf c1.out
 go_wp2_with (first
  | (go_at_call 387;refine hc.mono ?_;rintro e w1 ⟨⟨v1,rfl⟩,bl1,W1⟩
     have hss:=W1.size
     have hB1:=zap W1.below (show w.heap.size<=w.heap.size+1 by omega)
     have hst:=bstr bl1 (by have:=bl1.le;omega)
     rw[List.nil_append] at hst
     clear hc)
  | (go_at_call 11;refine hst.mono ?_;rintro e w2 ⟨rfl,hb2⟩))
 go_ret
 exact⟨rfl,(b1'.out.trans hB1).trans (zap hb2 (by omega))⟩
def prT (x:Ex):Option (List UInt8):=if x.txt.length > 4000 then none else some x.txt
def resT:Option (List UInt8)->Value
 | none=>.tuple #[.string ⟨#[]⟩,.int .i64 4]
 | some t=>.tuple #[.string ⟨t.toArray⟩,.int .i64 0]
def resB:Option (List UInt8)->Value
 | none=>.tuple #[.string ⟨#[]⟩,.bool false]
 | some t=>.tuple #[.string ⟨t.toArray⟩,.bool true]
theorem zmd {w:World} {x:Ex} {d:Nd} (h:ExOk w x d) (hT:Tb w) (hTi:Ti w) (hv:(x.cnt 1 0).isSome=true):
  Calls Tryz.prog 180 #[d.val] w (Rt w (resT (prT x))):=by
 obtain⟨hvd,hl⟩:=Ex.ok_txt hv
 unfold prT
 have b0:Below w.heap.size w (w.alloc (.cells #[.int .i64 d.k,.int .i64 d.f,.bool d.neg,.slice d.aq d.an d.ac,.slice d.cq d.cn d.cc,.string d.m,.slice d.sq d.sn d.sc] 27)):=zaa w _
 have hva:=zfj (h.below b0) (hT.below b0)
 rw[hv] at hva
 have ht:=fun z (hz:Below w.heap.size w z)=>text_ok (h.below hz) (hT.below hz) (hTi.below hz) hvd hl
 clear h hT hTi
 generalize x.txt=T at*
 obtain⟨k,f,ng,aq,an,ac,cq,cn,cc,m,sq,sn,sc⟩:=d
 unfold Nd.val at hva ht ⊢
 simp only at b0 hva ht ⊢
 have c0:Hid ((w.alloc (.cells #[.int .i64 k,.int .i64 f,.bool ng,.slice aq an ac,.slice cq cn cc,.string m,.slice sq sn sc] 27)).heap[w.heap.size]?=some (.cells #[.int .i64 k,.int .i64 f,.bool ng,.slice aq an ac,.slice cq cn cc,.string m,.slice sq sn sc] 27 (0,0))):=heap_alloc_new w _
 have ht':=zab ht
 obtain⟨x0,x1,x2,x3,x4,x5,x6⟩:=zaf c0.out
 clear ht
 by_cases hgt:T.length > 4000
 ·rw[if_pos hgt]
  have fK:(T.length:Int) > 4000:=by omega
  go_enter Tryz.func180,Tryz.ntmps180
  go_wp2_with (first
   | (go_at_call 68;refine hva.mono ?_;rintro e w1 ⟨rfl,hb1⟩
      have B1:=b0.trans (hb1.mono b0.size)
      have hc:=ht'.out w1 B1
      have c1:w1.heap[w.heap.size]?=some (.cells #[.int .i64 k,.int .i64 f,.bool ng,.slice aq an ac,.slice cq cn cc,.string m,.slice sq sn sc] 27 (0,0)):=by rw[hb1.block _ (by simp)];exact c0.out
      clear x0 x1 x2 x3 x4 x5 x6
      obtain⟨x0,x1,x2,x3,x4,x5,x6⟩:=zaf c1
      clear hva hb1 c1)
   | (go_at_call 296;refine hc.mono ?_;rintro e w2 ⟨rfl,hb2⟩))
  go_ret2
  exact⟨rfl,B1.trans (hb2.mono B1.size)⟩
 ·rw[if_neg hgt]
  have fK:¬(T.length:Int) > 4000:=by omega
  go_enter Tryz.func180,Tryz.ntmps180
  go_wp2_with (first
   | (go_at_call 68;refine hva.mono ?_;rintro e w1 ⟨rfl,hb1⟩
      have B1:=b0.trans (hb1.mono b0.size)
      have hc:=ht'.out w1 B1
      have c1:w1.heap[w.heap.size]?=some (.cells #[.int .i64 k,.int .i64 f,.bool ng,.slice aq an ac,.slice cq cn cc,.string m,.slice sq sn sc] 27 (0,0)):=by rw[hb1.block _ (by simp)];exact c0.out
      clear x0 x1 x2 x3 x4 x5 x6
      obtain⟨x0,x1,x2,x3,x4,x5,x6⟩:=zaf c1
      clear hva hb1 c1)
   | (go_at_call 296;refine hc.mono ?_;rintro e w2 ⟨rfl,hb2⟩))
  go_ret2
  exact⟨rfl,B1.trans (hb2.mono B1.size)⟩
theorem zhg {w:World} {x:Ex} {d:Nd} (h:ExOk w x d) (hT:Tb w) (hTi:Ti w) (hv:(x.cnt 1 0).isSome=true):
  Calls Tryz.prog 94 #[d.val] w (Rt w (resT ((prT x).map fun t=>123::(t++[125])))):=by
 have b0:Below w.heap.size w (w.alloc (.cells #[.int .i64 d.k,.int .i64 d.f,.bool d.neg,.slice d.aq d.an d.ac,.slice d.cq d.cn d.cc,.string d.m,.slice d.sq d.sn d.sc] 27)):=zaa w _
 have hp:=zmd (h.below b0) (hT.below b0) (hTi.below b0) hv
 have hl:∀t,prT x=some t->t.length<=4000:=by
  intro t ht
  unfold prT at ht
  split at ht
  ·cases ht
  ·cases ht;omega
 generalize prT x=R at*
 clear h hT hTi
 obtain⟨k,f,ng,aq,an,ac,cq,cn,cc,m,sq,sn,sc⟩:=d
 unfold Nd.val at hp ⊢
 simp only at b0 hp ⊢
 cases R with
 | none=>
  simp only[resT] at hp
  go_enter Tryz.func94,Tryz.ntmps94
  go_wp2_with (go_at_call 180;refine hp.mono ?_;rintro e w1 ⟨rfl,hb1⟩)
  go_ret2
  exact⟨rfl,b0.trans (hb1.mono b0.size)⟩
 | some t=>
  have hl:=hl t rfl
  simp only[resT] at hp
  go_enter Tryz.func94,Tryz.ntmps94
  go_wp2_with (go_at_call 180;refine hp.mono ?_;rintro e w1 ⟨rfl,hb1⟩)
  go_ret2
  exact⟨zdm (by simp),b0.trans (hb1.mono b0.size)⟩
def TxC (w0:World) (f:FuncId) (us:List Value) (T:List UInt8):Prop:=∀w,Below w0.heap.size w0 w->Calls Tryz.prog f us.toArray w (Rt w (.string ⟨T.toArray⟩))
theorem levQ_ok {d:Nd} (h1:1<=d.k) (h2:d.k<=15) (w:World):Calls Tryz.prog 391 #[d.val] w (Rt w (.int .i64 (lev d.k))):=by
 obtain⟨k,f,ng,aq,an,ac,cq,cn,cc,m,sq,sn,sc⟩:=d
 unfold Nd.val
 simp only at h1 h2 ⊢
 have hk:k=1\/k=2\/k=3\/k=4\/k=5\/k=6\/k=7\/k=8\/k=9\/k=10\/k=11\/k=12\/k=13\/k=14\/k=15:=by omega
 rcases hk with rfl | rfl | rfl | rfl | rfl | rfl | rfl | rfl | rfl | rfl | rfl | rfl | rfl | rfl | rfl
 all_goals
  go_enter Tryz.func391,Tryz.ntmps391
  go_wp2
  go_ret
  exact⟨rfl,zaa w _⟩
theorem zme {w0:World} {d:Nd} {T:List UInt8} {p:Int} (hX:TxC w0 188 [d.val] T) (hk1:1<=d.k) (hk2:d.k<=15) (hl:T.length<=1000000):TxC w0 299 [d.val,.int .i64 p] (parT (lev d.k) p T):=by
 intro w hbw
 have hv:=levQ_ok hk1 hk2
 obtain⟨k,f,ng,aq,an,ac,cq,cn,cc,m,sq,sn,sc⟩:=d
 unfold TxC Nd.val at*
 simp only at hX hv hk1 hk2 ⊢
 have b0:=zaa w (.cells #[.int .i64 k,.int .i64 f,.bool ng,.slice aq an ac,.slice cq cn cc,.string m,.slice sq sn sc] 27)
 have hc:=hX _ (hbw.trans (zap b0 hbw.size))
 have c0:Hid ((w.alloc (.cells #[.int .i64 k,.int .i64 f,.bool ng,.slice aq an ac,.slice cq cn cc,.string m,.slice sq sn sc] 27)).heap[w.heap.size]?=some (.cells #[.int .i64 k,.int .i64 f,.bool ng,.slice aq an ac,.slice cq cn cc,.string m,.slice sq sn sc] 27 (0,0))):=heap_alloc_new w _
 have hv':=zab hv
 obtain⟨x0,x1,x2,x3,x4,x5,x6⟩:=zaf c0.out
 clear hX hbw hv
 by_cases hp:lev k<p
 ·rw[show parT (lev k) p T=40::(T++[41]) from if_pos hp]
  go_enter Tryz.func299,Tryz.ntmps299
  go_wp2_with (first
   | (go_at_call 188;refine hc.mono ?_;rintro e w1 ⟨rfl,hb1⟩
      have B1:=b0.trans (hb1.mono b0.size)
      have hv1:=hv'.out w1
      have c1:w1.heap[w.heap.size]?=some (.cells #[.int .i64 k,.int .i64 f,.bool ng,.slice aq an ac,.slice cq cn cc,.string m,.slice sq sn sc] 27 (0,0)):=by rw[hb1.block _ (by simp)];exact c0.out
      clear x0 x1 x2 x3 x4 x5 x6
      obtain⟨x0,x1,x2,x3,x4,x5,x6⟩:=zaf c1
      clear hc hb1 c1)
   | (go_at_call 391;refine hv1.mono ?_;rintro e w2 ⟨rfl,hb2⟩))
  go_ret
  exact⟨zel (by simp),B1.trans (hb2.mono B1.size)⟩
 ·rw[show parT (lev k) p T=T from if_neg hp]
  go_enter Tryz.func299,Tryz.ntmps299
  go_wp2_with (first
   | (go_at_call 188;refine hc.mono ?_;rintro e w1 ⟨rfl,hb1⟩
      have B1:=b0.trans (hb1.mono b0.size)
      have hv1:=hv'.out w1
      have c1:w1.heap[w.heap.size]?=some (.cells #[.int .i64 k,.int .i64 f,.bool ng,.slice aq an ac,.slice cq cn cc,.string m,.slice sq sn sc] 27 (0,0)):=by rw[hb1.block _ (by simp)];exact c0.out
      clear x0 x1 x2 x3 x4 x5 x6
      obtain⟨x0,x1,x2,x3,x4,x5,x6⟩:=zaf c1
      clear hc hb1 c1)
   | (go_at_call 391;refine hv1.mono ?_;rintro e w2 ⟨rfl,hb2⟩))
  go_ret
  exact⟨zel (by simp),B1.trans (hb2.mono B1.size)⟩
end Go.Proofs.YtnnhofmknilopaaGreatDoor
