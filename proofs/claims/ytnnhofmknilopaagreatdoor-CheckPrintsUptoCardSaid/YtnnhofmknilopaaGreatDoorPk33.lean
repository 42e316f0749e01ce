import Derived.Test.YtnnhofmknilopaaGreatDoorPk32
namespace Go.Proofs.YtnnhofmknilopaaGreatDoor
open Go Go.RowKit
set_option maxRecDepth 100000
set_option maxHeartbeats 16000000
def St.shp (t:St):Int:=if (t.steps 0:Int) > 2000 then 4 else if (t.dep 42:Int) > 41 then 4 else if t.formed then 0 else 70
theorem zll {w:World} {t:St} {d:Sd} (h:StOk w t d) (hT:Tb w):Calls Tryz.prog 7 #[d.val] w (Rt w (.int .i64 t.shp)):=
 zjv (fun z hz=>zjt (fun z' hz' hc=>(walkN_ok t d (h.below hz) z' (z.heap.size+1) 0 hz' (by omega) hc (by omega)).mono fun e w' ⟨h1,h2,h3⟩=>⟨⟨_,h1⟩,h2,h3⟩))
  (fun z hz=>zju (fun z' hz'=>by
    have:=zk8 t d z' 1 42 ((h.below hz).below hz') (by omega) (by omega) (by omega)
    rw[show ((1:Nat):Int) - 1+(t.dep 42:Int)=(t.dep 42:Int) by omega] at this
    exact this))
  (fun z hz=>walkF_ok t d z (h.below hz) (hT.below hz))
theorem zlm {w:World} {t:St} {d:Sd} (h:StOk w t d):Calls Tryz.prog 12 #[d.val] w (Rt w (.int .i64 t.shp)):=
 zh8 (fun z hz=>zh6 (t.steps_le 0 (by omega)) (fun z' hz'=>zk6 t d z' 0 ((h.below hz).below hz') (by omega)))
  (fun z hz=>zh7 (fun z' hz'=>deepT_ok t d z' 42 ((h.below hz).below hz') (by omega) (by omega)))
  (fun z hz=>zjr t d z (h.below hz))
theorem zi6 {t:St} (h:t.shp=0):t.steps 0<=2000/\t.dep 42+1<=42/\t.formed=true:=by
 unfold St.shp at h
 split at h
 ·omega
 split at h
 ·omega
 split at h
 ·exact⟨by omega,by omega,by assumption⟩
 ·omega
def St.out (t:St):Value:=if t.shp=0 then(if t.prs then resT (t.lin 0) else .tuple #[.string ⟨#[]⟩,.int .i64 2]) else .tuple #[.string ⟨#[]⟩,.int .i64 t.shp]
theorem zib {w:World} {d:Sd} {E:Int} (hE:¬E=0)
  (h1:∀z,Below w.heap.size w z->Calls Tryz.prog 7 #[.agg d.cells.toArray] z (Rt z (.int .i64 E))):
  Calls Tryz.prog 4 #[.agg (sV d)] w (Rt w (.tuple #[.string ⟨#[]⟩,.int .i64 E])):=by
 obtain⟨dd,hu,hd⟩:=zay
 have hHu:=zab hu
 clear hu
 have W0:Hid (Below w.heap.size w (w.alloc (.cells (sV d) 32))):=zaa w _
 have D0:Hid ((w.alloc (.cells (sV d) 32)).rangeAt (w.heap.size) 0 d.cells):=zah w d.cells 32
 have hz0:(w.alloc (.cells (sV d) 32)).heap.size=w.heap.size+1:=by simp
 go_enter Tryz.func4,Tryz.ntmps4
 go_wp2_with (first
  | (with_reducible refine ldm (op:=⟨some 7,_,_,_,_,_⟩) 1 w.heap.size 0 d.cells D0.out d.len ?_)
  | (go_at_call 7;refine(h1 _ W0.out).mono ?_;rintro e w2 ⟨rfl,hb2⟩
     have W2:Hid (Below w.heap.size w w2):=W0.out.trans (hb2.mono W0.out.size)
     have hs2:w.heap.size<w2.heap.size:=by have:=hb2.size;omega
     have D2:Hid (w2.rangeAt (w.heap.size) 0 d.cells):=zac D0.out hb2 (by omega)))
 go_ret2
 exact⟨rfl,W2.out⟩
theorem zln {w:World} {d:Sd}
  (h1:∀z,Below w.heap.size w z->Calls Tryz.prog 7 #[.agg d.cells.toArray] z (Rt z (.int .i64 0)))
  (h2:∀z,Below w.heap.size w z->Calls Tryz.prog 8 #[.agg d.cells.toArray,.func (.func 9) #[] #[]] z (Rt z (.bool false))):
  Calls Tryz.prog 4 #[.agg (sV d)] w (Rt w (.tuple #[.string ⟨#[]⟩,.int .i64 2])):=by
 obtain⟨dd,hu,hd⟩:=zay
 have hHu:=zab hu
 clear hu
 have W0:Hid (Below w.heap.size w (w.alloc (.cells (sV d) 32))):=zaa w _
 have D0:Hid ((w.alloc (.cells (sV d) 32)).rangeAt (w.heap.size) 0 d.cells):=zah w d.cells 32
 have hz0:(w.alloc (.cells (sV d) 32)).heap.size=w.heap.size+1:=by simp
 go_enter Tryz.func4,Tryz.ntmps4
 go_wp2_with (first
  | (with_reducible refine ldm (op:=⟨some 7,_,_,_,_,_⟩) 1 w.heap.size 0 d.cells D0.out d.len ?_)
  | (go_at_call 7;refine(h1 _ W0.out).mono ?_;rintro e w2 ⟨rfl,hb2⟩
     have W2:Hid (Below w.heap.size w w2):=W0.out.trans (hb2.mono W0.out.size)
     have hs2:w.heap.size<w2.heap.size:=by have:=hb2.size;omega
     have D2:Hid (w2.rangeAt (w.heap.size) 0 d.cells):=zac D0.out hb2 (by omega))
  | (with_reducible refine ldm (op:=⟨some 12,_,_,_,_,_⟩) 1 w.heap.size 0 d.cells D2.out d.len ?_)
  | (go_at_call 8;refine(h2 _ W2.out).mono ?_;rintro e w3 ⟨rfl,hb3⟩
     have W3:Hid (Below w.heap.size w w3):=W2.out.trans (hb3.mono W2.out.size)
     have hs3:w.heap.size<w3.heap.size:=by have:=hb3.size;omega
     have D3:Hid (w3.rangeAt (w.heap.size) 0 d.cells):=zac D2.out hb3 (by omega)))
 go_ret2
 exact⟨rfl,W3.out⟩
theorem zj1 {w:World} {d:Sd} {R:Option (List UInt8)}
  (h1:∀z,Below w.heap.size w z->Calls Tryz.prog 7 #[.agg d.cells.toArray] z (Rt z (.int .i64 0)))
  (h2:∀z,Below w.heap.size w z->Calls Tryz.prog 8 #[.agg d.cells.toArray,.func (.func 9) #[] #[]] z (Rt z (.bool true)))
  (h3:∀z b,Below w.heap.size w z->w.heap.size<=b->b<=z.heap.size->Bld z b b []->Calls Tryz.prog 10 #[.pointer (some ⟨b,0,none⟩),.agg d.cells.toArray,.int .i64 0] z fun e w'=>WrO R b b [] z e w'):
  Calls Tryz.prog 4 #[.agg (sV d)] w (Rt w (resT R)):=by
 obtain⟨dd,hu,hd⟩:=zay
 have hHu:=zab hu
 clear hu
 have W0:Hid (Below w.heap.size w (w.alloc (.cells (sV d) 32))):=zaa w _
 have D0:Hid ((w.alloc (.cells (sV d) 32)).rangeAt (w.heap.size) 0 d.cells):=zah w d.cells 32
 have hz0:(w.alloc (.cells (sV d) 32)).heap.size=w.heap.size+1:=by simp
 cases R with
 | none=>
  show Calls Tryz.prog 4 #[.agg (sV d)] w (Rt w (.tuple #[.string ⟨#[]⟩,.int .i64 4]))
  go_enter Tryz.func4,Tryz.ntmps4
  go_wp2_with (first
   | (with_reducible refine ldm (op:=⟨some 7,_,_,_,_,_⟩) 1 w.heap.size 0 d.cells D0.out d.len ?_)
   | (go_at_call 7;refine(h1 _ W0.out).mono ?_;rintro e w2 ⟨rfl,hb2⟩
      have W2:Hid (Below w.heap.size w w2):=W0.out.trans (hb2.mono W0.out.size)
      have hs2:w.heap.size<w2.heap.size:=by have:=hb2.size;omega
      have D2:Hid (w2.rangeAt (w.heap.size) 0 d.cells):=zac D0.out hb2 (by omega))
   | (with_reducible refine ldm (op:=⟨some 12,_,_,_,_,_⟩) 1 w.heap.size 0 d.cells D2.out d.len ?_)
   | (go_at_call 8;refine(h2 _ W2.out).mono ?_;rintro e w3 ⟨rfl,hb3⟩
      have W3:Hid (Below w.heap.size w w3):=W2.out.trans (hb3.mono W2.out.size)
      have hs3:w.heap.size<w3.heap.size:=by have:=hb3.size;omega
      have D3:Hid (w3.rangeAt (w.heap.size) 0 d.cells):=zac D2.out hb3 (by omega)
      have W4:Hid (Below w.heap.size w (w3.alloc (.cells #[.pointer none,.slice none 0 0] 43))):=W3.out.trans ((zaa w3 (.cells #[.pointer none,.slice none 0 0] 43)).mono W3.out.size)
      have D4:Hid ((w3.alloc (.cells #[.pointer none,.slice none 0 0] 43)).rangeAt (w.heap.size) 0 d.cells):=zac D3.out (zaa w3 (.cells #[.pointer none,.slice none 0 0] 43)) (by omega)
      have hwr:=h3 (w3.alloc (.cells #[.pointer none,.slice none 0 0] 43)) w3.heap.size W4.out (by omega) (by simp) (Bld.made w3))
   | (with_reducible refine ldm (op:=⟨some 15,_,_,_,_,_⟩) 1 w.heap.size 0 d.cells D4.out d.len ?_)
   | (go_at_call 10;refine hwr.mono ?_;rintro e w5 h5
      obtain⟨rfl,W5⟩:=zi0 h5))
  go_ret2
  exact⟨rfl,W4.out.trans (zap W5.below (by omega))⟩
 | some T=>
  show Calls Tryz.prog 4 #[.agg (sV d)] w (Rt w (.tuple #[.string ⟨T.toArray⟩,.int .i64 0]))
  go_enter Tryz.func4,Tryz.ntmps4
  go_wp2_with (first
   | (with_reducible refine ldm (op:=⟨some 7,_,_,_,_,_⟩) 1 w.heap.size 0 d.cells D0.out d.len ?_)
   | (go_at_call 7;refine(h1 _ W0.out).mono ?_;rintro e w2 ⟨rfl,hb2⟩
      have W2:Hid (Below w.heap.size w w2):=W0.out.trans (hb2.mono W0.out.size)
      have hs2:w.heap.size<w2.heap.size:=by have:=hb2.size;omega
      have D2:Hid (w2.rangeAt (w.heap.size) 0 d.cells):=zac D0.out hb2 (by omega))
   | (with_reducible refine ldm (op:=⟨some 12,_,_,_,_,_⟩) 1 w.heap.size 0 d.cells D2.out d.len ?_)
   | (go_at_call 8;refine(h2 _ W2.out).mono ?_;rintro e w3 ⟨rfl,hb3⟩
      have W3:Hid (Below w.heap.size w w3):=W2.out.trans (hb3.mono W2.out.size)
      have hs3:w.heap.size<w3.heap.size:=by have:=hb3.size;omega
      have D3:Hid (w3.rangeAt (w.heap.size) 0 d.cells):=zac D2.out hb3 (by omega)
      have W4:Hid (Below w.heap.size w (w3.alloc (.cells #[.pointer none,.slice none 0 0] 43))):=W3.out.trans ((zaa w3 (.cells #[.pointer none,.slice none 0 0] 43)).mono W3.out.size)
      have D4:Hid ((w3.alloc (.cells #[.pointer none,.slice none 0 0] 43)).rangeAt (w.heap.size) 0 d.cells):=zac D3.out (zaa w3 (.cells #[.pointer none,.slice none 0 0] 43)) (by omega)
      have hwr:=h3 (w3.alloc (.cells #[.pointer none,.slice none 0 0] 43)) w3.heap.size W4.out (by omega) (by simp) (Bld.made w3))
   | (with_reducible refine ldm (op:=⟨some 15,_,_,_,_,_⟩) 1 w.heap.size 0 d.cells D4.out d.len ?_)
   | (go_at_call 10;refine hwr.mono ?_;rintro e w5 h5
      obtain⟨rfl,bl5,W5⟩:=zi1 h5
      have hst:=bstr bl5 (by have:=bl5.le;omega))
   | (go_at_call 11;refine hst.mono ?_;rintro e w6 ⟨rfl,hb6⟩))
  go_ret2
  exact⟨rfl,(W4.out.trans (zap W5.below (by omega))).trans (zap hb6 (by omega))⟩
theorem zlo {w:World} {t:St} {d:Sd} (h:StOk w t d) (hw:t.wfT) (hT:Tb w) (hTi:Ti w):Calls Tryz.prog 4 #[d.val] w (Rt w t.out):=by
 unfold St.out
 have hs:=fun z hz=>zll (w:=z) (h.below hz) (hT.below hz)
 by_cases h0:t.shp=0
 ·rw[if_pos h0]
  rw[h0] at hs
  obtain⟨s1,s2,s3⟩:=zi6 h0
  have hp:=fun z hz=>walkP_ok t d z (h.below hz) s3
  cases hpr:t.prs with
  | false=>
   rw[hpr] at hp
   exact zln hs hp
  | true=>
   rw[hpr] at hp
   have hz:=t.size_le 0 s1 s3
   exact zj1 hs hp (fun z b hz1 hb1 hb2 hb3=>zku hT hTi t d 42 0 h ⟨s3,hpr,hw,s2⟩ (by omega) (by omega) z b b [] hz1 hb1 hb2 hb3 (by simp only[List.length_nil];omega))
 ·rw[if_neg h0]
  exact zib h0 hs
theorem zg7 {w:World} {d:Sd} {E:Int} (hE:¬E=0)
  (h1:∀z,Below w.heap.size w z->Calls Tryz.prog 12 #[.agg d.cells.toArray] z (Rt z (.int .i64 E))):
  Calls Tryz.prog 5 #[.agg (sV d)] w (Rt w (.tuple #[.string ⟨#[]⟩,.int .i64 E])):=by
 obtain⟨dd,hu,hd⟩:=zay
 have hHu:=zab hu
 clear hu
 have W0:Hid (Below w.heap.size w (w.alloc (.cells (sV d) 32))):=zaa w _
 have D0:Hid ((w.alloc (.cells (sV d) 32)).rangeAt (w.heap.size) 0 d.cells):=zah w d.cells 32
 have hz0:(w.alloc (.cells (sV d) 32)).heap.size=w.heap.size+1:=by simp
 go_enter Tryz.func5,Tryz.ntmps5
 go_wp2_with (first
  | (with_reducible refine ldm (op:=⟨some 7,_,_,_,_,_⟩) 1 w.heap.size 0 d.cells D0.out d.len ?_)
  | (go_at_call 12;refine(h1 _ W0.out).mono ?_;rintro e w2 ⟨rfl,hb2⟩
     have W2:Hid (Below w.heap.size w w2):=W0.out.trans (hb2.mono W0.out.size)
     have hs2:w.heap.size<w2.heap.size:=by have:=hb2.size;omega
     have D2:Hid (w2.rangeAt (w.heap.size) 0 d.cells):=zac D0.out hb2 (by omega)))
 go_ret2
 exact⟨rfl,W2.out⟩
theorem zj2 {w:World} {d:Sd}
  (h1:∀z,Below w.heap.size w z->Calls Tryz.prog 12 #[.agg d.cells.toArray] z (Rt z (.int .i64 0)))
  (h2:∀z,Below w.heap.size w z->Calls Tryz.prog 13 #[.agg d.cells.toArray] z (Rt z (.bool false))):
  Calls Tryz.prog 5 #[.agg (sV d)] w (Rt w (.tuple #[.string ⟨#[]⟩,.int .i64 2])):=by
 obtain⟨dd,hu,hd⟩:=zay
 have hHu:=zab hu
 clear hu
 have W0:Hid (Below w.heap.size w (w.alloc (.cells (sV d) 32))):=zaa w _
 have D0:Hid ((w.alloc (.cells (sV d) 32)).rangeAt (w.heap.size) 0 d.cells):=zah w d.cells 32
 have hz0:(w.alloc (.cells (sV d) 32)).heap.size=w.heap.size+1:=by simp
 go_enter Tryz.func5,Tryz.ntmps5
 go_wp2_with (first
  | (with_reducible refine ldm (op:=⟨some 7,_,_,_,_,_⟩) 1 w.heap.size 0 d.cells D0.out d.len ?_)
  | (go_at_call 12;refine(h1 _ W0.out).mono ?_;rintro e w2 ⟨rfl,hb2⟩
     have W2:Hid (Below w.heap.size w w2):=W0.out.trans (hb2.mono W0.out.size)
     have hs2:w.heap.size<w2.heap.size:=by have:=hb2.size;omega
     have D2:Hid (w2.rangeAt (w.heap.size) 0 d.cells):=zac D0.out hb2 (by omega))
  | (with_reducible refine ldm (op:=⟨some 12,_,_,_,_,_⟩) 1 w.heap.size 0 d.cells D2.out d.len ?_)
  | (go_at_call 13;refine(h2 _ W2.out).mono ?_;rintro e w3 ⟨rfl,hb3⟩
     have W3:Hid (Below w.heap.size w w3):=W2.out.trans (hb3.mono W2.out.size)
     have hs3:w.heap.size<w3.heap.size:=by have:=hb3.size;omega
     have D3:Hid (w3.rangeAt (w.heap.size) 0 d.cells):=zac D2.out hb3 (by omega)))
 go_ret2
 exact⟨rfl,W3.out⟩
theorem zic {w:World} {d:Sd} {R:Option (List UInt8)}
  (h1:∀z,Below w.heap.size w z->Calls Tryz.prog 12 #[.agg d.cells.toArray] z (Rt z (.int .i64 0)))
  (h2:∀z,Below w.heap.size w z->Calls Tryz.prog 13 #[.agg d.cells.toArray] z (Rt z (.bool true)))
  (h3:∀z,Below w.heap.size w z->Calls Tryz.prog 14 #[.agg d.cells.toArray,.int .i64 0] z (Rt z (resB R))):
  Calls Tryz.prog 5 #[.agg (sV d)] w (Rt w (resT R)):=by
 obtain⟨dd,hu,hd⟩:=zay
 have hHu:=zab hu
 clear hu
 have W0:Hid (Below w.heap.size w (w.alloc (.cells (sV d) 32))):=zaa w _
 have D0:Hid ((w.alloc (.cells (sV d) 32)).rangeAt (w.heap.size) 0 d.cells):=zah w d.cells 32
 have hz0:(w.alloc (.cells (sV d) 32)).heap.size=w.heap.size+1:=by simp
 cases R with
 | none=>
  show Calls Tryz.prog 5 #[.agg (sV d)] w (Rt w (.tuple #[.string ⟨#[]⟩,.int .i64 4]))
  simp only[resB] at h3
  go_enter Tryz.func5,Tryz.ntmps5
  go_wp2_with (first
   | (with_reducible refine ldm (op:=⟨some 7,_,_,_,_,_⟩) 1 w.heap.size 0 d.cells D0.out d.len ?_)
   | (go_at_call 12;refine(h1 _ W0.out).mono ?_;rintro e w2 ⟨rfl,hb2⟩
      have W2:Hid (Below w.heap.size w w2):=W0.out.trans (hb2.mono W0.out.size)
      have hs2:w.heap.size<w2.heap.size:=by have:=hb2.size;omega
      have D2:Hid (w2.rangeAt (w.heap.size) 0 d.cells):=zac D0.out hb2 (by omega))
   | (with_reducible refine ldm (op:=⟨some 12,_,_,_,_,_⟩) 1 w.heap.size 0 d.cells D2.out d.len ?_)
   | (go_at_call 13;refine(h2 _ W2.out).mono ?_;rintro e w3 ⟨rfl,hb3⟩
      have W3:Hid (Below w.heap.size w w3):=W2.out.trans (hb3.mono W2.out.size)
      have hs3:w.heap.size<w3.heap.size:=by have:=hb3.size;omega
      have D3:Hid (w3.rangeAt (w.heap.size) 0 d.cells):=zac D2.out hb3 (by omega))
   | (with_reducible refine ldm (op:=⟨some 16,_,_,_,_,_⟩) 1 w.heap.size 0 d.cells D3.out d.len ?_)
   | (go_at_call 14;refine(h3 _ W3.out).mono ?_;rintro e w4 ⟨rfl,hb4⟩))
  go_ret2
  exact⟨rfl,W3.out.trans (hb4.mono W3.out.size)⟩
 | some T=>
  show Calls Tryz.prog 5 #[.agg (sV d)] w (Rt w (.tuple #[.string ⟨T.toArray⟩,.int .i64 0]))
  simp only[resB] at h3
  go_enter Tryz.func5,Tryz.ntmps5
  go_wp2_with (first
   | (with_reducible refine ldm (op:=⟨some 7,_,_,_,_,_⟩) 1 w.heap.size 0 d.cells D0.out d.len ?_)
   | (go_at_call 12;refine(h1 _ W0.out).mono ?_;rintro e w2 ⟨rfl,hb2⟩
      have W2:Hid (Below w.heap.size w w2):=W0.out.trans (hb2.mono W0.out.size)
      have hs2:w.heap.size<w2.heap.size:=by have:=hb2.size;omega
      have D2:Hid (w2.rangeAt (w.heap.size) 0 d.cells):=zac D0.out hb2 (by omega))
   | (with_reducible refine ldm (op:=⟨some 12,_,_,_,_,_⟩) 1 w.heap.size 0 d.cells D2.out d.len ?_)
   | (go_at_call 13;refine(h2 _ W2.out).mono ?_;rintro e w3 ⟨rfl,hb3⟩
      have W3:Hid (Below w.heap.size w w3):=W2.out.trans (hb3.mono W2.out.size)
      have hs3:w.heap.size<w3.heap.size:=by have:=hb3.size;omega
      have D3:Hid (w3.rangeAt (w.heap.size) 0 d.cells):=zac D2.out hb3 (by omega))
   | (with_reducible refine ldm (op:=⟨some 16,_,_,_,_,_⟩) 1 w.heap.size 0 d.cells D3.out d.len ?_)
   | (go_at_call 14;refine(h3 _ W3.out).mono ?_;rintro e w4 ⟨rfl,hb4⟩))
  go_ret2
  exact⟨rfl,W3.out.trans (hb4.mono W3.out.size)⟩
theorem zlp {w:World} {t:St} {d:Sd} (h:StOk w t d) (hw:t.wfT):Calls Tryz.prog 5 #[d.val] w (Rt w t.out):=by
 unfold St.out
 have hs:=fun z hz=>zlm (w:=z) (h.below hz)
 by_cases h0:t.shp=0
 ·rw[if_pos h0]
  rw[h0] at hs
  obtain⟨s1,s2,s3⟩:=zi6 h0
  have hp:=fun z hz=>allW_ok t d z (h.below hz) s3
  cases hpr:t.prs with
  | false=>
   rw[hpr] at hp
   exact zj2 hs hp
  | true=>
   rw[hpr] at hp
   have hz:=t.size_le 0 s1 s3
   exact zic hs hp (fun z hz1=>lines_ok t d z 42 0 (h.below hz1) ⟨s3,hpr,hw,s2⟩ (by omega) (by omega) (by omega))
 ·rw[if_neg h0]
  exact zg7 h0 hs
theorem St.out_form (t:St):∃s n,t.out=.tuple #[.string s,.int .i64 n]:=by
 unfold St.out
 split
 ·split
  ·cases t.lin 0 with
   | none=>exact⟨_,_,rfl⟩
   | some T=>exact⟨_,_,rfl⟩
  ·exact⟨_,_,rfl⟩
 ·exact⟨_,_,rfl⟩
theorem zid {w:World} {d:Sd} {s:ByteArray} {n:Int}
  (h1:∀z,Below w.heap.size w z->Calls Tryz.prog 4 #[.agg d.cells.toArray] z (Rt z (.tuple #[.string s,.int .i64 n])))
  (h2:∀z,Below w.heap.size w z->Calls Tryz.prog 5 #[.agg d.cells.toArray] z (Rt z (.tuple #[.string s,.int .i64 n])))
  (hA:∀z,Below w.heap.size w z->Calls Tryz.prog 6 #[] z (Rt z (.bool true))):
  Calls Tryz.prog 3 #[.agg (sV d)] w (Rt w (.bool true)):=by
 obtain⟨dd,hu,hd⟩:=zay
 have hHu:=zab hu
 clear hu
 have W0:Hid (Below w.heap.size w (w.alloc (.cells (sV d) 32))):=zaa w _
 have D0:Hid ((w.alloc (.cells (sV d) 32)).rangeAt (w.heap.size) 0 d.cells):=zah w d.cells 32
 have hz0:(w.alloc (.cells (sV d) 32)).heap.size=w.heap.size+1:=by simp
 go_enter Tryz.func3,Tryz.ntmps3
 go_wp2_with (first
  | (with_reducible refine ldm (op:=⟨some 8,_,_,_,_,_⟩) 1 w.heap.size 0 d.cells D0.out d.len ?_)
  | (go_at_call 4;refine(h1 _ W0.out).mono ?_;rintro e w2 ⟨rfl,hb2⟩
     have W2:Hid (Below w.heap.size w w2):=W0.out.trans (hb2.mono W0.out.size)
     have hs2:w.heap.size<w2.heap.size:=by have:=hb2.size;omega
     have D2:Hid (w2.rangeAt (w.heap.size) 0 d.cells):=zac D0.out hb2 (by omega))
  | (with_reducible refine ldm (op:=⟨some 13,_,_,_,_,_⟩) 1 w.heap.size 0 d.cells D2.out d.len ?_)
  | (go_at_call 5;refine(h2 _ W2.out).mono ?_;rintro e w3 ⟨rfl,hb3⟩
     have W3:Hid (Below w.heap.size w w3):=W2.out.trans (hb3.mono W2.out.size)
     have hs3:w.heap.size<w3.heap.size:=by have:=hb3.size;omega
     have D3:Hid (w3.rangeAt (w.heap.size) 0 d.cells):=zac D2.out hb3 (by omega)
     have ha:=hA w3 W3.out)
  | (go_at_call 6;refine ha.mono ?_;rintro e w4 ⟨rfl,hb4⟩))
 go_ret
 exact⟨rfl,W3.out.trans (hb4.mono W3.out.size)⟩
theorem zgd {w:World} {t:St} {d:Sd} (h:StOk w t d) (hw:t.wfT) (hT:Tb w) (hTi:Ti w)
  (hA:∀z,Below w.heap.size w z->Calls Tryz.prog 6 #[] z (Rt z (.bool true))):
  Calls Tryz.prog 3 #[d.val] w (Rt w (.bool true)):=by
 obtain⟨s,n,e⟩:=t.out_form
 have h4:=fun z hz=>zlo (w:=z) (h.below hz) hw (hT.below hz) (hTi.below hz)
 have h5:=fun z hz=>zlp (w:=z) (h.below hz) hw
 rw[e] at h4 h5
 exact zid h4 h5 hA
theorem zeg {n:Int} (h:(Lit.int .i64 n).wf=true):I64 n:=by
 unfold Lit.wf at h
 simp only[Bool.and_eq_true,decide_eq_true_eq] at h
 exact h
section
variable {H:Type} {enc:TypeId × Value->H} {w:World} {spare:Nat->Bool} {held:Bool} {B:DataW H->Nat}
theorem zj3 (hB:Bk B):∀(fuel:Nat) (cs:List Value) (x:DataW H × List MemPlace),B x.1<=1048576->DataW.trod enc Tryz.prog w 0 spare held fuel 32 cs=some x->
  ∃(X:St) (d:Sd),cs=d.cells/\StOk w X d/\X.wfT:=by
 intro fuel
 induction fuel using Nat.strongRecOn with
 | _ fuel ih=>
 intro cs x hx h
 obtain⟨xs,n,hn,rfl,hl,hxl,hf⟩:=DataW.trod_struct Tryz.underlying32 h
 rw[c32] at hl
 have cG:xs.length=13:=hxl
 clear hxl
 obtain⟨a0,cs0r,rfl,hl0⟩:=zad (n:=20) hl
 obtain⟨a1,cs1r,rfl,hl1⟩:=zad (n:=19) hl0
 obtain⟨a2,cs2r,rfl,hl2⟩:=zad (n:=18) hl1
 obtain⟨a3,cs3r,rfl,hl3⟩:=zad (n:=17) hl2
 obtain⟨a4,cs4r,rfl,hl4⟩:=zad (n:=16) hl3
 obtain⟨a5,cs5r,rfl,hl5⟩:=zad (n:=15) hl4
 obtain⟨a6,cs6r,rfl,hl6⟩:=zad (n:=14) hl5
 obtain⟨a7,cs7r,rfl,hl7⟩:=zad (n:=13) hl6
 obtain⟨a8,cs8r,rfl,hl8⟩:=zad (n:=12) hl7
 obtain⟨a9,cs9r,rfl,hl9⟩:=zad (n:=11) hl8
 obtain⟨a10,cs10r,rfl,iO⟩:=zad (n:=10) hl9
 obtain⟨a11,cs11r,rfl,iP⟩:=zad (n:=9) iO
 obtain⟨a12,cs12r,rfl,iQ⟩:=zad (n:=8) iP
 obtain⟨a13,cs13r,rfl,iR⟩:=zad (n:=7) iQ
 obtain⟨a14,cs14r,rfl,iS⟩:=zad (n:=6) iR
 obtain⟨a15,cs15r,rfl,iT⟩:=zad (n:=5) iS
 obtain⟨a16,cs16r,rfl,iU⟩:=zad (n:=4) iT
 obtain⟨a17,cs17r,rfl,iV⟩:=zad (n:=3) iU
 obtain⟨a18,cs18r,rfl,iW⟩:=zad (n:=2) iV
 obtain⟨a19,cs19r,rfl,iX⟩:=zad (n:=1) iW
 obtain⟨a20,cs20r,rfl,iY⟩:=zad (n:=0) iX
 obtain rfl:=List.length_eq_zero_iff.1 iY
 obtain⟨y0,xs0r,rfl,bI⟩:=zad (n:=12) cG
 obtain⟨y1,xs1r,rfl,bJ⟩:=zad (n:=11) bI
 obtain⟨y2,xs2r,rfl,cP⟩:=zad (n:=10) bJ
 obtain⟨y3,xs3r,rfl,dM⟩:=zad (n:=9) cP
 obtain⟨y4,xs4r,rfl,dN⟩:=zad (n:=8) dM
 obtain⟨y5,xs5r,rfl,gO⟩:=zad (n:=7) dN
 obtain⟨y6,xs6r,rfl,gP⟩:=zad (n:=6) gO
 obtain⟨y7,xs7r,rfl,gQ⟩:=zad (n:=5) gP
 obtain⟨y8,xs8r,rfl,gR⟩:=zad (n:=4) gQ
 obtain⟨y9,xs9r,rfl,gS⟩:=zad (n:=3) gR
 obtain⟨y10,xs10r,rfl,fE⟩:=zad (n:=2) gS
 obtain⟨y11,xs11r,rfl,fF⟩:=zad (n:=1) fE
 obtain⟨y12,xs12r,rfl,fG⟩:=zad (n:=0) fF
 obtain rfl:=List.length_eq_zero_iff.1 fG
 have h0:DataW.trod enc Tryz.prog w 0 spare held n 3 [a0]=some y0:=by have:=hf 0 _ rfl;simpa [c3] using this
 have h1:DataW.trod enc Tryz.prog w 0 spare held n 9 [a1]=some y1:=by have:=hf 1 _ rfl;simpa [c9] using this
 have h2:DataW.trod enc Tryz.prog w 0 spare held n 9 [a2]=some y2:=by have:=hf 2 _ rfl;simpa [c9] using this
 have h3:DataW.trod enc Tryz.prog w 0 spare held n 24 [a3,a4,a5]=some y3:=by have:=hf 3 _ rfl;simpa [c24] using this
 have h4:DataW.trod enc Tryz.prog w 0 spare held n 3 [a6]=some y4:=by have:=hf 4 _ rfl;simpa [c3] using this
 have h5:DataW.trod enc Tryz.prog w 0 spare held n 3 [a7]=some y5:=by have:=hf 5 _ rfl;simpa [c3] using this
 have h6:DataW.trod enc Tryz.prog w 0 spare held n 3 [a8]=some y6:=by have:=hf 6 _ rfl;simpa [c3] using this
 have h7:DataW.trod enc Tryz.prog w 0 spare held n 27 [a9,a10,a11,a12,a13,a14,a15]=some y7:=by have:=hf 7 _ rfl;simpa [c27] using this
 have h8:DataW.trod enc Tryz.prog w 0 spare held n 28 [a16]=some y8:=by have:=hf 8 _ rfl;simpa [c28] using this
 have h9:DataW.trod enc Tryz.prog w 0 spare held n 9 [a17]=some y9:=by have:=hf 9 _ rfl;simpa [c9] using this
 have h10:DataW.trod enc Tryz.prog w 0 spare held n 3 [a18]=some y10:=by have:=hf 10 _ rfl;simpa [c3] using this
 have h11:DataW.trod enc Tryz.prog w 0 spare held n 29 [a19]=some y11:=by have:=hf 11 _ rfl;simpa [c29] using this
 have h12:DataW.trod enc Tryz.prog w 0 spare held n 30 [a20]=some y12:=by have:=hf 12 _ rfl;simpa [c30] using this
 have b3:B y3.1<=1048576:=Nat.le_trans (hB.ag _ _ (by simp)) hx
 have b7:B y7.1<=1048576:=Nat.le_trans (hB.ag _ _ (by simp)) hx
 have b8:B y8.1<=1048576:=Nat.le_trans (hB.ag _ _ (by simp)) hx
 have b11:B y11.1<=1048576:=Nat.le_trans (hB.ag _ _ (by simp)) hx
 have b12:B y12.1<=1048576:=Nat.le_trans (hB.ag _ _ (by simp)) hx
 obtain⟨ru,e0,_⟩:=DataW.trod_int Tryz.underlying3 h0
 obtain⟨nm,e1,_⟩:=DataW.trod_string Tryz.underlying9 h1
 obtain⟨ot,e2,_⟩:=DataW.trod_string Tryz.underlying9 h2
 obtain⟨g,aq,an,ac,cq,cn,cc,nu,de,e3,s1,s2,l1,l2⟩:=zf4 hB b3 h3
 obtain⟨kk,e4,_,v4⟩:=DataW.trod_int Tryz.underlying3 h4
 obtain⟨nn,e5,_,v5⟩:=DataW.trod_int Tryz.underlying3 h5
 obtain⟨pr,e6,_,v6⟩:=DataW.trod_int Tryz.underlying3 h6
 obtain⟨X,d,e7,hX⟩:=zgw hB n _ y7 b7 h7
 obtain⟨pq,pn,pc,ps,e8,hP⟩:=zhy hB b8 h8
 obtain⟨en,e9,_⟩:=DataW.trod_string Tryz.underlying9 h9
 obtain⟨ve,e10,_,v10⟩:=DataW.trod_int Tryz.underlying3 h10
 obtain⟨bq,bn,bc,bs,e11,hD⟩:=zjm hB b11 h11
 obtain⟨kq,kn,kc,e12,_,hbn,hel⟩:=zb4 Tryz.underlying30 c32 (by decide) h12
 simp only[List.cons.injEq,and_true] at e0 e1 e2 e3 e4 e5 e6 e7 e8 e9 e10 e11 e12
 obtain⟨e3,e3b,e3c⟩:=e3
 obtain⟨f1,f2,f3,f4,f5,f6,f7⟩:=e7
 subst e0 e1 e2 e3 e3b e3c e4 e5 e6 f1 f2 f3 f4 f5 f6 f7 e8 e9 e10 e11 e12
 have hkn:kn<=1048576:=Nat.le_trans (hbn B hB) b12
 rcases hel with rfl | ⟨b,o,rfl,hlt,hel⟩
 ·exact⟨.mk ⟨ru,nm,ot,g,kk,nn,pr,en,ve⟩ nu de X pn ps bn bs 0 (fun _=>.non),⟨⟨ru,nm,ot,g,kk,nn,pr,en,ve⟩,aq,an,ac,cq,cn,cc,d,pq,pn,pc,bq,bn,bc,kq,0,kc⟩,rfl,
   ⟨⟨rfl,rfl,rfl,rfl⟩,s1,s2,l1,l2,hX,hP,hD,by omega,.inl rfl⟩,⟨⟨zeg v4,zeg v5,zeg v6,zeg v10⟩,fun i hi=>absurd hi (Nat.not_lt_zero _)⟩⟩
 ·have hp:∀i,i<kn->∃p:St × Sd,w.rangeAt b (o+i*21) p.2.cells/\StOk w p.1 p.2/\p.1.wfT:=by
   intro i hi
   obtain⟨ces,y,m1,hm1,hr,_,ht,hby⟩:=hel i hi
   obtain⟨Y,D,rfl,hok,hwf⟩:=ih m1 (by omega) ces y (Nat.le_trans (hby B hB) b12) ht
   exact⟨(Y,D),hr,hok,hwf⟩
  obtain⟨F,hF⟩:=pick hp
  exact⟨.mk ⟨ru,nm,ot,g,kk,nn,pr,en,ve⟩ nu de X pn ps bn bs kn (fun i=>(F i).1),⟨⟨ru,nm,ot,g,kk,nn,pr,en,ve⟩,aq,an,ac,cq,cn,cc,d,pq,pn,pc,bq,bn,bc,some ⟨b,o,none⟩,kn,kc⟩,rfl,
   ⟨⟨rfl,rfl,rfl,rfl⟩,s1,s2,l1,l2,hX,hP,hD,by omega,.inr ⟨b,o,rfl,hlt,fun i=>(F i).2,fun i hi=>⟨(hF i hi).1,(hF i hi).2.1⟩⟩⟩,⟨⟨zeg v4,zeg v5,zeg v6,zeg v10⟩,fun i hi=>(hF i hi).2.2⟩⟩
end
end Go.Proofs.YtnnhofmknilopaaGreatDoor
