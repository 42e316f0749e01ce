import Derived.Test.YtnnhofmknilopaaGreatDoorPk19
namespace Go.Proofs.YtnnhofmknilopaaGreatDoor
open Go Go.RowKit
set_option maxRecDepth 100000
set_option maxHeartbeats 16000000
theorem zgb {n:Nat} {f:Nat->Bool} {i:Nat} (hi:i<n) (h:f i=false):(List.range n).all f=false:=zb3 hi h
theorem zfr {w:World} {d:Sd} (ds:Nat->Sd) (F:Nat->Bool) {A:Bool} (cE:d.kin<=1099511627776) (hk:d.kin=0\/∃b o,d.kiq=some ⟨b,o,none⟩/\b<w.heap.size/\∀i,i<d.kin->w.rangeAt b (o+i*21) (ds i).cells)
  (hV:∀z,Below w.heap.size w z->Calls Tryz.prog 19 #[.agg (sV d)] z (Rt z (.bool A)))
  (hR:∀i,i<d.kin->∀z,Below w.heap.size w z->Calls Tryz.prog 8 #[.agg (ds i).cells.toArray,.func (.func 19) #[] #[]] z (Rt z (.bool (F i)))):
  Calls Tryz.prog 8 #[.agg (sV d),.func (.func 19) #[] #[]] w (Rt w (.bool (A&&(List.range d.kin).all F))):=by
 have hk':=zab hk
 clear hk
 obtain⟨dd,hu,hd⟩:=zay
 have hHu:=zab hu
 clear hu
 have hb0:Hid (Below w.heap.size w (w.alloc (.cells (sV d) 32))):=zaa w _
 have D0:Hid ((w.alloc (.cells (sV d) 32)).rangeAt (w.heap.size) 0 d.cells):=zah w d.cells 32
 have hz0:(w.alloc (.cells (sV d) 32)).heap.size=w.heap.size+1:=by simp
 have k20':(w.alloc (.cells (sV d) 32)).cell? ⟨w.heap.size,20,none⟩=some (.slice d.kiq d.kin d.kic):=by simp
 have hVc:=hV _ hb0.out
 clear hV
 obtain⟨R,hRR⟩:∃R,Hid ((List.range d.kin).all F=R):=⟨_,rfl⟩
 rw[hRR.out]
 have hR1:Hid (∀k,k<d.kin->F k=false->R=false):=fun k hk h=>by rw[<-hRR.out,zgb hk h]
 have hR2:Hid ((∀j,j<d.kin->F j=true)->R=true):=fun h=>by rw[<-hRR.out,za9 h]
 clear hRR
 cases A with
 | false=>
  go_enter Tryz.func8,Tryz.ntmps8
  go_wp2_with (first
   | (with_reducible refine ldm (op:=⟨some 8,_,_,_,_,_⟩) 2 w.heap.size 0 d.cells D0.out d.len ?_)
   | (go_at_call 19;refine hVc.mono ?_;rintro e w2 ⟨rfl,hb2⟩))
  go_ret
  exact⟨rfl,hb0.out.trans (hb2.mono hb0.out.size)⟩
 | true=>
  go_enter Tryz.func8,Tryz.ntmps8
  go_wp2_with (first
   | (with_reducible refine ldm (op:=⟨some 8,_,_,_,_,_⟩) 2 w.heap.size 0 d.cells D0.out d.len ?_)
   | (go_at_call 19;refine hVc.mono ?_;rintro e w2 ⟨rfl,hb2⟩
      have k20:w2.cell? ⟨w.heap.size,20,none⟩=some (.slice d.kiq d.kin d.kic):=(hb2.cell (by show w.heap.size<_;omega)).trans k20'
      have W2:Hid (Below w.heap.size w w2):=hb0.out.trans (hb2.mono hb0.out.size)))
  go_loopw [14] (fun i wr=>∃k:Nat,k<=d.kin/\i=.int .i64 k/\Hid (∀j,j<k->F j=true)/\Below w2.heap.size w2 wr) (fun i _=>d.kin - (intOf i).toNat)
  case atStart=>exact⟨0,Nat.zero_le _,rfl,fun j hj=>by omega,Below.refl _ _⟩
  case round=>
   obtain⟨k,hk,rfl,hz,hbr⟩:=hrel
   by_cases hlt:k<d.kin
   ·have aF:(k:Int)<(d.kin:Int):=by omega
    rcases hk'.out with h0 | ⟨b,o,hq,hbb,hcx⟩
    ·omega
    have aw:Hid (Below w.heap.size w wr):=W2.out.trans (hbr.mono W2.out.size)
    have aJ:Hid (Below w2.heap.size w2 wr):=hbr
    have hx:=zac (hcx k hlt) aw.out hbb
    have lx:(ds k).cells.length=21:=rfl
    have ox':Hid ((ds k).cells.toArray.all (·.oneCell')=true):=(ds k).one
    have hRk:=hR k hlt
    clear hcx hR hbr hb2
    generalize (ds k).cells=cx at*
    rw[hq]
    have X1:Hid ((wr.alloc (.cells cx.toArray 32)).rangeAt wr.heap.size 0 cx):=zah _ _ _
    have hb3:Hid (Below wr.heap.size wr (wr.alloc (.cells cx.toArray 32))):=zaa wr _
    have ai:=hRk _ (aw.out.trans (hb3.out.mono aw.out.size))
    clear hRk
    obtain⟨B,hB⟩:∃B,Hid (F k=B):=⟨_,rfl⟩
    rw[hB.out] at ai
    cases B with
    | false=>
     have hRf:=hR1.out k hlt hB.out
     subst hRf
     go_wp2_with (first
      | (with_reducible refine ldm (op:=⟨some 17,_,_,_,_,_⟩) 16 b (o+k*21) cx hx lx ?_)
      | (with_reducible refine stn 6 17 cx lx ox'.out ?_)
      | (with_reducible refine ldm (op:=⟨some 18,_,_,_,_,_⟩) 6 wr.heap.size 0 cx X1.out lx ?_)
      | (go_at_call 8;with_reducible refine ai.mono ?_;rintro e w5 ⟨rfl,hb5⟩))
     go_ret
     exact⟨rfl,aw.out.trans ((hb3.out.trans (hb5.mono hb3.out.size)).mono aw.out.size)⟩
    | true=>
     have hz':Hid (∀j,j<k+1->F j=true):=fun j hj=>by
      rcases Nat.lt_or_ge j k with h | h
      ·exact hz.out j h
      ·have:j=k:=by omega
       subst this;exact hB.out
     go_wp2_with (first
      | (with_reducible refine ldm (op:=⟨some 17,_,_,_,_,_⟩) 16 b (o+k*21) cx hx lx ?_)
      | (with_reducible refine stn 6 17 cx lx ox'.out ?_)
      | (with_reducible refine ldm (op:=⟨some 18,_,_,_,_,_⟩) 6 wr.heap.size 0 cx X1.out lx ?_)
      | (go_at_call 8;with_reducible refine ai.mono ?_;rintro e w5 ⟨rfl,hb5⟩))
     go_roundw
     case rel=>exact⟨k+1,by omega,by go_num,hz',aJ.out.trans ((hb3.out.trans (hb5.mono hb3.out.size)).mono aJ.out.size)⟩
     case measure=>simp[intOf];omega
   ·have hkk:k=d.kin:=by omega
    subst hkk
    have hRt:=hR2.out hz.out
    subst hRt
    go_wp2_with fail
    go_ret
    exact⟨rfl,W2.out.trans (hbr.mono W2.out.size)⟩
theorem ze1 {w:World} {d:Sd} (ds:Nat->Sd) (F:Nat->Bool) {A:Bool} (cE:d.kin<=1099511627776) (hk:d.kin=0\/∃b o,d.kiq=some ⟨b,o,none⟩/\b<w.heap.size/\∀i,i<d.kin->w.rangeAt b (o+i*21) (ds i).cells)
  (hV:∀z,Below w.heap.size w z->Calls Tryz.prog 53 #[.agg (sV d)] z (Rt z (.bool A)))
  (hR:∀i,i<d.kin->∀z,Below w.heap.size w z->Calls Tryz.prog 32 #[.agg (ds i).cells.toArray] z (Rt z (.bool (F i)))):
  Calls Tryz.prog 32 #[.agg (sV d)] w (Rt w (.bool (A&&(List.range d.kin).all F))):=by
 have hk':=zab hk
 clear hk
 obtain⟨dd,hu,hd⟩:=zay
 have hHu:=zab hu
 clear hu
 have hb0:Hid (Below w.heap.size w (w.alloc (.cells (sV d) 32))):=zaa w _
 have D0:Hid ((w.alloc (.cells (sV d) 32)).rangeAt (w.heap.size) 0 d.cells):=zah w d.cells 32
 have hz0:(w.alloc (.cells (sV d) 32)).heap.size=w.heap.size+1:=by simp
 have k20':(w.alloc (.cells (sV d) 32)).cell? ⟨w.heap.size,20,none⟩=some (.slice d.kiq d.kin d.kic):=by simp
 have hVc:=hV _ hb0.out
 clear hV
 obtain⟨R,hRR⟩:∃R,Hid ((List.range d.kin).all F=R):=⟨_,rfl⟩
 rw[hRR.out]
 have hR1:Hid (∀k,k<d.kin->F k=false->R=false):=fun k hk h=>by rw[<-hRR.out,zgb hk h]
 have hR2:Hid ((∀j,j<d.kin->F j=true)->R=true):=fun h=>by rw[<-hRR.out,za9 h]
 clear hRR
 cases A with
 | false=>
  go_enter Tryz.func32,Tryz.ntmps32
  go_wp2_with (first
   | (with_reducible refine ldm (op:=⟨some 5,_,_,_,_,_⟩) 1 w.heap.size 0 d.cells D0.out d.len ?_)
   | (go_at_call 53;refine hVc.mono ?_;rintro e w2 ⟨rfl,hb2⟩))
  go_ret
  exact⟨rfl,hb0.out.trans (hb2.mono hb0.out.size)⟩
 | true=>
  go_enter Tryz.func32,Tryz.ntmps32
  go_wp2_with (first
   | (with_reducible refine ldm (op:=⟨some 5,_,_,_,_,_⟩) 1 w.heap.size 0 d.cells D0.out d.len ?_)
   | (go_at_call 53;refine hVc.mono ?_;rintro e w2 ⟨rfl,hb2⟩
      have k20:w2.cell? ⟨w.heap.size,20,none⟩=some (.slice d.kiq d.kin d.kic):=(hb2.cell (by show w.heap.size<_;omega)).trans k20'
      have W2:Hid (Below w.heap.size w w2):=hb0.out.trans (hb2.mono hb0.out.size)))
  go_loopw [11] (fun i wr=>∃k:Nat,k<=d.kin/\i=.int .i64 k/\Hid (∀j,j<k->F j=true)/\Below w2.heap.size w2 wr) (fun i _=>d.kin - (intOf i).toNat)
  case atStart=>exact⟨0,Nat.zero_le _,rfl,fun j hj=>by omega,Below.refl _ _⟩
  case round=>
   obtain⟨k,hk,rfl,hz,hbr⟩:=hrel
   by_cases hlt:k<d.kin
   ·have aF:(k:Int)<(d.kin:Int):=by omega
    rcases hk'.out with h0 | ⟨b,o,hq,hbb,hcx⟩
    ·omega
    have aw:Hid (Below w.heap.size w wr):=W2.out.trans (hbr.mono W2.out.size)
    have aJ:Hid (Below w2.heap.size w2 wr):=hbr
    have hx:=zac (hcx k hlt) aw.out hbb
    have lx:(ds k).cells.length=21:=rfl
    have ox':Hid ((ds k).cells.toArray.all (·.oneCell')=true):=(ds k).one
    have hRk:=hR k hlt
    clear hcx hR hbr hb2
    generalize (ds k).cells=cx at*
    rw[hq]
    have X1:Hid ((wr.alloc (.cells cx.toArray 32)).rangeAt wr.heap.size 0 cx):=zah _ _ _
    have hb3:Hid (Below wr.heap.size wr (wr.alloc (.cells cx.toArray 32))):=zaa wr _
    have ai:=hRk _ (aw.out.trans (hb3.out.mono aw.out.size))
    clear hRk
    obtain⟨B,hB⟩:∃B,Hid (F k=B):=⟨_,rfl⟩
    rw[hB.out] at ai
    cases B with
    | false=>
     have hRf:=hR1.out k hlt hB.out
     subst hRf
     go_wp2_with (first
      | (with_reducible refine ldm (op:=⟨some 14,_,_,_,_,_⟩) 13 b (o+k*21) cx hx lx ?_)
      | (with_reducible refine stn 4 14 cx lx ox'.out ?_)
      | (with_reducible refine ldm (op:=⟨some 15,_,_,_,_,_⟩) 4 wr.heap.size 0 cx X1.out lx ?_)
      | (go_at_call 32;with_reducible refine ai.mono ?_;rintro e w5 ⟨rfl,hb5⟩))
     go_ret
     exact⟨rfl,aw.out.trans ((hb3.out.trans (hb5.mono hb3.out.size)).mono aw.out.size)⟩
    | true=>
     have hz':Hid (∀j,j<k+1->F j=true):=fun j hj=>by
      rcases Nat.lt_or_ge j k with h | h
      ·exact hz.out j h
      ·have:j=k:=by omega
       subst this;exact hB.out
     go_wp2_with (first
      | (with_reducible refine ldm (op:=⟨some 14,_,_,_,_,_⟩) 13 b (o+k*21) cx hx lx ?_)
      | (with_reducible refine stn 4 14 cx lx ox'.out ?_)
      | (with_reducible refine ldm (op:=⟨some 15,_,_,_,_,_⟩) 4 wr.heap.size 0 cx X1.out lx ?_)
      | (go_at_call 32;with_reducible refine ai.mono ?_;rintro e w5 ⟨rfl,hb5⟩))
     go_roundw
     case rel=>exact⟨k+1,by omega,by go_num,hz',aJ.out.trans ((hb3.out.trans (hb5.mono hb3.out.size)).mono aJ.out.size)⟩
     case measure=>simp[intOf];omega
   ·have hkk:k=d.kin:=by omega
    subst hkk
    have hRt:=hR2.out hz.out
    subst hRt
    go_wp2_with fail
    go_ret
    exact⟨rfl,W2.out.trans (hbr.mono W2.out.size)⟩
structure Cnt (w:World) (O:Nat) (n:Nat):Prop where
 lt:O<w.heap.size
 box:w.heap[O]?=some (.cells #[.int .i64 n] 3 (0,0))
theorem Cnt.cell {w:World} {O n:Nat} (h:Cnt w O n):w.cell? ⟨O,0,none⟩=some (.int .i64 n):=by
 rw[cell_of_row _ _ _ _ _ _ h.box];rfl
theorem Cnt.frozen {w:World} {O n:Nat} (h:Cnt w O n) (j:Nat):w.frozen? ⟨O,j,none⟩=false:=frozen_of_row _ _ _ _ _ h.box
theorem Cnt.alloc {w:World} {O n:Nat} (h:Cnt w O n) (ob:Obj):Cnt (w.alloc ob) O n:=
 ⟨by have:=h.lt;simp;omega,(Below.heap_alloc _ _ _ h.lt).trans h.box⟩
structure Tick (O:Nat) (w w':World):Prop where
 os:w'.os=w.os
 tape:w'.tape=w.tape
 output:w'.output=w.output
 size:w.heap.size<=w'.heap.size
 block:∀b,b<w.heap.size->b≠O->w'.heap[b]?=w.heap[b]?
theorem Tick.refl (O:Nat) (w:World):Tick O w w:=⟨rfl,rfl,rfl,Nat.le_refl _,fun _ _ _=>rfl⟩
theorem Tick.trans {O:Nat} {w w' w'':World} (h:Tick O w w') (h':Tick O w' w''):Tick O w w'':=
 ⟨h'.os.trans h.os,h'.tape.trans h.tape,h'.output.trans h.output,Nat.le_trans h.size h'.size,fun b hb hO=>(h'.block b (Nat.lt_of_lt_of_le hb h.size) hO).trans (h.block b hb hO)⟩
theorem Tick.alloc (O:Nat) (w:World) (ob:Obj):Tick O w (w.alloc ob):=
 ⟨rfl,rfl,rfl,by simp,fun b hb _=>Below.heap_alloc _ _ _ hb⟩
theorem Tick.below {O:Nat} {w w':World} (h:Tick O w w') (hO:O<w.heap.size):Below O w w':=
 ⟨h.os,h.tape,h.output,h.size,fun b hb=>h.block b (by omega) (by omega)⟩
theorem ze2 {w:World} {g:Nat} {cs:List Value} {t:TypeId} {fr:Nat × Nat} (h:w.heap[g]?=some (.cells cs.toArray t fr)) {j:Nat} {u:Value}:
  (w.setCell ⟨g,j,none⟩ u).heap[g]?=some (.cells (cs.set j u).toArray t fr):=by
 simp[World.setCell,Array.getElem?_modify,h]
theorem Cnt.set {w:World} {O n m:Nat} (h:Cnt w O n):Cnt (w.setCell ⟨O,0,none⟩ (.int .i64 m)) O m:=by
 refine⟨by simp;exact h.lt,?_⟩
 have h1:=ze2 (cs:=[.int .i64 n]) h.box (j:=0) (u:=.int .i64 m)
 simpa using h1
theorem Tick.set (O:Nat) (w:World) (v:Value):Tick O w (w.setCell ⟨O,0,none⟩ v):=
 ⟨rfl,rfl,rfl,by simp,fun b _ hO=>Below.heap_setCell _ _ _ _ (by exact hO)⟩
theorem visitN {w:World} {d:Sd} {O n:Nat} (hc:Cnt w O n) (hn:n<=2000):
  Calls Tryz.prog 38 #[.agg (sV d),.pointer (some ⟨O,0,none⟩)] w fun e w'=>e=.returned (.bool (decide ((n:Int)+1<=2000)))/\Cnt w' O (n+1)/\Tick O w w':=by
 have hcw:Hid (Cnt (w.alloc (.cells (sV d) 32)) O n):=hc.alloc _
 have c0:=hcw.out.cell
 have f0:=hcw.out.frozen 0
 have hn':(n:Int)<=2000:=by omega
 have hT:Hid (Tick O w (w.alloc (.cells (sV d) 32))):=Tick.alloc _ _ _
 clear hc
 go_enter Tryz.func38,Tryz.ntmps38
 go_wp2_with fail
 go_ret
 exact⟨rfl,hcw.out.set (m:=n+1),hT.out.trans (Tick.set _ _ _)⟩
def cntN (P:Nat->Nat->Nat):Nat->Nat->Nat
 | 0,a=>a
 | c+1,a=>if cntN P c a<=2000 then P c (cntN P c a) else cntN P c a
theorem zcm {P:Nat->Nat->Nat} {i n:Nat} (h:2000<cntN P i n):∀{c:Nat},i<=c->cntN P c n=cntN P i n
 | 0,hi=>by
  have:i=0:=by omega
  subst this;rfl
 | c+1,hi=>by
  rcases Nat.lt_or_ge i (c+1) with h1 | h1
  ·have h2:=zcm h (c:=c) (by omega)
   show(if cntN P c n<=2000 then P c (cntN P c n) else cntN P c n)=_
   rw[h2,if_neg (by omega)]
  ·have:i=c+1:=by omega
   subst this;rfl
theorem zg3 {P:Nat->Nat->Nat} {c n a:Nat} (h:cntN P c n=a) (ha:a<=2000):cntN P (c+1) n=P c a:=by
 show(if cntN P c n<=2000 then P c (cntN P c n) else cntN P c n)=_
 rw[h,if_pos ha]
theorem zlb {P:Nat->Nat->Nat} (hb:∀i a,a<=2000->P i a<=2001) {n:Nat} (hn:n<=2001):∀c,cntN P c n<=2001
 | 0=>hn
 | c+1=>by
  have:=zlb hb hn c
  show(if cntN P c n<=2000 then P c (cntN P c n) else cntN P c n)<=_
  split
  ·rename_i h;exact hb _ _ h
  ·exact this
theorem zfs {w:World} {d:Sd} {O n:Nat} (ds:Nat->Sd) (P:Nat->Nat->Nat) (hc:Cnt w O n) (hn:n<=2000) (hb:∀i a,a<=2000->P i a<=2001) (cE:d.kin<=1099511627776) (hk:d.kin=0\/∃b o,d.kiq=some ⟨b,o,none⟩/\b<O/\∀i,i<d.kin->w.rangeAt b (o+i*21) (ds i).cells)
  (hR:∀i,i<d.kin->∀(z:World) (a:Nat),Below O w z->Cnt z O a->a<=2000->Calls Tryz.prog 8 #[.agg (ds i).cells.toArray,.func (.func 38) #[] #[.pointer (some ⟨O,0,none⟩)]] z fun e w'=>e=.returned (.bool (decide (P i a<=2000)))/\Cnt w' O (P i a)/\Tick O z w'):
  Calls Tryz.prog 8 #[.agg (sV d),.func (.func 38) #[] #[.pointer (some ⟨O,0,none⟩)]] w fun e w'=>e=.returned (.bool (decide (cntN P d.kin (n+1)<=2000)))/\Cnt w' O (cntN P d.kin (n+1))/\Tick O w w':=by
 have hk':=zab hk
 clear hk
 obtain⟨dd,hu,hd⟩:=zay
 have hHu:=zab hu
 clear hu
 have hO:=hc.lt
 have hOw:w.heap.size≠O:=by omega
 have hT0:Hid (Tick O w (w.alloc (.cells (sV d) 32))):=Tick.alloc _ _ _
 have D0:Hid ((w.alloc (.cells (sV d) 32)).rangeAt (w.heap.size) 0 d.cells):=zah w d.cells 32
 have hz0:(w.alloc (.cells (sV d) 32)).heap.size=w.heap.size+1:=by simp
 have hV:=visitN (d:=d) (hc.alloc (.cells (sV d) 32)) hn
 have hb':=zab hb
 clear hc hb
 obtain⟨M,hM⟩:∃M,Hid (cntN P d.kin (n+1)=M):=⟨_,rfl⟩
 rw[hM.out]
 obtain⟨Q,hQ⟩:∃Q,Hid (decide (M<=2000)=Q):=⟨_,rfl⟩
 rw[hQ.out]
 rcases Nat.lt_or_ge n 2000 with h2 | h2
 ·rw[show decide ((n:Int)+1<=2000)=true from decide_eq_true (by omega)] at hV
  go_enter Tryz.func8,Tryz.ntmps8
  go_wp2_with (first
   | (with_reducible refine ldm (op:=⟨some 8,_,_,_,_,_⟩) 2 w.heap.size 0 d.cells D0.out d.len ?_)
   | (go_at_call 38;refine hV.mono ?_;rintro e w2 ⟨rfl,hc2,hg2⟩
      have k20:w2.cell? ⟨w.heap.size,20,none⟩=some (.slice d.kiq d.kin d.kic):=(World.cell?_of_block (hg2.block w.heap.size (by rw[hz0];omega) hOw)).trans (by simp)
      have W2:Hid (Tick O w w2):=hT0.out.trans hg2))
  have gM:Hid (Cnt w2 O (n+1)):=hc2
  clear hV hg2 hc2
  go_loopw [14] (fun i wr=>∃k a:Nat,k<=d.kin/\a<=2000/\i=.int .i64 k/\Hid (cntN P k (n+1)=a)/\Hid (Cnt wr O a)/\Hid (Tick O w wr)) (fun i _=>d.kin - (intOf i).toNat)
  case atStart=>exact⟨0,n+1,Nat.zero_le _,by omega,rfl,rfl,gM,W2⟩
  case round=>
   obtain⟨k,a,hk,ha,rfl,hcn,hck,hgk⟩:=hrel
   by_cases hlt:k<d.kin
   ·have aF:(k:Int)<(d.kin:Int):=by omega
    have hRk:=hR k hlt
    rcases hk'.out with h0 | ⟨b,o,hq,hbb,hcx⟩
    ·omega
    have aw:=hgk.out.below hO
    have hx:=zac (hcx k hlt) aw hbb
    have lx:(ds k).cells.length=21:=rfl
    have ox':Hid ((ds k).cells.toArray.all (·.oneCell')=true):=(ds k).one
    clear hcx
    generalize (ds k).cells=cx at*
    rw[hq]
    have X1:Hid ((wr.alloc (.cells cx.toArray 32)).rangeAt wr.heap.size 0 cx):=zah _ _ _
    have ai:=hRk (wr.alloc (.cells cx.toArray 32)) a (aw.trans (by refine Below.alloc (Below.refl _ _) ?_ _;exact Nat.le_of_lt hck.out.lt)) (hck.out.alloc _) ha
    have hnx:=zg3 hcn.out ha
    have hpl:=hb'.out k a ha
    clear hRk hck hcn
    by_cases hp:P k a<=2000
    ·rw[decide_eq_true hp] at ai
     have iJ:Hid (cntN P (k+1) (n+1)=P k a):=hnx
     have hp':Hid (P k a<=2000):=hp
     clear hnx hp hpl
     go_wp2_with (first
      | (with_reducible refine ldm (op:=⟨some 17,_,_,_,_,_⟩) 16 b (o+k*21) cx hx lx ?_)
      | (with_reducible refine stn 6 17 cx lx ox'.out ?_)
      | (with_reducible refine ldm (op:=⟨some 18,_,_,_,_,_⟩) 6 wr.heap.size 0 cx X1.out lx ?_)
      | (go_at_call 8;refine ai.mono ?_;rintro e w5 ⟨rfl,hc5,hg5⟩))
     go_roundw
     case rel=>exact⟨k+1,P k a,by omega,hp'.out,by go_num,iJ,hc5,hgk.out.trans ((Tick.alloc _ _ _).trans hg5)⟩
     case measure=>simp[intOf];omega
    ·rw[decide_eq_false hp] at ai
     have hMp:M=P k a:=by rw[<-hM.out,zcm (i:=k+1) (by rw[hnx];omega) (by omega)];exact hnx
     subst hMp
     have hQf:Q=false:=by rw[<-hQ.out];exact decide_eq_false hp
     subst hQf
     clear hnx hp hpl hM hQ
     go_wp2_with (first
      | (with_reducible refine ldm (op:=⟨some 17,_,_,_,_,_⟩) 16 b (o+k*21) cx hx lx ?_)
      | (with_reducible refine stn 6 17 cx lx ox'.out ?_)
      | (with_reducible refine ldm (op:=⟨some 18,_,_,_,_,_⟩) 6 wr.heap.size 0 cx X1.out lx ?_)
      | (go_at_call 8;refine ai.mono ?_;rintro e w5 ⟨rfl,hc5,hg5⟩))
     go_ret
     exact⟨rfl,hc5,hgk.out.trans ((Tick.alloc _ _ _).trans hg5)⟩
   ·have hkk:k=d.kin:=by omega
    subst hkk
    have hMa:M=a:=by rw[<-hM.out];exact hcn.out
    subst hMa
    have hQt:Q=true:=by rw[<-hQ.out];exact decide_eq_true ha
    subst hQt
    clear ha hQ
    go_wp2_with fail
    go_ret
    exact⟨rfl,hck.out,hgk.out⟩
 ·have h3:n=2000:=by omega
  subst h3
  have hMv:M=2001:=by rw[<-hM.out,zcm (i:=0) (show 2000<cntN P 0 (2000+1) from Nat.lt_succ_self 2000) (Nat.zero_le _)];rfl
  subst hMv
  have hQf:Q=false:=by rw[<-hQ.out];rfl
  subst hQf
  clear hQ
  rw[show decide (((2000:Nat):Int)+1<=2000)=false from rfl] at hV
  clear hM
  go_enter Tryz.func8,Tryz.ntmps8
  go_wp2_with (first
   | (with_reducible refine ldm (op:=⟨some 8,_,_,_,_,_⟩) 2 w.heap.size 0 d.cells D0.out d.len ?_)
   | (go_at_call 38;refine hV.mono ?_;rintro e w2 ⟨rfl,hc2,hg2⟩))
  go_ret
  exact⟨rfl,hc2,hT0.out.trans hg2⟩
theorem zft {w:World} {d:Sd} {n:Nat} (ds:Nat->Sd) (P:Nat->Nat->Nat) (hn:n<=2000) (hb:∀i a,a<=2000->P i a<=2001) (cE:d.kin<=1099511627776) (hk:d.kin=0\/∃b o,d.kiq=some ⟨b,o,none⟩/\b<w.heap.size/\∀i,i<d.kin->w.rangeAt b (o+i*21) (ds i).cells)
  (hR:∀i,i<d.kin->∀(z:World) (a:Nat),Below w.heap.size w z->a<=2000->Calls Tryz.prog 51 #[.agg (ds i).cells.toArray,.int .i64 a] z (Rt z (.int .i64 (P i a)))):
  Calls Tryz.prog 51 #[.agg (sV d),.int .i64 n] w (Rt w (.int .i64 (cntN P d.kin (n+1)))):=by
 have hk':=zab hk
 clear hk
 obtain⟨dd,hu,hd⟩:=zay
 have hHu:=zab hu
 clear hu
 have hb0:Hid (Below w.heap.size w (w.alloc (.cells (sV d) 32))):=zaa w _
 have D0:Hid ((w.alloc (.cells (sV d) 32)).rangeAt (w.heap.size) 0 d.cells):=zah w d.cells 32
 have hz0:(w.alloc (.cells (sV d) 32)).heap.size=w.heap.size+1:=by simp
 have k20':(w.alloc (.cells (sV d) 32)).cell? ⟨w.heap.size,20,none⟩=some (.slice d.kiq d.kin d.kic):=by simp
 have hb':=zab hb
 clear hb
 obtain⟨M,hM⟩:∃M,Hid (cntN P d.kin (n+1)=M):=⟨_,rfl⟩
 rw[hM.out]
 have hn':(n:Int)<=2000:=by omega
 go_enter Tryz.func51,Tryz.ntmps51
 go_wp2_with fail
 obtain⟨W,hW⟩:∃z,z=(w.alloc (.cells (sV d) 32)):=⟨_,rfl⟩
 rw[<-hW]
 rw[<-hW] at hb0 D0 hz0 k20'
 clear hW D0
 go_loopw [1,5] (fun t1 t5 wr=>∃k a:Nat,k<=d.kin/\a<=2001/\t5=.int .i64 k/\t1=.int .i64 a/\Hid (cntN P k (n+1)=a)/\Below W.heap.size W wr) (fun _ t5 _=>d.kin - (intOf t5).toNat)
 case atStart=>exact⟨0,n+1,Nat.zero_le _,by omega,rfl,by go_num,rfl,Below.refl _ _⟩
 case round=>
  obtain⟨k,a,hk,ha,rfl,rfl,hcn,hbr⟩:=hrel
  have k20:wr.cell? ⟨w.heap.size,20,none⟩=some (.slice d.kiq d.kin d.kic):=(hbr.cell (by show w.heap.size<_;omega)).trans k20'
  have aw:Hid (Below w.heap.size w wr):=hb0.out.trans (hbr.mono hb0.out.size)
  have aJ:Hid (Below W.heap.size W wr):=hbr
  clear hbr
  by_cases hlt:k<d.kin
  ·have aF:(k:Int)<(d.kin:Int):=by omega
   by_cases ha2:a<=2000
   ·have ha3:(a:Int)<=2000:=by omega
    rcases hk'.out with h0 | ⟨b,o,hq,hbb,hcx⟩
    ·omega
    have hx:=zac (hcx k hlt) aw.out hbb
    have lx:(ds k).cells.length=21:=rfl
    have hRk:=hR k hlt wr a aw.out ha2
    clear hcx
    generalize (ds k).cells=cx at*
    rw[hq] at k20
    clear hq
    have hnx:Hid (cntN P (k+1) (n+1)=P k a):=zg3 hcn.out ha2
    have hpl:Hid (P k a<=2001):=hb'.out k a ha2
    clear hcn
    go_wp2_with (first
     | (with_reducible refine ldm (op:=⟨some 23,_,_,_,_,_⟩) 22 b (o+k*21) cx hx lx ?_)
     | (go_at_call 51;with_reducible refine hRk.mono ?_;rintro e w5 ⟨rfl,hb5⟩))
    go_roundw
    case rel=>exact⟨k+1,P k a,by omega,hpl.out,by go_num,rfl,hnx,aJ.out.trans (hb5.mono aJ.out.size)⟩
    case measure=>simp[intOf];omega
   ·have ha3:¬(a:Int)<=2000:=by omega
    have hMa:M=a:=by rw[<-hM.out,zcm (i:=k) (by rw[hcn.out];omega) (by omega)];exact hcn.out
    subst hMa
    clear hcn
    go_wp2_with fail
    go_ret
    exact⟨rfl,aw.out⟩
  ·have hkk:k=d.kin:=by omega
   subst hkk
   have hMa:M=a:=by rw[<-hM.out];exact hcn.out
   subst hMa
   clear hcn
   go_wp2_with fail
   go_ret
   exact⟨rfl,aw.out⟩
def maxN (f:Nat->Nat):Nat->Nat
 | 0=>0
 | n+1=>max (maxN f n) (f n)
theorem zgc {f:Nat->Nat} {m:Nat} (h:∀i,f i<=m):∀n,maxN f n<=m
 | 0=>Nat.zero_le _
 | n+1=>Nat.max_le.2 ⟨zgc h n,h n⟩
theorem zfu {w:World} {d:Sd} {L:Nat} (ds:Nat->Sd) (f:Nat->Nat) (hL:L<=41) (hf:∀i,f i<=42) (cE:d.kin<=1099511627776) (hk:d.kin=0\/∃b o,d.kiq=some ⟨b,o,none⟩/\b<w.heap.size/\∀i,i<d.kin->w.rangeAt b (o+i*21) (ds i).cells)
  (hR:∀i,i<d.kin->∀z:World,Below w.heap.size w z->Calls Tryz.prog 39 #[.agg (ds i).cells.toArray,.int .i64 ((L:Int)+1)] z (Rt z (.int .i64 ((L:Int)+f i)))):
  Calls Tryz.prog 39 #[.agg (sV d),.int .i64 L] w (Rt w (.int .i64 ((L:Int)+maxN f d.kin))):=by
 have hk':=zab hk
 clear hk
 obtain⟨dd,hu,hd⟩:=zay
 have hHu:=zab hu
 clear hu
 have hb0:Hid (Below w.heap.size w (w.alloc (.cells (sV d) 32))):=zaa w _
 have D0:Hid ((w.alloc (.cells (sV d) 32)).rangeAt (w.heap.size) 0 d.cells):=zah w d.cells 32
 have hz0:(w.alloc (.cells (sV d) 32)).heap.size=w.heap.size+1:=by simp
 have k20':(w.alloc (.cells (sV d) 32)).cell? ⟨w.heap.size,20,none⟩=some (.slice d.kiq d.kin d.kic):=by simp
 have hm:Hid (∀k,maxN f k<=42):=zgc hf
 obtain⟨R,hRR⟩:∃R:Int,Hid ((L:Int)+maxN f d.kin=R):=⟨_,rfl⟩
 rw[hRR.out]
 clear hf
 have hL':¬(L:Int) > 41:=by omega
 go_enter Tryz.func39,Tryz.ntmps39
 go_wp2_with fail
 obtain⟨W,hW⟩:∃z,z=(w.alloc (.cells (sV d) 32)):=⟨_,rfl⟩
 rw[<-hW]
 rw[<-hW] at hb0 D0 hz0 k20'
 clear hW D0
 go_loopw [5,15] (fun t5 tk wr=>∃(k:Nat) (m:Int),k<=d.kin/\0<=m/\m<=84/\tk=.int .i64 k/\t5=.int .i64 m/\Hid (m=(L:Int)+maxN f k)/\Below W.heap.size W wr) (fun _ tk _=>d.kin - (intOf tk).toNat)
 case atStart=>exact⟨0,L,Nat.zero_le _,by omega,by omega,rfl,rfl,by simp[Hid,maxN],Below.refl _ _⟩
 case round=>
  obtain⟨k,m,hk,hm0,hm1,rfl,rfl,hcn,hbr⟩:=hrel
  have aw:Hid (Below w.heap.size w wr):=hb0.out.trans (hbr.mono hb0.out.size)
  have aJ:Hid (Below W.heap.size W wr):=hbr
  clear hbr
  by_cases hlt:k<d.kin
  ·have aF:(k:Int)<(d.kin:Int):=by omega
   rcases hk'.out with h0 | ⟨b,o,hq,hbb,hcx⟩
   ·omega
   have hx:=zac (hcx k hlt) aw.out hbb
   have lx:(ds k).cells.length=21:=rfl
   have ox':Hid ((ds k).cells.toArray.all (·.oneCell')=true):=(ds k).one
   have hb3:Hid (Below wr.heap.size wr (wr.alloc (.cells (ds k).cells.toArray 32))):=zaa wr _
   have ai:=hR k hlt _ (aw.out.trans (hb3.out.mono aw.out.size))
   clear hcx
   generalize (ds k).cells=cx at*
   rw[hq]
   have X1:Hid ((wr.alloc (.cells cx.toArray 32)).rangeAt wr.heap.size 0 cx):=zah _ _ _
   obtain⟨q,hq9⟩:∃q:Int,Hid (((L:Int)+f k:Int)=q):=⟨_,rfl⟩
   rw[hq9.out] at ai
   have hq8:0<=q/\q<=84/\max m q=(L:Int)+maxN f (k+1):=by
    have h1:=hm.out k
    have h2:=hm.out (k+1)
    have h3:f k<=maxN f (k+1):=Nat.le_max_right _ _
    have h4:maxN f (k+1)=max (maxN f k) (f k):=rfl
    have h5:=hcn.out
    have h6:=hq9.out
    omega
   have hq7:Hid (max m q=(L:Int)+maxN f (k+1)):=hq8.2.2
   have hq0:=hq8.1
   have hq1:=hq8.2.1
   clear hq8 hcn hq9 hR
   go_wp2_with (first
    | (with_reducible refine ldm (op:=⟨some 18,_,_,_,_,_⟩) 17 b (o+k*21) cx hx lx ?_)
    | (with_reducible refine stn 7 18 cx lx ox'.out ?_)
    | (with_reducible refine ldm (op:=⟨some 20,_,_,_,_,_⟩) 7 wr.heap.size 0 cx X1.out lx ?_)
    | (go_at_call 39;with_reducible refine ai.mono ?_;rintro e w5 ⟨rfl,hb5⟩))
   go_roundw
   case rel=>exact⟨k+1,max m q,by omega,by omega,by omega,by go_num,rfl,hq7,aJ.out.trans ((hb3.out.trans (hb5.mono hb3.out.size)).mono aJ.out.size)⟩
   case measure=>simp[intOf];omega
  ·have hkk:k=d.kin:=by omega
   subst hkk
   have hRv:R=m:=by rw[<-hRR.out,hcn.out]
   subst hRv
   go_wp2_with fail
   go_ret
   exact⟨rfl,aw.out⟩
theorem zg4 {w:World} {d:Sd} {L:Nat} (ds:Nat->Sd) (f:Nat->Nat) (hL:2<=L) (hL2:L<=42) (hf:∀i,f i<=42) (cE:d.kin<=1099511627776) (hk:d.kin=0\/∃b o,d.kiq=some ⟨b,o,none⟩/\b<w.heap.size/\∀i,i<d.kin->w.rangeAt b (o+i*21) (ds i).cells)
  (hR:∀i,i<d.kin->∀z:World,Below w.heap.size w z->Calls Tryz.prog 52 #[.agg (ds i).cells.toArray,.int .i64 ((L:Int) - 1)] z (Rt z (.int .i64 ((f i:Int))))):
  Calls Tryz.prog 52 #[.agg (sV d),.int .i64 L] w (Rt w (.int .i64 ((maxN f d.kin:Int)+1))):=by
 have hk':=zab hk
 clear hk
 obtain⟨dd,hu,hd⟩:=zay
 have hHu:=zab hu
 clear hu
 have hb0:Hid (Below w.heap.size w (w.alloc (.cells (sV d) 32))):=zaa w _
 have D0:Hid ((w.alloc (.cells (sV d) 32)).rangeAt (w.heap.size) 0 d.cells):=zah w d.cells 32
 have hz0:(w.alloc (.cells (sV d) 32)).heap.size=w.heap.size+1:=by simp
 have k20':(w.alloc (.cells (sV d) 32)).cell? ⟨w.heap.size,20,none⟩=some (.slice d.kiq d.kin d.kic):=by simp
 have hm:Hid (∀k,maxN f k<=42):=zgc hf
 obtain⟨R,hRR⟩:∃R:Int,Hid ((maxN f d.kin:Int)+1=R):=⟨_,rfl⟩
 rw[hRR.out]
 clear hf
 have hL':¬(L:Int)<=1:=by omega
 go_enter Tryz.func52,Tryz.ntmps52
 go_wp2_with fail
 obtain⟨W,hW⟩:∃z,z=(w.alloc (.cells (sV d) 32)):=⟨_,rfl⟩
 rw[<-hW]
 rw[<-hW] at hb0 D0 hz0 k20'
 clear hW D0
 go_loopw [5,13] (fun t5 tk wr=>∃(k:Nat) (m:Int),k<=d.kin/\0<=m/\m<=84/\tk=.int .i64 k/\t5=.int .i64 m/\Hid (m=(maxN f k:Int))/\Below W.heap.size W wr) (fun _ tk _=>d.kin - (intOf tk).toNat)
 case atStart=>exact⟨0,0,Nat.zero_le _,by omega,by omega,rfl,rfl,by simp[Hid,maxN],Below.refl _ _⟩
 case round=>
  obtain⟨k,m,hk,hm0,hm1,rfl,rfl,hcn,hbr⟩:=hrel
  have aw:Hid (Below w.heap.size w wr):=hb0.out.trans (hbr.mono hb0.out.size)
  have aJ:Hid (Below W.heap.size W wr):=hbr
  clear hbr
  by_cases hlt:k<d.kin
  ·have aF:(k:Int)<(d.kin:Int):=by omega
   rcases hk'.out with h0 | ⟨b,o,hq,hbb,hcx⟩
   ·omega
   have hx:=zac (hcx k hlt) aw.out hbb
   have lx:(ds k).cells.length=21:=rfl
   have ox':Hid ((ds k).cells.toArray.all (·.oneCell')=true):=(ds k).one
   have hb3:Hid (Below wr.heap.size wr (wr.alloc (.cells (ds k).cells.toArray 32))):=zaa wr _
   have ai:=hR k hlt _ (aw.out.trans (hb3.out.mono aw.out.size))
   clear hcx
   generalize (ds k).cells=cx at*
   rw[hq]
   have X1:Hid ((wr.alloc (.cells cx.toArray 32)).rangeAt wr.heap.size 0 cx):=zah _ _ _
   obtain⟨q,hq9⟩:∃q:Int,Hid (((f k:Int):Int)=q):=⟨_,rfl⟩
   rw[hq9.out] at ai
   have hq8:0<=q/\q<=84/\max m q=(maxN f (k+1):Int):=by
    have h1:=hm.out k
    have h2:=hm.out (k+1)
    have h3:f k<=maxN f (k+1):=Nat.le_max_right _ _
    have h4:maxN f (k+1)=max (maxN f k) (f k):=rfl
    have h5:=hcn.out
    have h6:=hq9.out
    omega
   have hq7:Hid (max m q=(maxN f (k+1):Int)):=hq8.2.2
   have hq0:=hq8.1
   have hq1:=hq8.2.1
   clear hq8 hcn hq9 hR
   go_wp2_with (first
    | (with_reducible refine ldm (op:=⟨some 16,_,_,_,_,_⟩) 15 b (o+k*21) cx hx lx ?_)
    | (with_reducible refine stn 7 16 cx lx ox'.out ?_)
    | (with_reducible refine ldm (op:=⟨some 18,_,_,_,_,_⟩) 7 wr.heap.size 0 cx X1.out lx ?_)
    | (go_at_call 52;with_reducible refine ai.mono ?_;rintro e w5 ⟨rfl,hb5⟩))
   go_roundw
   case rel=>exact⟨k+1,max m q,by omega,by omega,by omega,by go_num,rfl,hq7,aJ.out.trans ((hb3.out.trans (hb5.mono hb3.out.size)).mono aJ.out.size)⟩
   case measure=>simp[intOf];omega
  ·have hkk:k=d.kin:=by omega
   subst hkk
   have hRv:R=m+1:=by rw[<-hRR.out,hcn.out]
   subst hRv
   go_wp2_with fail
   go_ret
   exact⟨rfl,aw.out⟩
end Go.Proofs.YtnnhofmknilopaaGreatDoor
