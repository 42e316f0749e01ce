import Derived.Test.YtnnhofmknilopaaGreatDoorPk31
namespace Go.Proofs.YtnnhofmknilopaaGreatDoor
open Go Go.RowKit
set_option maxRecDepth 100000
set_option maxHeartbeats 16000000
theorem zfn {w:World} {d:Sd} (ds:Nat->Sd) (F:Nat->Bool) {A:Bool} (cE:d.kin<=1099511627776) (hk:d.kin=0\/∃b o,d.kiq=some ⟨b,o,none⟩/\b<w.heap.size/\∀i,i<d.kin->w.rangeAt b (o+i*21) (ds i).cells)
  (hV:∀z,Below w.heap.size w z->Calls Tryz.prog 9 #[.agg (sV d)] z (Rt z (.bool A)))
  (hR:∀i,i<d.kin->∀z,Below w.heap.size w z->Calls Tryz.prog 8 #[.agg (ds i).cells.toArray,.func (.func 9) #[] #[]] z (Rt z (.bool (F i)))):
  Calls Tryz.prog 8 #[.agg (sV d),.func (.func 9) #[] #[]] w (Rt w (.bool (A&&(List.range d.kin).all F))):=by
 have hk':=zab hk
 clear hk
 obtain⟨dd,hu,hd⟩:=zay
 have hHu:Hid (Tryz.prog.underlying 32=some dd):=hu
 clear hu
 have hb0:Hid (Below w.heap.size w (w.alloc (.cells (sV d) 32))):=zaa w _
 have D0:Hid ((w.alloc (.cells (sV d) 32)).rangeAt (w.heap.size) 0 d.cells):=zah w d.cells 32
 have hz0:(w.alloc (.cells (sV d) 32)).heap.size=w.heap.size+1:=by simp
 have k20':(w.alloc (.cells (sV d) 32)).cell? ⟨w.heap.size,20,none⟩=some (.slice d.kiq d.kin d.kic):=by simp
 have hVc:=hV _ hb0.out
 clear hV
 obtain⟨R,hRR⟩:∃R,Hid ((List.range d.kin).all F=R):=⟨_,rfl⟩
 rw[hRR.out]
 have hR1:Hid (∀k,k<d.kin->F k=false->R=false):=fun k hk h=>by rw[<-hRR.out,zgb hk h]
 have hR2:Hid ((∀j,j<d.kin->F j=true)->R=true):=fun h=>by rw[<-hRR.out,za9 h]
 clear hRR
 cases A with
 | false=>
  go_enter Tryz.func8,Tryz.ntmps8
  go_wp2_with (first
   | (with_reducible refine ldm (op:=⟨some 8,_,_,_,_,_⟩) 2 w.heap.size 0 d.cells D0.out d.len ?_)
   | (go_at_call 9;refine hVc.mono ?_;rintro e w2 ⟨rfl,hb2⟩))
  go_ret
  exact⟨rfl,hb0.out.trans (hb2.mono hb0.out.size)⟩
 | true=>
  go_enter Tryz.func8,Tryz.ntmps8
  go_wp2_with (first
   | (with_reducible refine ldm (op:=⟨some 8,_,_,_,_,_⟩) 2 w.heap.size 0 d.cells D0.out d.len ?_)
   | (go_at_call 9;refine hVc.mono ?_;rintro e w2 ⟨rfl,hb2⟩
      have k20:w2.cell? ⟨w.heap.size,20,none⟩=some (.slice d.kiq d.kin d.kic):=(hb2.cell (by show w.heap.size<_;omega)).trans k20'
      have W2:Hid (Below w.heap.size w w2):=hb0.out.trans (hb2.mono hb0.out.size)))
  go_loopw [14] (fun i wr=>∃k:Nat,k<=d.kin/\i=.int .i64 k/\Hid (∀j,j<k->F j=true)/\Below w2.heap.size w2 wr) (fun i _=>d.kin - (intOf i).toNat)
  case atStart=>exact⟨0,Nat.zero_le _,rfl,fun j hj=>by omega,Below.refl _ _⟩
  case round=>
   obtain⟨k,hk,rfl,hz,hbr⟩:=hrel
   by_cases hlt:k<d.kin
   ·have aF:(k:Int)<(d.kin:Int):=by omega
    rcases hk'.out with h0 | ⟨b,o,hq,hbb,hcx⟩
    ·omega
    have aw:Hid (Below w.heap.size w wr):=W2.out.trans (hbr.mono W2.out.size)
    have aJ:Hid (Below w2.heap.size w2 wr):=hbr
    have hx:=zac (hcx k hlt) aw.out hbb
    have lx:(ds k).cells.length=21:=rfl
    have ox':Hid ((ds k).cells.toArray.all (·.oneCell')=true):=(ds k).one
    have hRk:=hR k hlt
    clear hcx hR hbr hb2
    generalize (ds k).cells=cx at*
    rw[hq]
    have X1:Hid ((wr.alloc (.cells cx.toArray 32)).rangeAt wr.heap.size 0 cx):=zah _ _ _
    have hb3:Hid (Below wr.heap.size wr (wr.alloc (.cells cx.toArray 32))):=zaa wr _
    have ai:=hRk _ (aw.out.trans (hb3.out.mono aw.out.size))
    clear hRk
    obtain⟨B,hB⟩:∃B,Hid (F k=B):=⟨_,rfl⟩
    rw[hB.out] at ai
    cases B with
    | false=>
     have hRf:=hR1.out k hlt hB.out
     subst hRf
     go_wp2_with (first
      | (with_reducible refine ldm (op:=⟨some 17,_,_,_,_,_⟩) 16 b (o+k*21) cx hx lx ?_)
      | (with_reducible refine stn 6 17 cx lx ox'.out ?_)
      | (with_reducible refine ldm (op:=⟨some 18,_,_,_,_,_⟩) 6 wr.heap.size 0 cx X1.out lx ?_)
      | (go_at_call 8;with_reducible refine ai.mono ?_;rintro e w5 ⟨rfl,hb5⟩))
     go_ret
     exact⟨rfl,aw.out.trans ((hb3.out.trans (hb5.mono hb3.out.size)).mono aw.out.size)⟩
    | true=>
     have hz':Hid (∀j,j<k+1->F j=true):=fun j hj=>by
      rcases Nat.lt_or_ge j k with h | h
      ·exact hz.out j h
      ·have:j=k:=by omega
       subst this;exact hB.out
     go_wp2_with (first
      | (with_reducible refine ldm (op:=⟨some 17,_,_,_,_,_⟩) 16 b (o+k*21) cx hx lx ?_)
      | (with_reducible refine stn 6 17 cx lx ox'.out ?_)
      | (with_reducible refine ldm (op:=⟨some 18,_,_,_,_,_⟩) 6 wr.heap.size 0 cx X1.out lx ?_)
      | (go_at_call 8;with_reducible refine ai.mono ?_;rintro e w5 ⟨rfl,hb5⟩))
     go_roundw
     case rel=>exact⟨k+1,by omega,by go_num,hz',aJ.out.trans ((hb3.out.trans (hb5.mono hb3.out.size)).mono aJ.out.size)⟩
     case measure=>simp[intOf];omega
   ·have hkk:k=d.kin:=by omega
    subst hkk
    have hRt:=hR2.out hz.out
    subst hRt
    go_wp2_with fail
    go_ret
    exact⟨rfl,W2.out.trans (hbr.mono W2.out.size)⟩
theorem zgu {w:World} {d:Sd} (ds:Nat->Sd) (F:Nat->Bool) {A:Bool} (cE:d.kin<=1099511627776) (hk:d.kin=0\/∃b o,d.kiq=some ⟨b,o,none⟩/\b<w.heap.size/\∀i,i<d.kin->w.rangeAt b (o+i*21) (ds i).cells)
  (hV:∀z,Below w.heap.size w z->Calls Tryz.prog 33 #[.agg (sV d)] z (Rt z (.bool A)))
  (hR:∀i,i<d.kin->∀z,Below w.heap.size w z->Calls Tryz.prog 13 #[.agg (ds i).cells.toArray] z (Rt z (.bool (F i)))):
  Calls Tryz.prog 13 #[.agg (sV d)] w (Rt w (.bool (A&&(List.range d.kin).all F))):=by
 have hk':=zab hk
 clear hk
 obtain⟨dd,hu,hd⟩:=zay
 have hHu:Hid (Tryz.prog.underlying 32=some dd):=hu
 clear hu
 have hb0:Hid (Below w.heap.size w (w.alloc (.cells (sV d) 32))):=zaa w _
 have D0:Hid ((w.alloc (.cells (sV d) 32)).rangeAt (w.heap.size) 0 d.cells):=zah w d.cells 32
 have hz0:(w.alloc (.cells (sV d) 32)).heap.size=w.heap.size+1:=by simp
 have k20':(w.alloc (.cells (sV d) 32)).cell? ⟨w.heap.size,20,none⟩=some (.slice d.kiq d.kin d.kic):=by simp
 have hVc:=hV _ hb0.out
 clear hV
 obtain⟨R,hRR⟩:∃R,Hid ((List.range d.kin).all F=R):=⟨_,rfl⟩
 rw[hRR.out]
 have hR1:Hid (∀k,k<d.kin->F k=false->R=false):=fun k hk h=>by rw[<-hRR.out,zgb hk h]
 have hR2:Hid ((∀j,j<d.kin->F j=true)->R=true):=fun h=>by rw[<-hRR.out,za9 h]
 clear hRR
 cases A with
 | false=>
  go_enter Tryz.func13,Tryz.ntmps13
  go_wp2_with (first
   | (with_reducible refine ldm (op:=⟨some 5,_,_,_,_,_⟩) 1 w.heap.size 0 d.cells D0.out d.len ?_)
   | (go_at_call 33;refine hVc.mono ?_;rintro e w2 ⟨rfl,hb2⟩))
  go_ret
  exact⟨rfl,hb0.out.trans (hb2.mono hb0.out.size)⟩
 | true=>
  go_enter Tryz.func13,Tryz.ntmps13
  go_wp2_with (first
   | (with_reducible refine ldm (op:=⟨some 5,_,_,_,_,_⟩) 1 w.heap.size 0 d.cells D0.out d.len ?_)
   | (go_at_call 33;refine hVc.mono ?_;rintro e w2 ⟨rfl,hb2⟩
      have k20:w2.cell? ⟨w.heap.size,20,none⟩=some (.slice d.kiq d.kin d.kic):=(hb2.cell (by show w.heap.size<_;omega)).trans k20'
      have W2:Hid (Below w.heap.size w w2):=hb0.out.trans (hb2.mono hb0.out.size)))
  go_loopw [11] (fun i wr=>∃k:Nat,k<=d.kin/\i=.int .i64 k/\Hid (∀j,j<k->F j=true)/\Below w2.heap.size w2 wr) (fun i _=>d.kin - (intOf i).toNat)
  case atStart=>exact⟨0,Nat.zero_le _,rfl,fun j hj=>by omega,Below.refl _ _⟩
  case round=>
   obtain⟨k,hk,rfl,hz,hbr⟩:=hrel
   by_cases hlt:k<d.kin
   ·have aF:(k:Int)<(d.kin:Int):=by omega
    rcases hk'.out with h0 | ⟨b,o,hq,hbb,hcx⟩
    ·omega
    have aw:Hid (Below w.heap.size w wr):=W2.out.trans (hbr.mono W2.out.size)
    have aJ:Hid (Below w2.heap.size w2 wr):=hbr
    have hx:=zac (hcx k hlt) aw.out hbb
    have lx:(ds k).cells.length=21:=rfl
    have ox':Hid ((ds k).cells.toArray.all (·.oneCell')=true):=(ds k).one
    have hRk:=hR k hlt
    clear hcx hR hbr hb2
    generalize (ds k).cells=cx at*
    rw[hq]
    have X1:Hid ((wr.alloc (.cells cx.toArray 32)).rangeAt wr.heap.size 0 cx):=zah _ _ _
    have hb3:Hid (Below wr.heap.size wr (wr.alloc (.cells cx.toArray 32))):=zaa wr _
    have ai:=hRk _ (aw.out.trans (hb3.out.mono aw.out.size))
    clear hRk
    obtain⟨B,hB⟩:∃B,Hid (F k=B):=⟨_,rfl⟩
    rw[hB.out] at ai
    cases B with
    | false=>
     have hRf:=hR1.out k hlt hB.out
     subst hRf
     go_wp2_with (first
      | (with_reducible refine ldm (op:=⟨some 14,_,_,_,_,_⟩) 13 b (o+k*21) cx hx lx ?_)
      | (with_reducible refine stn 4 14 cx lx ox'.out ?_)
      | (with_reducible refine ldm (op:=⟨some 15,_,_,_,_,_⟩) 4 wr.heap.size 0 cx X1.out lx ?_)
      | (go_at_call 13;with_reducible refine ai.mono ?_;rintro e w5 ⟨rfl,hb5⟩))
     go_ret
     exact⟨rfl,aw.out.trans ((hb3.out.trans (hb5.mono hb3.out.size)).mono aw.out.size)⟩
    | true=>
     have hz':Hid (∀j,j<k+1->F j=true):=fun j hj=>by
      rcases Nat.lt_or_ge j k with h | h
      ·exact hz.out j h
      ·have:j=k:=by omega
       subst this;exact hB.out
     go_wp2_with (first
      | (with_reducible refine ldm (op:=⟨some 14,_,_,_,_,_⟩) 13 b (o+k*21) cx hx lx ?_)
      | (with_reducible refine stn 4 14 cx lx ox'.out ?_)
      | (with_reducible refine ldm (op:=⟨some 15,_,_,_,_,_⟩) 4 wr.heap.size 0 cx X1.out lx ?_)
      | (go_at_call 13;with_reducible refine ai.mono ?_;rintro e w5 ⟨rfl,hb5⟩))
     go_roundw
     case rel=>exact⟨k+1,by omega,by go_num,hz',aJ.out.trans ((hb3.out.trans (hb5.mono hb3.out.size)).mono aJ.out.size)⟩
     case measure=>simp[intOf];omega
   ·have hkk:k=d.kin:=by omega
    subst hkk
    have hRt:=hR2.out hz.out
    subst hRt
    go_wp2_with fail
    go_ret
    exact⟨rfl,W2.out.trans (hbr.mono W2.out.size)⟩
theorem zgv {w:World} {t:St} {d:Sd} (h:StOk w t d) (hf:t.form=true):Calls Tryz.prog 9 #[d.val] w (Rt w (.bool t.pr)):=by
 cases t with
 | non=>exact h.elim
 | mk s nu de x pn ps bn bs n ki=>
  obtain⟨r,hr,he,hra⟩:=zbo hf
  rw[show (St.mk s nu de x pn ps bn bs n ki).form=formS s (val nu) (val de) x pn ps bn bs n from rfl,zcc hra] at hf
  unfold contB at hf
  simp only[Bool.and_eq_true,decide_eq_true_eq] at hf
  obtain⟨_,_,⟨hp6,hb6,_⟩,_⟩:=hf
  unfold StOk at h
  obtain⟨⟨rfl,rfl,rfl,_⟩,_,_,_,_,_,hP,hB,_,_⟩:=h
  simp only[St.pr,hra]
  cases h4:d.s.pr4 with
  | false=>exact zkp h4
  | true=>exact ziy hr he h4 (fun z hz=>con23_ok (hP.below hz) hp6) (fun z hz=>con24_ok (hB.below hz) hb6)
theorem zhx {w:World} {t:St} {d:Sd} (h:StOk w t d) (hf:t.form=true):Calls Tryz.prog 33 #[d.val] w (Rt w (.bool t.pr)):=by
 cases t with
 | non=>exact h.elim
 | mk s nu de x pn ps bn bs n ki=>
  obtain⟨r,hr,he,hra⟩:=zbo hf
  rw[show (St.mk s nu de x pn ps bn bs n ki).form=formS s (val nu) (val de) x pn ps bn bs n from rfl,zcc hra] at hf
  unfold contB at hf
  simp only[Bool.and_eq_true,decide_eq_true_eq] at hf
  obtain⟨_,_,⟨hp6,hb6,_⟩,_⟩:=hf
  unfold StOk at h
  obtain⟨⟨rfl,rfl,rfl,_⟩,_,_,_,_,_,hP,hB,_,_⟩:=h
  obtain⟨q,hq,q1,_,_,q4⟩:=zjl hr
  have hru:d.s.ru=q.n:=by rw[q1,he]
  have hu:=fun j hj=>zk5 q4 j hj
  have hc:∀j,j<11->∀z,Calls Tryz.prog 54 #[.int .i64 d.s.ru,.int .u8 (letQ.getD j 0).toNat] z (Rt z (.bool (decide (letP.getD j 0∈r.fl)))):=fun j hj z=>by
   rw[<-hu j hj,hru]
   refine zfl hq ?_ z
   have h2:j=0\/j=1\/j=2\/j=3\/j=4\/j=5\/j=6\/j=7\/j=8\/j=9\/j=10:=by omega
   rcases h2 with rfl | rfl | rfl | rfl | rfl | rfl | rfl | rfl | rfl | rfl | rfl<;>decide
  simp only[St.pr,hra]
  cases h4:d.s.pr4 with
  | false=>exact zkt h4
  | true=>exact ziz h4 (hc 0 (by decide)) (hc 1 (by decide)) (hc 8 (by decide)) (fun z=>zcw _ z) (fun z=>zcw _ z) (fun z=>zcw _ z) hP hB hp6 hb6 rfl rfl
theorem walkP_ok:∀(t:St) (d:Sd) (w:World),StOk w t d->t.formed=true->
  Calls Tryz.prog 8 #[d.val,.func (.func 9) #[] #[]] w (Rt w (.bool t.prs)):=by
 intro t
 induction t with
 | non=>exact fun d w h _=>h.elim
 | mk s nu de x pn ps bn bs n ki ih=>
  intro d w h hT
  have hf:=h
  unfold St.formed at hT
  simp only[Bool.and_eq_true,List.all_eq_true,List.mem_range] at hT
  unfold StOk at h
  obtain⟨⟨_,_,_,rfl⟩,_,_,_,_,_,_,_,h9,h10⟩:=h
  have hV:∀z,Below w.heap.size w z->Calls Tryz.prog 9 #[d.val] z (Rt z (.bool (St.mk s nu de x pn ps bn bs d.kin ki).pr)):=fun z hz=>zgv (hf.below hz) hT.1
  rcases h10 with h0 | ⟨b,o,e,hlt,ds,hds⟩
  ·exact zfn (fun _=>d) (fun i=>(ki i).prs) h9 (.inl h0) hV (fun i hi=>by omega)
  ·exact zfn ds (fun i=>(ki i).prs) h9 (.inr ⟨b,o,e,hlt,fun i hi=>(hds i hi).1⟩) hV (fun i hi z hz=>ih i (ds i) z ((hds i hi).2.below hz) (hT.2 i hi))
theorem allW_ok:∀(t:St) (d:Sd) (w:World),StOk w t d->t.formed=true->
  Calls Tryz.prog 13 #[d.val] w (Rt w (.bool t.prs)):=by
 intro t
 induction t with
 | non=>exact fun d w h _=>h.elim
 | mk s nu de x pn ps bn bs n ki ih=>
  intro d w h hT
  have hf:=h
  unfold St.formed at hT
  simp only[Bool.and_eq_true,List.all_eq_true,List.mem_range] at hT
  unfold StOk at h
  obtain⟨⟨_,_,_,rfl⟩,_,_,_,_,_,_,_,h9,h10⟩:=h
  have hV:∀z,Below w.heap.size w z->Calls Tryz.prog 33 #[d.val] z (Rt z (.bool (St.mk s nu de x pn ps bn bs d.kin ki).pr)):=fun z hz=>zhx (hf.below hz) hT.1
  rcases h10 with h0 | ⟨b,o,e,hlt,ds,hds⟩
  ·exact zgu (fun _=>d) (fun i=>(ki i).prs) h9 (.inl h0) hV (fun i hi=>by omega)
  ·exact zgu ds (fun i=>(ki i).prs) h9 (.inr ⟨b,o,e,hlt,fun i hi=>(hds i hi).1⟩) hV (fun i hi z hz=>ih i (ds i) z ((hds i hi).2.below hz) (hT.2 i hi))
theorem zfo {w:World} {d:Sd} (ds:Nat->Sd) (L:Option (List UInt8)) (F:Nat->Option (List UInt8)) (m:Nat->Nat) {dep:Int} (hd0:0<=dep) (hd1:dep<=1000) (cE:d.kin<=1099511627776) (hk:d.kin=0\/∃b o,d.kiq=some ⟨b,o,none⟩/\b<w.heap.size/\∀i,i<d.kin->w.rangeAt b (o+i*21) (ds i).cells)
  (hV:∀z,Below w.heap.size w z->Calls Tryz.prog 34 #[.agg (sV d),.int .i64 dep] z (Rt z (resB L)))
  (hR:∀i,i<d.kin->∀z,Below w.heap.size w z->Calls Tryz.prog 14 #[.agg (ds i).cells.toArray,.int .i64 (dep+1)] z (Rt z (resB (F i))))
  (hL:∀l,L=some l->l.length<=130000) (hF:∀i t,i<d.kin->F i=some t->t.length<=m i) (hm:sumN m d.kin<=1000000000):
  Calls Tryz.prog 14 #[.agg (sV d),.int .i64 dep] w (Rt w (resB (L.bind fun l=>(catO F d.kin).map fun k=>l++10::k))):=by
 have hk':=zab hk
 clear hk
 obtain⟨dd,hu,hd⟩:=zay
 have hHu:=zab hu
 clear hu
 have hb0:Hid (Below w.heap.size w (w.alloc (.cells (sV d) 32))):=zaa w _
 have D0:Hid ((w.alloc (.cells (sV d) 32)).rangeAt (w.heap.size) 0 d.cells):=zah w d.cells 32
 have hz0:(w.alloc (.cells (sV d) 32)).heap.size=w.heap.size+1:=by simp
 have k20':(w.alloc (.cells (sV d) 32)).cell? ⟨w.heap.size,20,none⟩=some (.slice d.kiq d.kin d.kic):=by simp
 have hVc:=hV _ hb0.out
 clear hV
 have hF':=zab hF
 cases L with
 | none=>
  show Calls Tryz.prog 14 #[.agg (sV d),.int .i64 dep] w (Rt w (.tuple #[.string ⟨#[]⟩,.bool false]))
  simp only[resB] at hVc
  clear hF hL hR
  go_enter Tryz.func14,Tryz.ntmps14
  go_wp2_with (first
   | (with_reducible refine ldm (op:=⟨some 13,_,_,_,_,_⟩) 2 w.heap.size 0 d.cells D0.out d.len ?_)
   | (go_at_call 34;refine hVc.mono ?_;rintro e w2 ⟨rfl,hb2⟩))
  go_ret2
  exact⟨rfl,hb0.out.trans (hb2.mono hb0.out.size)⟩
 | some l=>
  have hll:=hL l rfl
  obtain⟨R,hRR⟩:∃R,Hid (catO F d.kin=R):=⟨_,rfl⟩
  show Calls Tryz.prog 14 #[.agg (sV d),.int .i64 dep] w (Rt w (resB ((catO F d.kin).map fun k=>l++10::k)))
  rw[hRR.out]
  have hR1:Hid (∀k,k<d.kin->F k=none->R=none):=fun k hk h=>by rw[<-hRR.out,zfm hk h]
  obtain⟨G,hG⟩:∃G:Nat->List UInt8,∀i,G i=(F i).getD []:=⟨_,fun _=>rfl⟩
  have hG':=zab hG
  have hR2:Hid ((∀j,j<d.kin->F j=some (G j))->R=some (catT G d.kin)):=fun h=>by rw[<-hRR.out,zdx h]
  simp only[resB] at hVc
  have hR':=zab hR
  clear hRR hL hG hF hR
  go_enter Tryz.func14,Tryz.ntmps14
  go_wp2_with (first
   | (with_reducible refine ldm (op:=⟨some 13,_,_,_,_,_⟩) 2 w.heap.size 0 d.cells D0.out d.len ?_)
   | (go_at_call 34;refine hVc.mono ?_;rintro e w2 ⟨rfl,hb2⟩
      have k20:w2.cell? ⟨w.heap.size,20,none⟩=some (.slice d.kiq d.kin d.kic):=(hb2.cell (by show w.heap.size<_;omega)).trans k20'
      have W2:Hid (Below w.heap.size w w2):=hb0.out.trans (hb2.mono hb0.out.size)))
  go_loopw [6,25] (fun s i wr=>∃k:Nat,k<=d.kin/\i=.int .i64 k/\s=.string ⟨(l++10::catT G k).toArray⟩/\Hid (∀j,j<k->F j=some (G j))/\Below w2.heap.size w2 wr) (fun _ i _=>d.kin - (intOf i).toNat)
  case atStart=>exact⟨0,Nat.zero_le _,rfl,zbf (by simp[catT]),fun j hj=>absurd hj (Nat.not_lt_zero _),Below.refl _ _⟩
  case round=>
   obtain⟨k,hk,rfl,rfl,hz,hbr⟩:=hrel
   have hcl:(catT G k).length<=sumN m k:=zet (G:=G) (m:=m) fun i hi=>hF'.out i _ (by omega) (hz.out i hi)
   have hcl2:(catT G k).length<=1000000000:=by have:=zeu (m:=m) hk;omega
   clear hcl
   by_cases hlt:k<d.kin
   ·have aF:(k:Int)<(d.kin:Int):=by omega
    rcases hk'.out with h0 | ⟨b,o,hq,hbb,hcx⟩
    ·omega
    have aw:Hid (Below w.heap.size w wr):=W2.out.trans (hbr.mono W2.out.size)
    have aJ:Hid (Below w2.heap.size w2 wr):=hbr
    have hx:=zac (hcx k hlt) aw.out hbb
    have lx:(ds k).cells.length=21:=rfl
    have ox':Hid ((ds k).cells.toArray.all (·.oneCell')=true):=(ds k).one
    have hRk:=hR'.out k hlt
    have hmk:sumN m k+m k<=1000000000:=by have:=zeu (m:=m) (show k+1<=d.kin by omega);rw[zbt] at this;omega
    clear hcx hbr hb2
    generalize (ds k).cells=cx at*
    rw[hq]
    have X1:Hid ((wr.alloc (.cells cx.toArray 32)).rangeAt wr.heap.size 0 cx):=zah _ _ _
    have hb3:Hid (Below wr.heap.size wr (wr.alloc (.cells cx.toArray 32))):=zaa wr _
    have ai:=hRk _ (aw.out.trans (hb3.out.mono aw.out.size))
    clear hRk
    cases hFv:F k with
    | none=>
     have hRf:=hR1.out k hlt hFv
     subst hRf
     rw[hFv] at ai
     simp only[resB] at ai
     have hFv:=zab hFv
     go_wp2_with (first
      | (with_reducible refine ldm (op:=⟨some 28,_,_,_,_,_⟩) 27 b (o+k*21) cx hx lx ?_)
      | (with_reducible refine stn 9 28 cx lx ox'.out ?_)
      | (with_reducible refine ldm (op:=⟨some 30,_,_,_,_,_⟩) 9 wr.heap.size 0 cx X1.out lx ?_)
      | (go_at_call 14;with_reducible refine ai.mono ?_;rintro e w5 ⟨rfl,hb5⟩))
     go_ret2
     exact⟨rfl,aw.out.trans ((hb3.out.trans (hb5.mono hb3.out.size)).mono aw.out.size)⟩
    | some T=>
     have hTl:=hF'.out k T hlt hFv
     rw[hFv] at ai
     simp only[resB] at ai
     have cF:=zab hFv
     have hGv:Hid (G k=T):=by show G k=T;rw[hG'.out k,hFv];rfl
     clear hFv
     go_wp2_with (first
      | (with_reducible refine ldm (op:=⟨some 28,_,_,_,_,_⟩) 27 b (o+k*21) cx hx lx ?_)
      | (with_reducible refine stn 9 28 cx lx ox'.out ?_)
      | (with_reducible refine ldm (op:=⟨some 30,_,_,_,_,_⟩) 9 wr.heap.size 0 cx X1.out lx ?_)
      | (go_at_call 14;with_reducible refine ai.mono ?_;rintro e w5 ⟨rfl,hb5⟩))
     go_roundw
     case rel=>
      refine⟨k+1,by omega,by go_num,zbf (by rw[show catT G (k+1)=catT G k++G k from rfl,hGv.out];simp),fun j hj=>?_,aJ.out.trans ((hb3.out.trans (hb5.mono hb3.out.size)).mono aJ.out.size)⟩
      rcases Nat.lt_or_ge j k with h | h
      ·exact hz.out j h
      ·have:j=k:=by omega
       subst this;rw[cF.out,hGv.out]
     case measure=>simp[intOf];omega
   ·have hkk:k=d.kin:=by omega
    subst hkk
    have hRt:=hR2.out hz.out
    subst hRt
    go_wp2_with fail
    go_ret2
    exact⟨rfl,W2.out.trans (hbr.mono W2.out.size)⟩
theorem lines_ok:∀(t:St) (d:Sd) (w:World) (l:Nat) (dep:Int),StOk w t d->t.rdy l->0<=dep->dep+l<=1000->130000*t.size<=1000000000->
  Calls Tryz.prog 14 #[d.val,.int .i64 dep] w (Rt w (resB (t.lin dep))):=by
 intro t
 induction t with
 | non=>exact fun d w l dep h=>h.elim
 | mk s nu de x pn ps bn bs n ki ih=>
  intro d w l dep h hr h0 h1 hs
  have hf:=h
  obtain⟨n1,n2,n3⟩:=hr.node
  obtain⟨hl2,hkr⟩:=hr.kid
  obtain⟨r,hk,he,hra⟩:=zbo n1
  have hp:=zk0 hra n1 n2
  unfold StOk at h
  obtain⟨⟨_,_,_,rfl⟩,_,_,_,_,_,_,_,h9,h10⟩:=h
  have hV:∀z,Below w.heap.size w z->Calls Tryz.prog 34 #[d.val,.int .i64 dep] z (Rt z (resB ((St.mk s nu de x pn ps bn bs d.kin ki).ln dep))):=fun z hz=>lineQ_st (hf.below hz) hk hra he hp n3 h0 (by omega)
  have hL:∀ll,(St.mk s nu de x pn ps bn bs d.kin ki).ln dep=some ll->ll.length<=130000:=fun ll hll=>by have:=zk1 hk hra hp n3 h0 (by omega) hll;omega
  have hF:∀i t,i<d.kin->(ki i).lin (dep+1)=some t->t.length<=130000*(ki i).size:=fun i t hi ht=>(ki i).lin_len (l - 1) (dep+1) t (hkr i hi) (by omega) (by omega) ht
  have hsz:∀c,sumN (fun i=>130000*(ki i).size) c=130000*sumN (fun i=>(ki i).size) c:=by
   intro c
   induction c with
   | zero=>rfl
   | succ c ihc=>rw[zbt,zbt,ihc,Nat.mul_add]
  have hs':130000*(1+sumN (fun i=>(ki i).size) d.kin)<=1000000000:=hs
  have hm:sumN (fun i=>130000*(ki i).size) d.kin<=1000000000:=by rw[hsz];omega
  have hki:∀i,i<d.kin->130000*(ki i).size<=1000000000:=fun i hi=>by have:=sum_ge (F:=fun i=>(ki i).size) hi;omega
  rcases h10 with h0' | ⟨b,o,e,hlt,ds,hds⟩
  ·exact zfo (fun _=>d) _ (fun i=>(ki i).lin (dep+1)) (fun i=>130000*(ki i).size) h0 (by omega) h9 (.inl h0') hV (fun i hi=>by omega) hL hF hm
  ·exact zfo ds _ (fun i=>(ki i).lin (dep+1)) (fun i=>130000*(ki i).size) h0 (by omega) h9 (.inr ⟨b,o,e,hlt,fun i hi=>(hds i hi).1⟩) hV
    (fun i hi z hz=>ih i (ds i) z (l - 1) (dep+1) ((hds i hi).2.below hz) (hkr i hi) (by omega) (by omega) (hki i hi)) hL hF hm
def WrO (R:Option (List UInt8)) (B b:Nat) (l:List UInt8) (w:World) (e:Ending) (w':World):Prop:=
 Wr B b w w'/\match R with
  | none=>e=.returned (.int .i64 4)
  | some T=>e=.returned (.int .i64 0)/\Bld w' B b (l++T)
theorem zi0 {B b:Nat} {l:List UInt8} {w w':World} {e:Ending} (h:WrO none B b l w e w'):e=.returned (.int .i64 4)/\Wr B b w w':=⟨h.2,h.1⟩
theorem zi1 {B b:Nat} {l T:List UInt8} {w w':World} {e:Ending} (h:WrO (some T) B b l w e w'):e=.returned (.int .i64 0)/\Bld w' B b (l++T)/\Wr B b w w':=⟨h.2.1,h.2.2,h.1⟩
theorem wrO_mk {B b:Nat} {l T:List UInt8} {w w':World} {e:Ending} (h1:e=.returned (.int .i64 0)) (h2:Bld w' B b (l++T)) (h3:Wr B b w w'):WrO (some T) B b l w e w':=⟨h3,h1,h2⟩
theorem zev {w0 w:World} {d:Sd} (ds:Nat->Sd) (L:Option (List UInt8)) (F:Nat->Option (List UInt8)) (m:Nat->Nat) {dep:Int} {B b:Nat} {l:List UInt8} (hw:Below w0.heap.size w0 w) (hB0:w0.heap.size<=B) (hB:B<=w.heap.size) (hbl:Bld w B b l)
  (hd0:0<=dep) (hd1:dep<=1000) (cE:d.kin<=1099511627776) (hk:d.kin=0\/∃b o,d.kiq=some ⟨b,o,none⟩/\b<w0.heap.size/\∀i,i<d.kin->w0.rangeAt b (o+i*21) (ds i).cells)
  (hV:∀z,Below w0.heap.size w0 z->Calls Tryz.prog 27 #[.agg (sV d),.int .i64 dep] z (Rt z (resT L)))
  (hR:∀i,i<d.kin->∀(z:World) (l:List UInt8),Below w0.heap.size w0 z->B<=z.heap.size->Bld z B b l->l.length+m i<=140737488355328->Calls Tryz.prog 10 #[.pointer (some ⟨b,0,none⟩),.agg (ds i).cells.toArray,.int .i64 (dep+1)] z fun e w'=>WrO (F i) B b l z e w')
  (hL:∀l,L=some l->l.length<=129999) (hF:∀i t,i<d.kin->F i=some t->t.length<=m i) (hm:l.length+(130000+sumN m d.kin)<=140737488355328):
  Calls Tryz.prog 10 #[.pointer (some ⟨b,0,none⟩),.agg (sV d),.int .i64 dep] w fun e w'=>WrO (L.bind fun l=>(catO F d.kin).map fun k=>l++10::k) B b l w e w':=by
 have hk':=zab hk
 clear hk
 obtain⟨dd,hu,hd⟩:=zay
 have hHu:=zab hu
 clear hu
 have hb0:Hid (Below w.heap.size w (w.alloc (.cells (sV d) 32))):=zaa w _
 have W0:Hid (Wr B b w (w.alloc (.cells (sV d) 32))):=Wr.of hb0.out hB
 have D0:Hid ((w.alloc (.cells (sV d) 32)).rangeAt (w.heap.size) 0 d.cells):=zah w d.cells 32
 have c0:Hid ((w.alloc (.cells (sV d) 32)).heap[w.heap.size]?=some (.cells (sV d) 32 (0,0))):=heap_alloc_new w _
 have hz0:(w.alloc (.cells (sV d) 32)).heap.size=w.heap.size+1:=by simp
 have hVc:=hV _ (W0.out.base hw hB0)
 have bl0:=zab (hbl.below hb0.out)
 obtain⟨hbB,hbw⟩:=hbl.le
 have hne:Hid (w.heap.size≠b):=by show _≠_;omega
 clear hV
 have hF':=zab hF
 have hw':=zab hw
 have hm':=zab hm
 cases L with
 | none=>
  show Calls Tryz.prog 10 #[.pointer (some ⟨b,0,none⟩),.agg (sV d),.int .i64 dep] w fun e w'=>WrO none B b l w e w'
  simp only[resT] at hVc
  clear hF hL hR hw hm hbl
  go_enter Tryz.func10,Tryz.ntmps10
  go_wp2_with (first
   | (with_reducible refine ldm (op:=⟨some 13,_,_,_,_,_⟩) 4 w.heap.size 0 d.cells D0.out d.len ?_)
   | (go_at_call 27;refine hVc.mono ?_;rintro e w2 ⟨rfl,hb2⟩))
  go_ret
  exact⟨W0.out.trans (Wr.of hb2 (by omega)),rfl⟩
 | some ll=>
  have hll:=hL ll rfl
  obtain⟨R,hRR⟩:∃R,Hid (catO F d.kin=R):=⟨_,rfl⟩
  show Calls Tryz.prog 10 #[.pointer (some ⟨b,0,none⟩),.agg (sV d),.int .i64 dep] w fun e w'=>WrO ((catO F d.kin).map fun k=>ll++10::k) B b l w e w'
  rw[hRR.out]
  have hR1:Hid (∀k,k<d.kin->F k=none->R=none):=fun k hk h=>by rw[<-hRR.out,zfm hk h]
  obtain⟨G,hG⟩:∃G:Nat->List UInt8,∀i,G i=(F i).getD []:=⟨_,fun _=>rfl⟩
  have hG':=zab hG
  have hR2:Hid ((∀j,j<d.kin->F j=some (G j))->R=some (catT G d.kin)):=fun h=>by rw[<-hRR.out,zdx h]
  simp only[resT] at hVc
  have hR':=zab hR
  have hws:=fun(s:List UInt8) (w:World) (l:List UInt8) (h:Bld w B b l) (hl:l.length+s.length<=140737488355328) (hB:B<=w.heap.size)=>wstr (s:=s) h hl hB
  clear hRR hL hG hF hR hw hm hbl
  go_enter Tryz.func10,Tryz.ntmps10
  go_wp2_with (first
   | (with_reducible refine ldm (op:=⟨some 13,_,_,_,_,_⟩) 4 w.heap.size 0 d.cells D0.out d.len ?_)
   | (go_at_call 27;refine hVc.mono ?_;rintro e w2 ⟨rfl,hb2⟩
      have W2:Hid (Wr B b w w2):=W0.out.trans (Wr.of hb2 (by omega))
      have c2:Hid (w2.heap[w.heap.size]?=some (.cells (sV d) 32 (0,0))):=(hb2.block _ (Array.getElem?_eq_some_iff.1 c0.out).1).trans c0.out
      have bl2:=bl0.out.below hb2
      have hB2:B<=w2.heap.size:=Nat.le_trans hB W2.out.size
      have hst:=hws ll w2 l bl2 (by have:=hm'.out;omega) hB2
      clear hb2 bl2)
   | (go_at_call 28;refine hst.mono ?_;rintro e w3 ⟨⟨v3,rfl⟩,bl3,W23⟩
      have W3:Hid (Wr B b w w3):=W2.out.trans W23
      have c3:Hid (w3.heap[w.heap.size]?=some (.cells (sV d) 32 (0,0))):=W23.blk c2.out hne.out (by decide)
      have hB3:B<=w3.heap.size:=Nat.le_trans hB W3.out.size
      have hby:=wbyte (c:=10) bl3 (by have:=hm'.out;simp;omega) hB3
      clear W23 bl3 hst)
   | (go_at_call 29;refine hby.mono ?_;rintro e w4 ⟨⟨v4,rfl⟩,bl4,W34⟩
      have W4:Hid (Wr B b w w4):=W3.out.trans W34
      have c4:Hid (w4.heap[w.heap.size]?=some (.cells (sV d) 32 (0,0))):=W34.blk c3.out hne.out (by decide)
      have k20:w4.cell? ⟨w.heap.size,20,none⟩=some (.slice d.kiq d.kin d.kic):=by simp[World.cell?,c4.out]
      have hB4:B<=w4.heap.size:=Nat.le_trans hB W4.out.size
      have bl4':=zab bl4
      clear W34 bl4 hby))
  go_loopw [29] (fun i wr=>∃k:Nat,k<=d.kin/\i=.int .i64 k/\Hid (Bld wr B b (l++(ll++10::catT G k)))/\Hid (∀j,j<k->F j=some (G j))/\Hid (Wr B b w4 wr)) (fun i _=>d.kin - (intOf i).toNat)
  case atStart=>exact⟨0,Nat.zero_le _,rfl,by have:=bl4'.out;show Bld _ _ _ _;simpa [catT] using this,fun j hj=>absurd hj (Nat.not_lt_zero _),Wr.refl _ _ _⟩
  case round=>
   obtain⟨k,hk,rfl,hbk,hz,hWr⟩:=hrel
   have hBr:B<=wr.heap.size:=Nat.le_trans hB4 hWr.out.size
   have hcl:(catT G k).length<=sumN m k:=zet (G:=G) (m:=m) fun i hi=>hF'.out i _ (by omega) (hz.out i hi)
   by_cases hlt:k<d.kin
   ·have aF:(k:Int)<(d.kin:Int):=by omega
    rcases hk'.out with h0 | ⟨bb,o,hq,hbb,hcx⟩
    ·omega
    have aw:Hid (Below w0.heap.size w0 wr):=(W4.out.trans hWr.out).base hw'.out hB0
    have hx:=zac (hcx k hlt) aw.out hbb
    have lx:(ds k).cells.length=21:=rfl
    have ox':Hid ((ds k).cells.toArray.all (·.oneCell')=true):=(ds k).one
    have hRk:=hR'.out k hlt
    have hmk:sumN m k+m k<=sumN m d.kin:=by have:=zeu (m:=m) (show k+1<=d.kin by omega);rw[zbt] at this;omega
    have hmm:=hm'.out
    clear hcx
    generalize (ds k).cells=cx at*
    rw[hq]
    have X1:Hid ((wr.alloc (.cells cx.toArray 32)).rangeAt wr.heap.size 0 cx):=zah _ _ _
    have hb3:Hid (Below wr.heap.size wr (wr.alloc (.cells cx.toArray 32))):=zaa wr _
    have Wc:Hid (Wr B b w4 (wr.alloc (.cells cx.toArray 32))):=hWr.out.trans (Wr.of hb3.out hBr)
    have ai:=hRk _ _ ((W4.out.trans Wc.out).base hw'.out hB0) (by simp;omega) (hbk.out.below hb3.out) (by simp only[List.length_append,List.length_cons];omega)
    clear hRk hmm
    cases hFv:F k with
    | none=>
     have hRf:=hR1.out k hlt hFv
     subst hRf
     rw[hFv] at ai
     have hFv:=zab hFv
     go_wp2_with (first
      | (with_reducible refine ldm (op:=⟨some 32,_,_,_,_,_⟩) 31 bb (o+k*21) cx hx lx ?_)
      | (with_reducible refine stn 10 32 cx lx ox'.out ?_)
      | (with_reducible refine ldm (op:=⟨some 34,_,_,_,_,_⟩) 10 wr.heap.size 0 cx X1.out lx ?_)
      | (go_at_call 10;with_reducible refine ai.mono ?_;rintro e w5 h5
         obtain⟨rfl,W5⟩:=zi0 h5))
     go_ret
     exact⟨W4.out.trans (Wc.out.trans W5),rfl⟩
    | some T=>
     rw[hFv] at ai
     have cF:=zab hFv
     have hGv:Hid (G k=T):=by show G k=T;rw[hG'.out k,hFv];rfl
     clear hFv
     go_wp2_with (first
      | (with_reducible refine ldm (op:=⟨some 32,_,_,_,_,_⟩) 31 bb (o+k*21) cx hx lx ?_)
      | (with_reducible refine stn 10 32 cx lx ox'.out ?_)
      | (with_reducible refine ldm (op:=⟨some 34,_,_,_,_,_⟩) 10 wr.heap.size 0 cx X1.out lx ?_)
      | (go_at_call 10;with_reducible refine ai.mono ?_;rintro e w5 h5
         obtain⟨rfl,bl5,W5⟩:=zi1 h5))
     go_roundw
     case rel=>
      refine⟨k+1,by omega,by go_num,?_,fun j hj=>?_,Wc.out.trans W5⟩
      ·show Bld _ _ _ _
       rw[show catT G (k+1)=catT G k++G k from rfl,hGv.out]
       simpa using bl5
      rcases Nat.lt_or_ge j k with h | h
      ·exact hz.out j h
      ·have:j=k:=by omega
       subst this;rw[cF.out,hGv.out]
     case measure=>simp[intOf];omega
   ·have hkk:k=d.kin:=by omega
    subst hkk
    have hRt:=hR2.out hz.out
    subst hRt
    go_wp2_with fail
    go_ret
    exact wrO_mk rfl hbk.out (W4.out.trans hWr.out)
theorem zku {w0:World} (hT:Tb w0) (hTi:Ti w0):∀(t:St) (d:Sd) (v:Nat) (dep:Int),StOk w0 t d->t.rdy v->0<=dep->dep+v<=1000->∀(w:World) (B b:Nat) (l:List UInt8),Below w0.heap.size w0 w->w0.heap.size<=B->B<=w.heap.size->Bld w B b l->l.length+130000*t.size<=140737488355328->
  Calls Tryz.prog 10 #[.pointer (some ⟨b,0,none⟩),d.val,.int .i64 dep] w fun e w'=>WrO (t.lin dep) B b l w e w':=by
 intro t
 induction t with
 | non=>exact fun d v dep h=>h.elim
 | mk s nu de x pn ps bn bs n ki ih=>
  intro d v dep h hr h0 h1 w B b l hw hB0 hB hbl hs
  have hf:=h
  obtain⟨n1,n2,n3⟩:=hr.node
  obtain⟨hl2,hkr⟩:=hr.kid
  obtain⟨r,hk,he,hra⟩:=zbo n1
  have hp:=zk0 hra n1 n2
  unfold StOk at h
  obtain⟨⟨_,_,_,rfl⟩,_,_,_,_,_,_,_,h9,h10⟩:=h
  have hV:∀z,Below w0.heap.size w0 z->Calls Tryz.prog 27 #[d.val,.int .i64 dep] z (Rt z (resT ((St.mk s nu de x pn ps bn bs d.kin ki).ln dep))):=fun z hz=>line_ok (hf.below hz) hk hra he hp n3 (hT.below hz) (hTi.below hz) h0 (by omega)
  have hL:∀ll,(St.mk s nu de x pn ps bn bs d.kin ki).ln dep=some ll->ll.length<=129999:=fun ll hll=>by have:=zk1 hk hra hp n3 h0 (by omega) hll;omega
  have hF:∀i t,i<d.kin->(ki i).lin (dep+1)=some t->t.length<=130000*(ki i).size:=fun i t hi ht=>(ki i).lin_len (v - 1) (dep+1) t (hkr i hi) (by omega) (by omega) ht
  have hsz:∀c,sumN (fun i=>130000*(ki i).size) c=130000*sumN (fun i=>(ki i).size) c:=by
   intro c
   induction c with
   | zero=>rfl
   | succ c ihc=>rw[zbt,zbt,ihc,Nat.mul_add]
  have hs':l.length+130000*(1+sumN (fun i=>(ki i).size) d.kin)<=140737488355328:=hs
  have hm:l.length+(130000+sumN (fun i=>130000*(ki i).size) d.kin)<=140737488355328:=by rw[hsz];omega
  rcases h10 with h0' | ⟨bb,o,e,hlt,ds,hds⟩
  ·exact zev (fun _=>d) _ (fun i=>(ki i).lin (dep+1)) (fun i=>130000*(ki i).size) hw hB0 hB hbl h0 (by omega) h9 (.inl h0') hV (fun i hi=>by omega) hL hF hm
  ·exact zev ds _ (fun i=>(ki i).lin (dep+1)) (fun i=>130000*(ki i).size) hw hB0 hB hbl h0 (by omega) h9 (.inr ⟨bb,o,e,hlt,fun i hi=>(hds i hi).1⟩) hV
    (fun i hi z l' hz hBz hbz hlz=>ih i (ds i) (v - 1) (dep+1) (hds i hi).2 (hkr i hi) (by omega) (by omega) z B b l' hz hB0 hBz hbz hlz) hL hF hm
end Go.Proofs.YtnnhofmknilopaaGreatDoor
