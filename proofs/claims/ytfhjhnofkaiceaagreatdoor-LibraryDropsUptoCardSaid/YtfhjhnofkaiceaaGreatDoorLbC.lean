import Derived.Test.YtfhjhnofkaiceaaGreatDoorLbA
namespace Go.Proofs.YtfhjhnofkaiceaaGreatDoor
open Go Go.RowKit
set_option maxRecDepth 100000 in
set_option maxHeartbeats 1000000 in
theorem zc2 {w:World} (b o n c:Nat) (L:List En) (hL:L.length=n) (hn:n<=1048576) (hoks:∀e∈L,e.Ok) (hb:b<w.heap.size) (hx:∀i e,L[i]?=some e->w.rangeAt b (o+i*33) e.cells)
  (k0:Ky) (B:Nat) (hB:B<w.heap.size) (hk:w.rangeAt B 0 (kcells k0)):
  Calls Tryz.prog 41 #[.slice (some ⟨b,o,none⟩) n c,.func (.func 42) #[] #[.pointer (some ⟨B,0,none⟩)]] w fun x w'=>x=.returned (.int .i64 (ixI (L.map (·.k)) k0))/\Below w.heap.size w w':=by
 have hx':Hid (∀i e,L[i]?=some e->w.rangeAt b (o+i*33) e.cells):=hx
 have hoks':Hid (∀e∈L,e.Ok):=hoks
 obtain⟨dd,hu,hd⟩:=zbe
 have hHu:Hid (Tryz.prog.underlying 55=some dd):=hu
 have hk':Hid (w.rangeAt B 0 (kcells k0)):=hk
 clear hx hoks hu hk
 go_enter Tryz.func41,Tryz.ntmps41
 go_wp2_with fail
 go_loopw [8] (fun i wr=>∃k:Nat,k<=n/\i=.int .i64 k/\(∀j a,j<k->(L.map (·.k))[j]?=some a->¬a=k0)/\Below w.heap.size w wr) (fun i _=>n - (intOf i).toNat)
 case atStart=>exact⟨0,Nat.zero_le _,rfl,fun j a hj=>by omega,Below.refl _ _⟩
 case round=>
  obtain⟨k,hk,rfl,hlow,hbw⟩:=hrel
  have hlow':Hid (∀j a,j<k->(L.map (·.k))[j]?=some a->¬a=k0):=hlow
  clear hlow
  by_cases hlt:k<n
  ·have hlt':(k:Int)<(n:Int):=by omega
   obtain⟨e,he⟩:∃e,L[k]?=some e:=⟨_,List.getElem?_eq_getElem (by omega)⟩
   have heL:=List.mem_of_getElem? he
   have hek:=hoks'.out e heL
   have hx:=rangeAt_below (hx'.out k e he) hbw hb
   have lx:=hek.len'
   have ox':Hid (e.cells.toArray.all (·.oneCell')=true):=hek.one'
   have hcall:=idx1_ok (w:=wr) e hek k0 B (Nat.lt_of_lt_of_le hB hbw.size) (rangeAt_below hk'.out hbw hB)
   have hel:Hid ((L.map (·.k))[k]?=some e.k):=by show(L.map (·.k))[k]?=some e.k;rw[List.getElem?_map,he];rfl
   clear he heL hek
   generalize hee:e.k=ek at*
   generalize e.cells=cx at*
   clear hee
   by_cases hq:ek=k0
   ·rw[decide_eq_true hq] at hcall
    have hq':Hid (ek=k0):=hq
    clear hq
    go_wp2_with (first
     | (with_reducible refine wpList_load_mid (op:=⟨some 15,_,_,_,_,_⟩) ?_ 55 (.tmp 14) ?_ (b) (o+k*33) ?_ cx dd ?_ hHu.out hd ?_ ?_
        rotate_left 1
        ·with_reducible rfl
        ·kernel_rfl
        ·exact hx
        ·(rw[lx];exact zag)
        rotate_left 1
        ·rfl)
     | (go_at_call 42;refine hcall.mono ?_;rintro x w5 ⟨rfl,hb5⟩))
    go_ret
    have hs:ixK (L.map (·.k)) k0=some k:=zcr (by rw[<-hq'.out];exact hel.out) hlow'.out
    refine⟨?_,hbw.trans (hb5.mono hbw.size)⟩
    unfold ixI
    rw[hs]
    rfl
   ·rw[decide_eq_false hq] at hcall
    have hq':Hid (¬ek=k0):=hq
    clear hq
    go_wp2_with (first
     | (with_reducible refine wpList_load_mid (op:=⟨some 15,_,_,_,_,_⟩) ?_ 55 (.tmp 14) ?_ (b) (o+k*33) ?_ cx dd ?_ hHu.out hd ?_ ?_
        rotate_left 1
        ·with_reducible rfl
        ·kernel_rfl
        ·exact hx
        ·(rw[lx];exact zag)
        rotate_left 1
        ·rfl)
     | (go_at_call 42;refine hcall.mono ?_;rintro x w5 ⟨rfl,hb5⟩))
    go_roundw
    case rel=>
     refine⟨k+1,by omega,by go_num,fun j a hj ha=>?_,hbw.trans (hb5.mono hbw.size)⟩
     rcases Nat.lt_or_ge j k with h | h
     ·exact hlow'.out j a h ha
     ·obtain rfl:j=k:=by omega
      rw[hel.out] at ha
      cases ha
      exact hq'.out
    case measure=>simp[intOf];omega
  ·obtain rfl:k=n:=by omega
   go_wp2_with fail
   go_ret
   have hs:ixK (L.map (·.k)) k0=none:=zcs fun j a ha=>hlow'.out j a (by
    have:=(List.getElem?_eq_some_iff.1 ha).1
    simp at this
    omega) ha
   refine⟨?_,hbw⟩
   unfold ixI
   rw[hs]
   rfl
set_option maxRecDepth 100000 in
theorem zc3 {w:World} (q:Option Addr) (c:Nat) (f:Value):
  Calls Tryz.prog 41 #[.slice q 0 c,f] w fun x w'=>x=.returned (.int .i64 (-1))/\w'=w:=by
 go_enter Tryz.func41,Tryz.ntmps41
 go_wp2_with fail
 refine wp_loop_once ?_
 go_wp2_with fail
 go_ret
 exact⟨rfl,rfl⟩
theorem zei {w:World} {q:Option Addr} {n:Nat} (c:Nat) {L:List En} (h:LibOk w q n L) (k0:Ky) (B:Nat) (hB:B<w.heap.size) (hk:w.rangeAt B 0 (kcells k0)):
  Calls Tryz.prog 41 #[.slice q n c,.func (.func 42) #[] #[.pointer (some ⟨B,0,none⟩)]] w fun x w'=>x=.returned (.int .i64 (ixI (L.map (·.k)) k0))/\Below w.heap.size w w':=by
 obtain⟨h1,h2,h3,h4⟩:=h
 rcases h4 with rfl | ⟨b,o,rfl,hlt,hc⟩
 ·obtain rfl:L=[]:=List.eq_nil_of_length_eq_zero h1
  refine(zc3 q c _).mono ?_
  rintro x w' ⟨rfl,rfl⟩
  exact⟨rfl,Below.refl _ _⟩
 ·exact zc2 b o n c L h1 h2 h3 hlt hc k0 B hB hk
set_option maxRecDepth 100000 in
theorem zd2 {w:World} {q:Option Addr} {n:Nat} (c:Nat) {L:List En} (h:LibOk w q n L) (k0:Ky):
  Calls Tryz.prog 26 #[.slice q n c,.agg #[.string k0.1,.int .i64 k0.2]] w fun x w'=>x=.returned (.int .i64 (ixI (L.map (·.k)) k0))/\Below w.heap.size w w':=by
 have hb0:Below w.heap.size w (w.alloc (.cells #[.string k0.1,.int .i64 k0.2] 24)):=zaa _ _
 have hr:=range_new w (kcells k0) 24
 have hcall:=zei c (h.below hb0) k0 w.heap.size (by simp) hr
 clear hr
 generalize ixI (L.map (·.k)) k0=r at*
 go_enter Tryz.func26,Tryz.ntmps26
 go_wp2_with (go_at_call 41;refine hcall.mono ?_;rintro x w5 ⟨rfl,hb5⟩)
 go_ret
 exact⟨rfl,hb0.trans (hb5.mono (by simp))⟩
def fndV (L:List Ky) (k:Ky):Value:=match ixK L k with | some i=>.tuple #[.int .i64 i,.bool true] | none=>.tuple #[.int .i64 0,.bool false]
set_option maxRecDepth 100000 in
set_option maxHeartbeats 2000000 in
theorem zej {w:World} (b o n c:Nat) (L:List En) (hL:L.length=n) (hn:n<=1048576) (hoks:∀e∈L,e.Ok) (hb:b<w.heap.size) (hx:∀i e,L[i]?=some e->w.rangeAt b (o+i*33) e.cells) (k0:Ky):
  Calls Tryz.prog 8 #[.slice (some ⟨b,o,none⟩) n c,.agg #[.string k0.1,.int .i64 k0.2]] w fun x w'=>x=.returned (fndV (L.map (·.k)) k0)/\Below w.heap.size w w':=by
 have hx':Hid (∀i e,L[i]?=some e->w.rangeAt b (o+i*33) e.cells):=hx
 have hoks':Hid (∀e∈L,e.Ok):=hoks
 obtain⟨dd,hu,hd⟩:=zbe
 have hHu:Hid (Tryz.prog.underlying 55=some dd):=hu
 clear hx hoks hu
 obtain⟨dk,hku,hkd⟩:=zd7
 have hHk:Hid (Tryz.prog.underlying 24=some dk):=hku
 have hkr:=range_new w (kcells k0) 24
 have hkr':Hid ((w.alloc (.cells #[.string k0.1,.int .i64 k0.2] 24)).rangeAt w.heap.size 0 (kcells k0)):=hkr
 clear hku hkr
 go_enter Tryz.func8,Tryz.ntmps8
 go_wp2_with fail
 have hb1:Below w.heap.size w (w.alloc (.cells #[.string k0.1,.int .i64 k0.2] 24)):=zaa _ _
 go_loopw [10] (fun i wr=>∃k:Nat,k<=n/\i=.int .i64 k/\(∀j a,j<k->(L.map (·.k))[j]?=some a->¬a=k0)/\Below w.heap.size w wr/\w.heap.size+1<=wr.heap.size/\wr.rangeAt w.heap.size 0 (kcells k0)) (fun i _=>n - (intOf i).toNat)
 case atStart=>exact⟨0,Nat.zero_le _,rfl,fun j a hj=>by omega,hb1,by simp,hkr'.out⟩
 case round=>
  obtain⟨k,hk,rfl,hlow,hbw,hsz,hkk⟩:=hrel
  have hlow':Hid (∀j a,j<k->(L.map (·.k))[j]?=some a->¬a=k0):=hlow
  have hkk':Hid (wr.rangeAt w.heap.size 0 (kcells k0)):=hkk
  clear hlow hkk hb1 hkr'
  by_cases hlt:k<n
  ·have hlt':(k:Int)<(n:Int):=by omega
   obtain⟨e,he⟩:∃e,L[k]?=some e:=⟨_,List.getElem?_eq_getElem (by omega)⟩
   have heL:=List.mem_of_getElem? he
   have hek:=hoks'.out e heL
   have hx:=rangeAt_below (hx'.out k e he) hbw hb
   have lx:=hek.len'
   have ox':Hid (e.cells.toArray.all (·.oneCell')=true):=hek.one'
   have hws:=hbw.size
   have hcall:=fun z=>key27_ok e hek z
   have hel:Hid ((L.map (·.k))[k]?=some e.k):=by show(L.map (·.k))[k]?=some e.k;rw[List.getElem?_map,he];rfl
   have hq:(e.k.1.toList==k0.1.toList&&e.k.2==k0.2)=decide (e.k=k0):=(ky_eq _ _).symm
   clear he heL hek
   generalize e.k=ek at*
   generalize e.cells=cx at*
   have D0:Hid ((wr.alloc (.cells cx.toArray 55)).rangeAt wr.heap.size 0 cx):=range_new _ _ _
   have B0:Hid ((wr.alloc (.cells cx.toArray 55)).rangeAt w.heap.size 0 (kcells k0)):=World.rangeAt_alloc hkk'.out _
   have hb2:Below w.heap.size w (wr.alloc (.cells cx.toArray 55)):=hbw.alloc hws _
   have hz2:(wr.alloc (.cells cx.toArray 55)).heap.size=wr.heap.size+1:=by simp
   generalize heq:decide (ek=k0)=eq at*
   have heq':Hid (decide (ek=k0)=eq):=heq
   clear heq
   go_wp2_with (first
    | (with_reducible refine wpList_load_mid (op:=⟨some 14,_,_,_,_,_⟩) ?_ 55 (.tmp 13) ?_ (b) (o+k*33) ?_ cx dd ?_ hHu.out hd ?_ ?_
       rotate_left 1
       ·with_reducible rfl
       ·kernel_rfl
       ·exact hx
       ·(rw[lx];exact zag)
       rotate_left 1
       ·rfl)
    | (with_reducible refine wpList_store_new ?_ 55 (.tmp 7) (.tmp 14) ?_ cx.toArray wr.heap.size rfl ?_ ?_ ?_ ?_ ox'.out ?_
       rotate_left 1
       ·with_reducible rfl
       ·rfl
       ·rfl
       ·simp[lx]
       ·(simp only[List.size_toArray,lx];exact zag)
       rotate_left 1
       ·rfl))
   try simp only[Act.put]
   refine wp_region_held_drew (S:=fun z=>z.rangeAt wr.heap.size 0 cx/\z.rangeAt w.heap.size 0 (kcells k0)) (by kernel_rfl) (by exact⟨D0.out,B0.out⟩) (fun hHeld=>?_)
   refine wpAnyH_take (i:=0) (oi:=?op0x1) (v:=.agg cx.toArray) ?ta0x1 ?tb0x1 ?tc0x1 ?td0x1 ?tq0x1 ?ty0x1 hHeld ?_
   case ta0x1=>rfl
   case tb0x1=>kernel_rfl
   case tc0x1=>kernel_rfl
   case td0x1=>kernel_rfl
   case tq0x1=>exact fun _ _ _ h=>h
   case ty0x1=>
    refine yieldsIf_load_mid ?tw0x1 55 (.tmp 7) ?to0x1 wr.heap.size 0 ?tx0x1 cx dd (fun z hz=>hz.1) hHu.out hd (by rw[lx];exact zag)
    case tw0x1=>kernel_rfl
    case to0x1=>rfl
    case tx0x1=>kernel_rfl
   simp only[Act.put,List.getElem_toArray,List.getElem_cons_zero,List.setIfInBounds_toArray,List.set_cons_zero,List.set_cons_succ]
   refine wpAnyH_take (i:=2) (oi:=?op2x2) (v:=.agg (kcells k0).toArray) ?ta2x2 ?tb2x2 ?tc2x2 ?td2x2 ?tq2x2 ?ty2x2 hHeld ?_
   case ta2x2=>rfl
   case tb2x2=>kernel_rfl
   case tc2x2=>kernel_rfl
   case td2x2=>kernel_rfl
   case tq2x2=>exact fun _ _ _ h=>h
   case ty2x2=>
    refine yieldsIf_load_mid ?tw2x2 24 (.tmp 3) ?to2x2 w.heap.size 0 ?tx2x2 (kcells k0) dk (fun z hz=>hz.2) hHk.out hkd zct
    case tw2x2=>kernel_rfl
    case to2x2=>rfl
    case tx2x2=>kernel_rfl
   simp only[Act.put,List.getElem_toArray,List.getElem_cons_succ,List.getElem_cons_zero,List.setIfInBounds_toArray,List.set_cons_zero,List.set_cons_succ]
   refine wpAnyH_ready (rs:=[1]) (by kernel_rfl) (by simp) ?_
   refine AllReadyH.cons rfl (fun K' hKK=>?_) AllReadyH.nil
   go_simp
   refine(hcall _).mono ?_
   rintro x w2 ⟨rfl,hb3⟩
   have hs3:=hb3.size
   have W2:Below w.heap.size w w2:=hb2.drew.trans (hb3.mono (by show w.heap.size<=(wr.alloc (.cells cx.toArray 55)).heap.size;omega))
   have B2:w2.rangeAt w.heap.size 0 (kcells k0):=rangeAt_below (w:=(wr.alloc (.cells cx.toArray 55)).drew) B0.out hb3 (by show w.heap.size<(wr.alloc (.cells cx.toArray 55)).heap.size;omega)
   have Z2:w.heap.size+1<=w2.heap.size:=Nat.le_trans (by show w.heap.size+1<=(wr.alloc (.cells cx.toArray 55)).heap.size;omega) hs3
   refine hKK.out _ _ ⟨rangeAt_below (w:=(wr.alloc (.cells cx.toArray 55)).drew) D0.out hb3 (by show wr.heap.size<(wr.alloc (.cells cx.toArray 55)).heap.size;omega),B2⟩ (fun hHeld2=>?_)
   clear hKK K'
   refine wpAnyH_take (i:=3) (oi:=?op3x3) (v:=.bool eq) ?ta3x3 ?tb3x3 ?tc3x3 ?td3x3 ?tq3x3 ?ty3x3 hHeld2 ?_
   case ta3x3=>rfl
   case tb3x3=>kernel_rfl
   case tc3x3=>kernel_rfl
   case td3x3=>kernel_rfl
   case tq3x3=>exact fun _ _ _ h=>h
   case ty3x3=>
    refine Or.inl ⟨by rfl,?_⟩
    intro z hSz
    have u3:=Tryz.underlying3
    have u9:=Tryz.underlying9
    simp only[kcells]
    go_simp
    rw[<-hq]
    by_cases h1:ek.1.toList=k0.1.toList<;>by_cases h2:ek.2=k0.2<;>simp[h1,h2]
   simp only[Act.put,List.getElem_toArray,List.getElem_cons_succ,List.getElem_cons_zero,List.setIfInBounds_toArray,List.set_cons_zero,List.set_cons_succ]
   refine wpAnyH_done (by kernel_rfl) ?_ _
   clear D0 B0 hb2 hz2 hb3 hs3 hcall hq
   have B2':Hid (w2.rangeAt w.heap.size 0 (kcells k0)):=B2
   clear B2
   cases eq with
   | true=>
    go_wp2_with fail
    go_ret2
    have hs:ixK (L.map (·.k)) k0=some k:=zcr (by rw[<-of_decide_eq_true heq'.out];exact hel.out) hlow'.out
    refine⟨?_,W2⟩
    unfold fndV
    rw[hs]
    rfl
   | false=>
    go_wp2_with fail
    go_roundw
    case rel=>
     refine⟨k+1,by omega,by go_num,fun j a hj ha=>?_,W2,Z2,B2'.out⟩
     rcases Nat.lt_or_ge j k with h | h
     ·exact hlow'.out j a h ha
     ·obtain rfl:j=k:=by omega
      rw[hel.out] at ha
      cases ha
      exact of_decide_eq_false heq'.out
    case measure=>simp[intOf];omega
  ·obtain rfl:k=n:=by omega
   go_wp2_with fail
   go_ret2
   have hs:ixK (L.map (·.k)) k0=none:=zcs fun j a ha=>hlow'.out j a (by
    have:=(List.getElem?_eq_some_iff.1 ha).1
    simp at this
    omega) ha
   refine⟨?_,hbw⟩
   unfold fndV
   rw[hs]
   rfl
set_option maxRecDepth 100000 in
theorem zek {w:World} (q:Option Addr) (c:Nat) (k0:Ky):
  Calls Tryz.prog 8 #[.slice q 0 c,.agg #[.string k0.1,.int .i64 k0.2]] w fun x w'=>x=.returned (.tuple #[.int .i64 0,.bool false])/\Below w.heap.size w w':=by
 go_enter Tryz.func8,Tryz.ntmps8
 go_wp2_with fail
 refine wp_loop_once ?_
 go_wp2_with fail
 go_ret2
 exact⟨rfl,zaa _ _⟩
theorem zd3 {w:World} {q:Option Addr} {n:Nat} (c:Nat) {L:List En} (h:LibOk w q n L) (k0:Ky):
  Calls Tryz.prog 8 #[.slice q n c,.agg #[.string k0.1,.int .i64 k0.2]] w fun x w'=>x=.returned (fndV (L.map (·.k)) k0)/\Below w.heap.size w w':=by
 obtain⟨h1,h2,h3,h4⟩:=h
 rcases h4 with rfl | ⟨b,o,rfl,hlt,hc⟩
 ·obtain rfl:L=[]:=List.eq_nil_of_length_eq_zero h1
  exact zek q c k0
 ·exact zej b o n c L h1 h2 h3 hlt hc k0
set_option maxRecDepth 100000 in
set_option maxHeartbeats 1000000 in
theorem zc4 {w:World} (b o n c:Nat) (L:List En) (hL:L.length=n) (hn:n<=1048576) (hoks:∀e∈L,e.Ok) (hb:b<w.heap.size) (hx:∀i e,L[i]?=some e->w.rangeAt b (o+i*33) e.cells) (nm:ByteArray):
  Calls Tryz.prog 9 #[.slice (some ⟨b,o,none⟩) n c,.string nm] w fun x w'=>x=.returned (.int .i64 (latK (L.map (·.k)) nm))/\Below w.heap.size w w':=by
 have hx':Hid (∀i e,L[i]?=some e->w.rangeAt b (o+i*33) e.cells):=hx
 have hoks':Hid (∀e∈L,e.Ok):=hoks
 obtain⟨dd,hu,hd⟩:=zbe
 have hHu:Hid (Tryz.prog.underlying 55=some dd):=hu
 clear hx hoks hu
 go_enter Tryz.func9,Tryz.ntmps9
 go_wp2_with fail
 go_loopw [5,10] (fun u i wr=>∃k:Nat,k<=n/\i=.int .i64 k/\u=.int .i64 (latK ((L.map (·.k)).take k) nm)/\Below w.heap.size w wr) (fun _ i _=>n - (intOf i).toNat)
 case atStart=>exact⟨0,Nat.zero_le _,rfl,rfl,Below.refl _ _⟩
 case round=>
  obtain⟨k,hk,rfl,rfl,hbw⟩:=hrel
  by_cases hlt:k<n
  ·have hlt':(k:Int)<(n:Int):=by omega
   obtain⟨e,he⟩:∃e,L[k]?=some e:=⟨_,List.getElem?_eq_getElem (by omega)⟩
   have heL:=List.mem_of_getElem? he
   have hek:=hoks'.out e heL
   have hx:=rangeAt_below (hx'.out k e he) hbw hb
   have lx:=hek.len'
   have ox':Hid (e.cells.toArray.all (·.oneCell')=true):=hek.one'
   have hws:=hbw.size
   have hls:latK ((L.map (·.k)).take (k+1)) nm=if e.k.1.toList=nm.toList then(if latK ((L.map (·.k)).take k) nm<e.k.2 then e.k.2 else latK ((L.map (·.k)).take k) nm) else latK ((L.map (·.k)).take k) nm:=by
    rw[List.take_add_one,List.getElem?_map,he]
    exact zde _ _ _
   have hls':=hid_of hls
   have h0:=e.c0
   have h1:=e.c1
   clear he heL hek hls
   generalize latK ((L.map (·.k)).take k) nm=m at*
   generalize e.cells=cx at*
   obtain⟨⟨en,ev⟩,er⟩:=e
   simp only at h0 h1 hls'
   have hr:=range_new wr cx 55
   have c0:(wr.alloc (.cells cx.toArray 55)).cell? ⟨wr.heap.size,0,none⟩=some (.string en):=hr 0 _ h0
   have c1:(wr.alloc (.cells cx.toArray 55)).cell? ⟨wr.heap.size,1,none⟩=some (.int .i64 ev):=hr 1 _ h1
   have hb2:Below w.heap.size w (wr.alloc (.cells cx.toArray 55)):=hbw.alloc hws _
   clear hr h0 h1
   by_cases hn1:en.toList=nm.toList
   ·have hbe:(en.toList==nm.toList)=true:=by simpa using hn1
    have hn1':Hid (en.toList=nm.toList):=hn1
    clear hn1
    by_cases hm:m<ev
    ·have hm':¬ev<m:=by omega
     have hm2:¬ev<=m:=by omega
     go_wp2_with (first
     | (with_reducible refine wpList_load_mid (op:=⟨some 13,_,_,_,_,_⟩) ?_ 55 (.tmp 12) ?_ (b) (o+k*33) ?_ cx dd ?_ hHu.out hd ?_ ?_
        rotate_left 1
        ·with_reducible rfl
        ·kernel_rfl
        ·exact hx
        ·(rw[lx];exact zag)
        rotate_left 1
        ·rfl)
     | (with_reducible refine wpList_store_new ?_ 55 (.tmp 7) (.tmp 13) ?_ cx.toArray wr.heap.size rfl ?_ ?_ ?_ ?_ ox'.out ?_
        rotate_left 1
        ·with_reducible rfl
        ·rfl
        ·rfl
        ·simp[lx]
        ·(simp only[List.size_toArray,lx];exact zag)
        rotate_left 1
        ·rfl))
     go_roundw
     case rel=>exact⟨k+1,by omega,by go_num,(by rw[hls'.out,if_pos hn1'.out,if_pos hm];try (congr 1;omega)),hb2⟩
     case measure=>simp[intOf];omega
    ·have hm':ev<=m:=by omega
     go_wp2_with (first
     | (with_reducible refine wpList_load_mid (op:=⟨some 13,_,_,_,_,_⟩) ?_ 55 (.tmp 12) ?_ (b) (o+k*33) ?_ cx dd ?_ hHu.out hd ?_ ?_
        rotate_left 1
        ·with_reducible rfl
        ·kernel_rfl
        ·exact hx
        ·(rw[lx];exact zag)
        rotate_left 1
        ·rfl)
     | (with_reducible refine wpList_store_new ?_ 55 (.tmp 7) (.tmp 13) ?_ cx.toArray wr.heap.size rfl ?_ ?_ ?_ ?_ ox'.out ?_
        rotate_left 1
        ·with_reducible rfl
        ·rfl
        ·rfl
        ·simp[lx]
        ·(simp only[List.size_toArray,lx];exact zag)
        rotate_left 1
        ·rfl))
     go_roundw
     case rel=>exact⟨k+1,by omega,by go_num,(by rw[hls'.out,if_pos hn1'.out,if_neg hm];try (congr 1;omega)),hb2⟩
     case measure=>simp[intOf];omega
   ·have hbe:(en.toList==nm.toList)=false:=by simpa using hn1
    have hn1':Hid (¬en.toList=nm.toList):=hn1
    clear hn1
    go_wp2_with (first
     | (with_reducible refine wpList_load_mid (op:=⟨some 13,_,_,_,_,_⟩) ?_ 55 (.tmp 12) ?_ (b) (o+k*33) ?_ cx dd ?_ hHu.out hd ?_ ?_
        rotate_left 1
        ·with_reducible rfl
        ·kernel_rfl
        ·exact hx
        ·(rw[lx];exact zag)
        rotate_left 1
        ·rfl)
     | (with_reducible refine wpList_store_new ?_ 55 (.tmp 7) (.tmp 13) ?_ cx.toArray wr.heap.size rfl ?_ ?_ ?_ ?_ ox'.out ?_
        rotate_left 1
        ·with_reducible rfl
        ·rfl
        ·rfl
        ·simp[lx]
        ·(simp only[List.size_toArray,lx];exact zag)
        rotate_left 1
        ·rfl))
    go_roundw
    case rel=>exact⟨k+1,by omega,by go_num,by rw[hls'.out,if_neg hn1'.out],hb2⟩
    case measure=>simp[intOf];omega
  ·obtain rfl:k=n:=by omega
   go_wp2_with fail
   go_ret
   exact⟨by rw[List.take_of_length_le (by simp;omega)];rfl,hbw⟩
set_option maxRecDepth 100000 in
theorem zc5 {w:World} (q:Option Addr) (c:Nat) (nm:ByteArray):
  Calls Tryz.prog 9 #[.slice q 0 c,.string nm] w fun x w'=>x=.returned (.int .i64 0)/\w'=w:=by
 go_enter Tryz.func9,Tryz.ntmps9
 go_wp2_with fail
 refine wp_loop_once ?_
 go_wp2_with fail
 go_ret
 exact⟨rfl,rfl⟩
theorem zel {w:World} {q:Option Addr} {n:Nat} (c:Nat) {L:List En} (h:LibOk w q n L) (nm:ByteArray):
  Calls Tryz.prog 9 #[.slice q n c,.string nm] w fun x w'=>x=.returned (.int .i64 (latK (L.map (·.k)) nm))/\Below w.heap.size w w':=by
 obtain⟨h1,h2,h3,h4⟩:=h
 rcases h4 with rfl | ⟨b,o,rfl,hlt,hc⟩
 ·obtain rfl:L=[]:=List.eq_nil_of_length_eq_zero h1
  refine(zc5 q c nm).mono ?_
  rintro x w' ⟨rfl,rfl⟩
  exact⟨rfl,Below.refl _ _⟩
 ·exact zc4 b o n c L h1 h2 h3 hlt hc nm
set_option maxRecDepth 100000 in
set_option maxHeartbeats 1000000 in
theorem zcl {w:World} (b o n c:Nat) (L:List En) (hL:L.length=n) (hn:n<=1048576) (hoks:∀e∈L,e.Ok) (hb:b<w.heap.size) (hx:∀i e,L[i]?=some e->w.rangeAt b (o+i*33) e.cells) (nm:ByteArray):
  Calls Tryz.prog 10 #[.slice (some ⟨b,o,none⟩) n c,.string nm] w fun x w'=>x=.returned (.int .i64 (latK (L.map (·.k)) nm))/\Below w.heap.size w w':=by
 have hx':Hid (∀i e,L[i]?=some e->w.rangeAt b (o+i*33) e.cells):=hx
 have hoks':Hid (∀e∈L,e.Ok):=hoks
 obtain⟨dd,hu,hd⟩:=zbe
 have hHu:Hid (Tryz.prog.underlying 55=some dd):=hu
 clear hx hoks hu
 go_enter Tryz.func10,Tryz.ntmps10
 go_wp2_with fail
 go_loopw [5,10] (fun u i wr=>∃k:Nat,k<=n/\i=.int .i64 k/\u=.int .i64 (latK ((L.map (·.k)).take k) nm)/\Below w.heap.size w wr) (fun _ i _=>n - (intOf i).toNat)
 case atStart=>exact⟨0,Nat.zero_le _,rfl,rfl,Below.refl _ _⟩
 case round=>
  obtain⟨k,hk,rfl,rfl,hbw⟩:=hrel
  by_cases hlt:k<n
  ·have hlt':(k:Int)<(n:Int):=by omega
   obtain⟨e,he⟩:∃e,L[k]?=some e:=⟨_,List.getElem?_eq_getElem (by omega)⟩
   have heL:=List.mem_of_getElem? he
   have hek:=hoks'.out e heL
   have hx:=rangeAt_below (hx'.out k e he) hbw hb
   have lx:=hek.len'
   have ox':Hid (e.cells.toArray.all (·.oneCell')=true):=hek.one'
   have hws:=hbw.size
   have hls:latK ((L.map (·.k)).take (k+1)) nm=if e.k.1.toList=nm.toList then(if latK ((L.map (·.k)).take k) nm<e.k.2 then e.k.2 else latK ((L.map (·.k)).take k) nm) else latK ((L.map (·.k)).take k) nm:=by
    rw[List.take_add_one,List.getElem?_map,he]
    exact zde _ _ _
   have hls':=hid_of hls
   have h0:=e.c0
   have h1:=e.c1
   clear he heL hek hls
   generalize latK ((L.map (·.k)).take k) nm=m at*
   generalize e.cells=cx at*
   obtain⟨⟨en,ev⟩,er⟩:=e
   simp only at h0 h1 hls'
   have hr:=range_new wr cx 55
   have c0:(wr.alloc (.cells cx.toArray 55)).cell? ⟨wr.heap.size,0,none⟩=some (.string en):=hr 0 _ h0
   have c1:(wr.alloc (.cells cx.toArray 55)).cell? ⟨wr.heap.size,1,none⟩=some (.int .i64 ev):=hr 1 _ h1
   have hb2:Below w.heap.size w (wr.alloc (.cells cx.toArray 55)):=hbw.alloc hws _
   clear hr h0 h1
   by_cases hn1:en.toList=nm.toList
   ·have hbe:(en.toList==nm.toList)=true:=by simpa using hn1
    have hn1':Hid (en.toList=nm.toList):=hn1
    clear hn1
    by_cases hm:m<ev
    ·have hm':¬ev<m:=by omega
     have hm2:¬ev<=m:=by omega
     go_wp2_with (first
     | (with_reducible refine wpList_load_mid (op:=⟨some 13,_,_,_,_,_⟩) ?_ 55 (.tmp 12) ?_ (b) (o+k*33) ?_ cx dd ?_ hHu.out hd ?_ ?_
        rotate_left 1
        ·with_reducible rfl
        ·kernel_rfl
        ·exact hx
        ·(rw[lx];exact zag)
        rotate_left 1
        ·rfl)
     | (with_reducible refine wpList_store_new ?_ 55 (.tmp 7) (.tmp 13) ?_ cx.toArray wr.heap.size rfl ?_ ?_ ?_ ?_ ox'.out ?_
        rotate_left 1
        ·with_reducible rfl
        ·rfl
        ·rfl
        ·simp[lx]
        ·(simp only[List.size_toArray,lx];exact zag)
        rotate_left 1
        ·rfl))
     go_roundw
     case rel=>exact⟨k+1,by omega,by go_num,(by rw[hls'.out,if_pos hn1'.out,if_pos hm];try (congr 1;omega)),hb2⟩
     case measure=>simp[intOf];omega
    ·have hm':ev<=m:=by omega
     go_wp2_with (first
     | (with_reducible refine wpList_load_mid (op:=⟨some 13,_,_,_,_,_⟩) ?_ 55 (.tmp 12) ?_ (b) (o+k*33) ?_ cx dd ?_ hHu.out hd ?_ ?_
        rotate_left 1
        ·with_reducible rfl
        ·kernel_rfl
        ·exact hx
        ·(rw[lx];exact zag)
        rotate_left 1
        ·rfl)
     | (with_reducible refine wpList_store_new ?_ 55 (.tmp 7) (.tmp 13) ?_ cx.toArray wr.heap.size rfl ?_ ?_ ?_ ?_ ox'.out ?_
        rotate_left 1
        ·with_reducible rfl
        ·rfl
        ·rfl
        ·simp[lx]
        ·(simp only[List.size_toArray,lx];exact zag)
        rotate_left 1
        ·rfl))
     go_roundw
     case rel=>exact⟨k+1,by omega,by go_num,(by rw[hls'.out,if_pos hn1'.out,if_neg hm];try (congr 1;omega)),hb2⟩
     case measure=>simp[intOf];omega
   ·have hbe:(en.toList==nm.toList)=false:=by simpa using hn1
    have hn1':Hid (¬en.toList=nm.toList):=hn1
    clear hn1
    go_wp2_with (first
     | (with_reducible refine wpList_load_mid (op:=⟨some 13,_,_,_,_,_⟩) ?_ 55 (.tmp 12) ?_ (b) (o+k*33) ?_ cx dd ?_ hHu.out hd ?_ ?_
        rotate_left 1
        ·with_reducible rfl
        ·kernel_rfl
        ·exact hx
        ·(rw[lx];exact zag)
        rotate_left 1
        ·rfl)
     | (with_reducible refine wpList_store_new ?_ 55 (.tmp 7) (.tmp 13) ?_ cx.toArray wr.heap.size rfl ?_ ?_ ?_ ?_ ox'.out ?_
        rotate_left 1
        ·with_reducible rfl
        ·rfl
        ·rfl
        ·simp[lx]
        ·(simp only[List.size_toArray,lx];exact zag)
        rotate_left 1
        ·rfl))
    go_roundw
    case rel=>exact⟨k+1,by omega,by go_num,by rw[hls'.out,if_neg hn1'.out],hb2⟩
    case measure=>simp[intOf];omega
  ·obtain rfl:k=n:=by omega
   go_wp2_with fail
   go_ret
   exact⟨by rw[List.take_of_length_le (by simp;omega)];rfl,hbw⟩
set_option maxRecDepth 100000 in
theorem zcm {w:World} (q:Option Addr) (c:Nat) (nm:ByteArray):
  Calls Tryz.prog 10 #[.slice q 0 c,.string nm] w fun x w'=>x=.returned (.int .i64 0)/\w'=w:=by
 go_enter Tryz.func10,Tryz.ntmps10
 go_wp2_with fail
 refine wp_loop_once ?_
 go_wp2_with fail
 go_ret
 exact⟨rfl,rfl⟩
theorem zdp {w:World} {q:Option Addr} {n:Nat} (c:Nat) {L:List En} (h:LibOk w q n L) (nm:ByteArray):
  Calls Tryz.prog 10 #[.slice q n c,.string nm] w fun x w'=>x=.returned (.int .i64 (latK (L.map (·.k)) nm))/\Below w.heap.size w w':=by
 obtain⟨h1,h2,h3,h4⟩:=h
 rcases h4 with rfl | ⟨b,o,rfl,hlt,hc⟩
 ·obtain rfl:L=[]:=List.eq_nil_of_length_eq_zero h1
  refine(zcm q c nm).mono ?_
  rintro x w' ⟨rfl,rfl⟩
  exact⟨rfl,Below.refl _ _⟩
 ·exact zcl b o n c L h1 h2 h3 hlt hc nm
end Go.Proofs.YtfhjhnofkaiceaaGreatDoor
