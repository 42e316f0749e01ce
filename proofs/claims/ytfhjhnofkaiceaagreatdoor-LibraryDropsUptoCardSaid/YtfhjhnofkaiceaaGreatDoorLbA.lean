import Derived.Test.YtfhjhnofkaiceaaGreatDoorDvS
import Derived.DeepKeys4
import Derived.Maps.OwnSet
import Derived.Maps.OwnIn
import Derived.Laws.StructEq
import Derived.Deep.RegionHeld3
namespace Go.Proofs.YtfhjhnofkaiceaaGreatDoor
open Go Go.RowKit Go.Maps
instance:LawfulBEq ByteArray where
 eq_of_beq {a b} h:=by
  rw[beq_toListBytes] at h
  exact zaz (by simpa using h)
 rfl {a}:=by rw[beq_toListBytes];simp
def KyOk (k:Ky):Prop:=k.1.size<=maxLen/\(Lit.int .i64 k.2).wf=true
end Go.Proofs.YtfhjhnofkaiceaaGreatDoor
namespace Go.Proofs.YtfhjhnofkaiceaaGreatDoor
open Go Go.RowKit
def ixK (L:List Ky) (k:Ky):Option Nat:=L.findIdx? fun a=>decide (a=k)
theorem zcr {L:List Ky} {k:Ky} {i:Nat} (h:L[i]?=some k) (hb:∀(j:Nat) (a:Ky),j<i->L[j]?=some a->¬a=k):ixK L k=some i:=by
 unfold ixK
 rw[List.findIdx?_eq_some_iff_getElem]
 obtain⟨hi,he⟩:=List.getElem?_eq_some_iff.1 h
 refine⟨hi,by simp[he],fun j hj=>?_⟩
 have:=hb j (L[j]'(by omega)) hj (List.getElem?_eq_getElem _)
 simpa using this
theorem zcs {L:List Ky} {k:Ky} (hb:∀(j:Nat) (a:Ky),L[j]?=some a->¬a=k):ixK L k=none:=by
 unfold ixK
 rw[List.findIdx?_eq_none_iff]
 intro x hx
 obtain⟨j,hj⟩:=List.getElem?_of_mem hx
 simpa using hb j x hj
theorem zft {L:List Ky} {k:Ky} {i:Nat} (h:ixK L k=some i):L[i]?=some k:=by
 unfold ixK at h
 obtain⟨hi,he,_⟩:=List.findIdx?_eq_some_iff_getElem.1 h
 rw[List.getElem?_eq_getElem hi]
 simpa using he
theorem zeu {L:List Ky} {k:Ky}:(ixK L k).isSome=decide (k∈L):=by
 cases h:ixK L k with
 | none=>
  unfold ixK at h
  rw[List.findIdx?_eq_none_iff] at h
  have:¬k∈L:=fun hk=>by simpa using h k hk
  simp[this]
 | some i=>
  have:=List.mem_of_getElem? (zft h)
  simp[this]
def ixI (L:List Ky) (k:Ky):Int:=match ixK L k with | some i=>i | none=>-1
def latK (L:List Ky) (n:ByteArray):Int:=L.foldl (fun m k=>if k.1.toList=n.toList then(if m<k.2 then k.2 else m) else m) 0
theorem zde (L:List Ky) (k:Ky) (n:ByteArray):latK (L++[k]) n=if k.1.toList=n.toList then(if latK L n<k.2 then k.2 else latK L n) else latK L n:=by
 unfold latK
 rw[List.foldl_append]
 rfl
end Go.Proofs.YtfhjhnofkaiceaaGreatDoor
namespace Go.Proofs.YtfhjhnofkaiceaaGreatDoor
open Go Go.RowKit
theorem zbe:∃d,Tryz.prog.underlying 55=some d/\d.isRow=true:=by
 have h:(Tryz.prog.underlying 55).map TypeDesc.isRow=some true:=by kernel_rfl
 cases hd:Tryz.prog.underlying 55 with
 | none=>rw[hd] at h;cases h
 | some d=>rw[hd] at h;exact⟨d,rfl,by simpa using h⟩
theorem zag:(Tryz.prog.info? 55).map (·.size)=some 33:=by kernel_rfl
theorem zd7:∃d,Tryz.prog.underlying 24=some d/\d.isRow=true:=by
 have h:(Tryz.prog.underlying 24).map TypeDesc.isRow=some true:=by kernel_rfl
 cases hd:Tryz.prog.underlying 24 with
 | none=>rw[hd] at h;cases h
 | some d=>rw[hd] at h;exact⟨d,rfl,by simpa using h⟩
theorem zct:(Tryz.prog.info? 24).map (·.size)=some 2:=by kernel_rfl
structure En where
 k:Ky
 r:List Value
def En.cells (e:En):List Value:=.string e.k.1::.int .i64 e.k.2::e.r
structure En.Ok (e:En):Prop where
 len:e.r.length=31
 one:∀u∈e.r,u.oneCell'=true
 key:KyOk e.k
theorem En.Ok.len' {e:En} (h:e.Ok):e.cells.length=33:=by simp[En.cells,h.len]
theorem En.Ok.one' {e:En} (h:e.Ok):e.cells.toArray.all (·.oneCell')=true:=by
 rw[List.all_toArray,List.all_eq_true]
 intro u hu
 rcases List.mem_cons.1 hu with rfl | hu
 ·rfl
 ·rcases List.mem_cons.1 hu with rfl | hu
  ·rfl
  ·exact h.one u hu
theorem En.c0 (e:En):e.cells[0]?=some (.string e.k.1):=rfl
theorem En.c1 (e:En):e.cells[1]?=some (.int .i64 e.k.2):=rfl
def LibOk (w:World) (q:Option Addr) (n:Nat) (L:List En):Prop:=
 L.length=n/\n<=1048576/\(∀e∈L,e.Ok)/\(n=0\/∃b o,q=some ⟨b,o,none⟩/\b<w.heap.size/\∀i e,L[i]?=some e->w.rangeAt b (o+i*33) e.cells)
theorem LibOk.below {w w':World} (hb:Below w.heap.size w w') {q:Option Addr} {n:Nat} {L:List En} (h:LibOk w q n L):LibOk w' q n L:=by
 refine⟨h.1,h.2.1,h.2.2.1,h.2.2.2.imp id ?_⟩
 rintro⟨b,o,e,hlt,hc⟩
 exact⟨b,o,e,Nat.lt_of_lt_of_le hlt hb.size,fun i k hk=>rangeAt_below (hc i k hk) hb hlt⟩
theorem ky_ne {a b:Ky} (h:¬a=b):(a.1.toList==b.1.toList)=false\/((a.1.toList==b.1.toList)=true/\¬a.2=b.2):=by
 by_cases h1:a.1.toList=b.1.toList
 ·exact .inr ⟨by simpa using h1,fun h2=>h (Prod.ext (zaz h1) h2)⟩
 ·exact .inl (by simpa using h1)
theorem ky_eq (a b:Ky):decide (a=b)=(a.1.toList==b.1.toList&&a.2==b.2):=by
 obtain⟨n,v⟩:=a
 obtain⟨n',v'⟩:=b
 by_cases h1:n.toList=n'.toList
 ·by_cases h2:v=v'
  ·simp[zaz h1,h2]
  ·simp[h2]
 ·have:¬n=n':=fun e=>h1 (by rw[e])
  simp[h1,this]
set_option maxRecDepth 100000 in
theorem key28_ok (e:En) (he:e.Ok) (w:World):Calls Tryz.prog 28 #[.agg e.cells.toArray] w fun x w'=>x=.returned (.agg #[.string e.k.1,.int .i64 e.k.2])/\Below w.heap.size w w':=by
 have h0:=e.c0
 have h1:=e.c1
 have hl:=he.len'
 obtain⟨⟨n,v⟩,r⟩:=e
 simp only at h0 h1 ⊢
 generalize En.cells _=cs at*
 have hr:=range_new w cs 55
 have c0:∀ob,((w.alloc (.cells cs.toArray 55)).alloc ob).cell? ⟨w.heap.size,0,none⟩=some (.string n):=fun ob=>by
  have:=World.rangeAt_alloc hr ob 0 _ h0
  simpa using this
 have c1:∀ob,((w.alloc (.cells cs.toArray 55)).alloc ob).cell? ⟨w.heap.size,1,none⟩=some (.int .i64 v):=fun ob=>by
  have:=World.rangeAt_alloc hr ob 1 _ h1
  simpa using this
 have hb:∀ob,Below w.heap.size w ((w.alloc (.cells cs.toArray 55)).alloc ob):=fun ob=>below_two w _ _
 clear hr
 go_enter Tryz.func28,Tryz.ntmps28
 go_wp2_with fail
 exact bodyPost_ret (v:=.agg #[.string n,.int .i64 v]) (by simp[results,Tryz.results28,go_sem]) rfl ⟨rfl,hb _⟩
set_option maxRecDepth 100000 in
theorem key27_ok (e:En) (he:e.Ok) (w:World):Calls Tryz.prog 27 #[.agg e.cells.toArray] w fun x w'=>x=.returned (.agg #[.string e.k.1,.int .i64 e.k.2])/\Below w.heap.size w w':=by
 have h0:=e.c0
 have h1:=e.c1
 have hl:=he.len'
 obtain⟨⟨n,v⟩,r⟩:=e
 simp only at h0 h1 ⊢
 generalize En.cells _=cs at*
 have hr:=range_new w cs 55
 have c0:∀ob,((w.alloc (.cells cs.toArray 55)).alloc ob).cell? ⟨w.heap.size,0,none⟩=some (.string n):=fun ob=>by
  have:=World.rangeAt_alloc hr ob 0 _ h0
  simpa using this
 have c1:∀ob,((w.alloc (.cells cs.toArray 55)).alloc ob).cell? ⟨w.heap.size,1,none⟩=some (.int .i64 v):=fun ob=>by
  have:=World.rangeAt_alloc hr ob 1 _ h1
  simpa using this
 have hb:∀ob,Below w.heap.size w ((w.alloc (.cells cs.toArray 55)).alloc ob):=fun ob=>below_two w _ _
 clear hr
 go_enter Tryz.func27,Tryz.ntmps27
 go_wp2_with fail
 exact bodyPost_ret (v:=.agg #[.string n,.int .i64 v]) (by simp[results,Tryz.results27,go_sem]) rfl ⟨rfl,hb _⟩
set_option maxRecDepth 100000 in
theorem idx1_ok {w:World} (e:En) (he:e.Ok) (k:Ky) (B:Nat) (hB:B<w.heap.size) (hk:w.rangeAt B 0 (kcells k)):
  Calls Tryz.prog 42 #[.agg e.cells.toArray,.pointer (some ⟨B,0,none⟩)] w fun x w'=>x=.returned (.bool (decide (e.k=k)))/\Below w.heap.size w w':=by
 have hcall:=fun z=>key28_ok e he z
 have hl:=he.len'
 obtain⟨dd,hu,hd⟩:=zbe
 have hHu:Hid (Tryz.prog.underlying 55=some dd):=hu
 obtain⟨dk,hku,hkd⟩:=zd7
 have hHk:Hid (Tryz.prog.underlying 24=some dk):=hku
 have hq:(e.k.1.toList==k.1.toList&&e.k.2==k.2)=decide (e.k=k):=(ky_eq _ _).symm
 clear hu hku he
 generalize decide (e.k=k)=eq at*
 generalize e.k=ek at*
 generalize e.cells=cs at*
 have hb0:Below w.heap.size w (w.alloc (.cells cs.toArray 55)):=zaa _ _
 have hz0:(w.alloc (.cells cs.toArray 55)).heap.size=w.heap.size+1:=by simp
 have D0:Hid ((w.alloc (.cells cs.toArray 55)).rangeAt w.heap.size 0 cs):=range_new w cs 55
 have B0:Hid ((w.alloc (.cells cs.toArray 55)).rangeAt B 0 (kcells k)):=World.rangeAt_alloc hk _
 clear hk
 go_enter Tryz.func42,Tryz.ntmps42
 go_wp2_with fail
 try simp only[Act.put]
 refine wp_region_held_drew (S:=fun z=>z.rangeAt w.heap.size 0 cs/\z.rangeAt B 0 (kcells k)) (by kernel_rfl) (by exact⟨D0.out,B0.out⟩) (fun hHeld=>?_)
 refine wpAnyH_take (i:=0) (oi:=?op0x1) (v:=.agg cs.toArray) ?ta0x1 ?tb0x1 ?tc0x1 ?td0x1 ?tq0x1 ?ty0x1 hHeld ?_
 case ta0x1=>rfl
 case tb0x1=>kernel_rfl
 case tc0x1=>kernel_rfl
 case td0x1=>kernel_rfl
 case tq0x1=>exact fun _ _ _ h=>h
 case ty0x1=>
  refine yieldsIf_load_mid ?tw0x1 55 (.tmp 2) ?to0x1 w.heap.size 0 ?tx0x1 cs dd (fun z hz=>hz.1) hHu.out hd (by rw[hl];exact zag)
  case tw0x1=>kernel_rfl
  case to0x1=>rfl
  case tx0x1=>kernel_rfl
 simp only[Act.put,List.getElem_toArray,List.getElem_cons_zero,List.setIfInBounds_toArray,List.set_cons_zero,List.set_cons_succ]
 refine wpAnyH_take (i:=2) (oi:=?op2x2) (v:=.agg (kcells k).toArray) ?ta2x2 ?tb2x2 ?tc2x2 ?td2x2 ?tq2x2 ?ty2x2 hHeld ?_
 case ta2x2=>rfl
 case tb2x2=>kernel_rfl
 case tc2x2=>kernel_rfl
 case td2x2=>kernel_rfl
 case tq2x2=>exact fun _ _ _ h=>h
 case ty2x2=>
  refine yieldsIf_load_mid ?tw2x2 24 (.tmp 1) ?to2x2 B 0 ?tx2x2 (kcells k) dk (fun z hz=>hz.2) hHk.out hkd zct
  case tw2x2=>kernel_rfl
  case to2x2=>rfl
  case tx2x2=>kernel_rfl
 simp only[Act.put,List.getElem_toArray,List.getElem_cons_succ,List.getElem_cons_zero,List.setIfInBounds_toArray,List.set_cons_zero,List.set_cons_succ]
 refine wpAnyH_ready (rs:=[1]) (by kernel_rfl) (by simp) ?_
 refine AllReadyH.cons rfl (fun K' hKK=>?_) AllReadyH.nil
 go_simp
 refine(hcall _).mono ?_
 rintro x w2 ⟨rfl,hb2⟩
 have hs2:=hb2.size
 have W2:Below w.heap.size w w2:=hb0.drew.trans (hb2.mono (by show w.heap.size<=(w.alloc (.cells cs.toArray 55)).heap.size;omega))
 have D2:w2.rangeAt w.heap.size 0 cs:=rangeAt_below (w:=(w.alloc (.cells cs.toArray 55)).drew) D0.out hb2 (by show w.heap.size<(w.alloc (.cells cs.toArray 55)).heap.size;omega)
 have B2:w2.rangeAt B 0 (kcells k):=rangeAt_below (w:=(w.alloc (.cells cs.toArray 55)).drew) B0.out hb2 (by show B<(w.alloc (.cells cs.toArray 55)).heap.size;omega)
 refine hKK.out _ _ ⟨D2,B2⟩ (fun hHeld2=>?_)
 clear hKK K'
 refine wpAnyH_take (i:=3) (oi:=?op3x3) (v:=.bool eq) ?ta3x3 ?tb3x3 ?tc3x3 ?td3x3 ?tq3x3 ?ty3x3 hHeld2 ?_
 case ta3x3=>rfl
 case tb3x3=>kernel_rfl
 case tc3x3=>kernel_rfl
 case td3x3=>kernel_rfl
 case tq3x3=>exact fun _ _ _ h=>h
 case ty3x3=>
  refine Or.inl ⟨by rfl,?_⟩
  intro z hSz
  have u3:=Tryz.underlying3
  have u9:=Tryz.underlying9
  simp only[kcells]
  go_simp
  rw[<-hq]
  by_cases h1:ek.1.toList=k.1.toList<;>by_cases h2:ek.2=k.2<;>simp[h1,h2]
 simp only[Act.put,List.getElem_toArray,List.getElem_cons_succ,List.getElem_cons_zero,List.setIfInBounds_toArray,List.set_cons_zero,List.set_cons_succ]
 refine wpAnyH_take (i:=4) (v:=.bool eq) rfl (by kernel_rfl) (by kernel_rfl) (by kernel_rfl) (fun _ _ _ h=>h) (.inl ⟨by rfl,fun z hSz=>by go_simp⟩) hHeld2 ?_
 simp only[Act.put,List.getElem_toArray,List.getElem_cons_succ,List.getElem_cons_zero,List.setIfInBounds_toArray,List.set_cons_zero,List.set_cons_succ]
 refine wpAnyH_done (by kernel_rfl) ?_ _
 go_wp2_with fail
 go_ret
 exact⟨rfl,W2⟩
end Go.Proofs.YtfhjhnofkaiceaaGreatDoor
