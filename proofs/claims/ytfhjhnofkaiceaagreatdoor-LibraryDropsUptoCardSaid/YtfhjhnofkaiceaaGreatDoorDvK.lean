import Derived.Test.YtfhjhnofkaiceaaGreatDoorDvJ
import Derived.Test.YtfhjhnofkaiceaaGreatDoorDvG
namespace Go.Proofs.YtfhjhnofkaiceaaGreatDoor
open Go Go.RowKit
theorem zb2 (d:Sd):∀u∈d.cells,u.oneCell'=true:=by
 intro u hu
 simp only[Sd.cells,List.mem_cons,List.not_mem_nil,or_false] at hu
 rcases hu with rfl | rfl | rfl | rfl | rfl | rfl | rfl | rfl | rfl | rfl | rfl | rfl | rfl | rfl | rfl | rfl | rfl | rfl | rfl | rfl | rfl<;>rfl
theorem zal {w:World} {g n:Nat} {cs:Array Value} {t:TypeId} (h:w.heap[g]?=some (.cells cs t (0,0))) (hn:cs.size=n):w.there g 0 n:=by
 subst hn
 refine fun j hj=>⟨?_,frozen_of_row _ _ _ _ _ h⟩
 rw[cell_of_row _ _ _ _ _ _ h,Nat.zero_add,Array.getElem?_eq_getElem hj]
 rfl
set_option maxRecDepth 100000 in
set_option maxHeartbeats 2000000 in
theorem own_walk {w:World} {d:Sd} (X0:St) (ds:Nat->Sd) (ki:Nat->St) (hn:d.kin<=1048576)
  (hF:∀z,Below w.heap.size w z->Calls Tryz.prog 121 #[.agg d.ce] z fun e w'=>∃D:Sd,e=.returned (.agg #[.int .i64 D.s.ru,.string D.s.nm,.string D.s.ot,.bool D.s.g,.slice D.aq D.an D.ac,.slice D.cq D.cn D.cc,.int .i64 D.s.kk,.int .i64 D.s.nn,.int .i64 D.s.pr,.int .i64 D.e.k,.int .i64 D.e.f,.bool D.e.neg,.slice D.e.aq D.e.an D.e.ac,.slice D.e.cq D.e.cn D.e.cc,.string D.e.m,.slice D.e.sq D.e.sn D.e.sc,.slice D.poq D.pon D.poc,.string D.s.en,.int .i64 D.s.ve,.slice D.arq D.arn D.arc,.slice none 0 0])/\StA w' (Fresh z w') X0 D/\Below z.heap.size z w')
  (hk:d.kin=0\/∃b o,d.kiq=some ⟨b,o,none⟩/\b<w.heap.size/\∀i,i<d.kin->w.rangeAt b (o+i*21) (ds i).cells)
  (hK:∀i,i<d.kin->∀z,Below w.heap.size w z->Calls Tryz.prog 88 #[.agg (ds i).cells.toArray] z fun e w'=>∃d':Sd,e=.returned (.agg d'.ce)/\StA w' (Fresh z w') (ki i) d'/\Below z.heap.size z w'):
  Calls Tryz.prog 88 #[.agg d.ce] w fun e w'=>∃(D:Sd) (q3:Option Addr) (c3:Nat),e=.returned (.agg #[.int .i64 D.s.ru,.string D.s.nm,.string D.s.ot,.bool D.s.g,.slice D.aq D.an D.ac,.slice D.cq D.cn D.cc,.int .i64 D.s.kk,.int .i64 D.s.nn,.int .i64 D.s.pr,.int .i64 D.e.k,.int .i64 D.e.f,.bool D.e.neg,.slice D.e.aq D.e.an D.e.ac,.slice D.e.cq D.e.cn D.e.cc,.string D.e.m,.slice D.e.sq D.e.sn D.e.sc,.slice D.poq D.pon D.poc,.string D.s.en,.int .i64 D.s.ve,.slice D.arq D.arn D.arc,.slice q3 d.kin c3])/\
   StA w' (Fresh w w') X0 D/\(d.kin=0\/∃b,q3=some ⟨b,0,none⟩/\Fresh w w' b/\∃es:Nat->Sd,∀i,i<d.kin->w'.rangeAt b (0+i*21) (es i).cells/\StA w' (Fresh w w') (ki i) (es i))/\Below w.heap.size w w':=by
 have hk':Hid (d.kin=0\/∃b o,d.kiq=some ⟨b,o,none⟩/\b<w.heap.size/\∀i,i<d.kin->w.rangeAt b (o+i*21) (ds i).cells):=hk
 clear hk
 obtain⟨dd,hu,hd⟩:=st_row
 have hHu:Hid (Tryz.prog.underlying 53=some dd):=hu
 clear hu
 have h2:∀o o2,Below w.heap.size w ((w.alloc o).alloc o2):=fun o o2=>below_two w o o2
 go_enter Tryz.func88,Tryz.ntmps88
 go_wp2_with (first
  | (with_reducible refine wpList_load_mid (op:=⟨some 6,_,_,_,_,_⟩) ?_ 53 (.tmp 1) ?_ w.heap.size 0 ?_ [.int .i64 d.s.ru,.string d.s.nm,.string d.s.ot,.bool d.s.g,.slice d.aq d.an d.ac,.slice d.cq d.cn d.cc,.int .i64 d.s.kk,.int .i64 d.s.nn,.int .i64 d.s.pr,.int .i64 d.e.k,.int .i64 d.e.f,.bool d.e.neg,.slice d.e.aq d.e.an d.e.ac,.slice d.e.cq d.e.cn d.e.cc,.string d.e.m,.slice d.e.sq d.e.sn d.e.sc,.slice d.poq d.pon d.poc,.string d.s.en,.int .i64 d.s.ve,.slice d.arq d.arn d.arc,.slice d.kiq d.kin d.kic] dd (World.rangeAt_alloc (range_new w _ 53) _) hHu.out hd ?_ ?_
     rotate_left 1
     ·with_reducible rfl
     ·rfl
     ·exact st_size
     rotate_left 1
     ·rfl)
  | (go_at_call 121;with_reducible refine(hF _ ?_).mono ?_;exact h2 _ _;rintro e w2 ⟨D,rfl,hA,hb2⟩
     have hs2:=hb2.size
     have hs2':w.heap.size+2<=w2.heap.size:=by simpa using hs2
     have k20:∀ob,(w2.alloc ob).cell? ⟨w.heap.size,20,none⟩=some (.slice d.kiq d.kin d.kic):=fun ob=>(World.cell?_alloc_lt _ _ _ (by show w.heap.size<_;omega)).trans ((hb2.cell (by show w.heap.size<_;simp;omega)).trans (by simp))
     have hres2:w2.heap[w.heap.size+1]?=some (.cells zw21 53 (0,0)):=by
      rw[hb2.block _ (by simp)]
      have h:=heap_alloc_last (w.alloc (.cells d.ce 53)) (.cells zw21 53 (0,0))
      rw[show (w.alloc (.cells d.ce 53)).heap.size=w.heap.size+1 by simp] at h
      exact h
     have hW2:=(h2 _ _).trans (hb2.mono (h2 _ _).size))
  | (with_reducible refine wpList_store_new ?_ 53 (.tmp 3) (.tmp 7) ?_ #[.int .i64 D.s.ru,.string D.s.nm,.string D.s.ot,.bool D.s.g,.slice D.aq D.an D.ac,.slice D.cq D.cn D.cc,.int .i64 D.s.kk,.int .i64 D.s.nn,.int .i64 D.s.pr,.int .i64 D.e.k,.int .i64 D.e.f,.bool D.e.neg,.slice D.e.aq D.e.an D.e.ac,.slice D.e.cq D.e.cn D.e.cc,.string D.e.m,.slice D.e.sq D.e.sn D.e.sc,.slice D.poq D.pon D.poc,.string D.s.en,.int .i64 D.s.ve,.slice D.arq D.arn D.arc,.slice none 0 0] w2.heap.size rfl ?_ ?_ ?_ ?_ ?_ ?_
     rotate_left 1
     ·with_reducible rfl
     ·rfl
     ·rfl
     ·rfl
     ·exact st_size
     ·exact all_oneCell_toArray (zb2 ⟨D.s,D.aq,D.an,D.ac,D.cq,D.cn,D.cc,D.e,D.poq,D.pon,D.poc,D.arq,D.arn,D.arc,none,0,0⟩)
     rotate_left 1
     ·rfl))
 have hN0:w.heap.size+2<=w2.heap.size:=hs2'
 obtain⟨i0,hi,hz0,hz1,hz2⟩:=info_parts (show(Tryz.prog.info? 53).map (fun i=>(i.zero,i.size,i.bytes))=some (some (.agg zw21),21,328) by kernel_rfl)
 generalize hwc:w2.alloc _=wc
 have hG2:w2.heap.size<wc.heap.size:=by rw[<-hwc];simp
 have hG3:wc.heap[w2.heap.size]?=some (.cells #[.int .i64 D.s.ru,.string D.s.nm,.string D.s.ot,.bool D.s.g,.slice D.aq D.an D.ac,.slice D.cq D.cn D.cc,.int .i64 D.s.kk,.int .i64 D.s.nn,.int .i64 D.s.pr,.int .i64 D.e.k,.int .i64 D.e.f,.bool D.e.neg,.slice D.e.aq D.e.an D.e.ac,.slice D.e.cq D.e.cn D.e.cc,.string D.e.m,.slice D.e.sq D.e.sn D.e.sc,.slice D.poq D.pon D.poc,.string D.s.en,.int .i64 D.s.ve,.slice D.arq D.arn D.arc,.slice none 0 0] 53 (0,0)):=by rw[<-hwc];exact heap_alloc_last _ _
 have hA0:StA wc (fun b=>w.heap.size+2<=b/\b<wc.heap.size/\b≠w2.heap.size) X0 D:=by
  rw[<-hwc]
  refine hA.keep ((zah (zaa w2 _)).mono fun b hb=>hb.2) (fun b hb=>?_)
  have e1:=hb.1
  have e2:=hb.2
  simp at e1
  exact⟨by omega,by show _<(w2.heap.push _).size;simp;omega,by omega⟩
 have hWc:Below w.heap.size w wc:=by rw[<-hwc];exact hW2.alloc (by omega) _
 have hresc:wc.heap[w.heap.size+1]?=some (.cells zw21 53 (0,0)):=by rw[<-hwc,Below.heap_alloc _ _ _ (by omega)];exact hres2
 clear hF hb2 hs2 k20 hres2 hW2 hwc hA
 generalize w2.heap.size=G at*
 go_loopw [11] (fun i wr=>∃k:Nat,k<=d.kin/\i=.int .i64 k/\∃(v:Value) (L:List Sd),L.length=k/\wr.heap[G]?=some (.cells #[.int .i64 D.s.ru,.string D.s.nm,.string D.s.ot,.bool D.s.g,.slice D.aq D.an D.ac,.slice D.cq D.cn D.cc,.int .i64 D.s.kk,.int .i64 D.s.nn,.int .i64 D.s.pr,.int .i64 D.e.k,.int .i64 D.e.f,.bool D.e.neg,.slice D.e.aq D.e.an D.e.ac,.slice D.e.cq D.e.cn D.e.cc,.string D.e.m,.slice D.e.sq D.e.sn D.e.sc,.slice D.poq D.pon D.poc,.string D.s.en,.int .i64 D.s.ve,.slice D.arq D.arn D.arc,v] 53 (0,0))/\
  wr.ownsRow (w.heap.size+2) 53 21 v k (L.flatMap Sd.cells)/\v.ownBlock≠some G/\(∀i x,L[i]?=some x->StA wr (Free (w.heap.size+2) wr G v) (ki i) x)/\StA wr (Free (w.heap.size+2) wr G v) X0 D/\
  Below w.heap.size w wr/\G<wr.heap.size/\wr.heap[w.heap.size+1]?=some (.cells zw21 53 (0,0))) (fun i _=>d.kin - (intOf i).toNat)
 case atStart=>
  exact⟨0,Nat.zero_le _,rfl,.slice none 0 0,[],rfl,hG3,World.ownsRow_nil _ _ _ _,by simp[Value.ownBlock],fun i x h=>by simp at h,hA0.keep (Keeps.refl _ _) (fun b hb=>⟨hb.1,hb.2.1,hb.2.2,by simp[Value.ownBlock]⟩),hWc,hG2,hresc⟩
 case round=>
  clear hA0 hG3 hWc hG2 hresc
  obtain⟨k,hk,rfl,v,L,hLk,hblk,hown,hne,hLx,hA0,hbw,hGr,hres⟩:=hrel
  by_cases hlt:k<d.kin
  ·have hlt':(k:Int)<(d.kin:Int):=by omega
   have hKk:=hK k hlt
   rcases hk'.out with h0 | ⟨b,o,hq,hbb,hcx⟩
   ·omega
   have hx:=rangeAt_below (hcx k hlt) hbw hbb
   have lx:(ds k).cells.length=21:=rfl
   have ox':Hid ((ds k).cells.toArray.all (·.oneCell')=true):=(ds k).one
   clear hcx
   generalize (ds k).cells=cx at*
   rw[hq]
   have hws:=hbw.size
   go_wp2_with (first
    | (with_reducible refine wpList_load_mid ?_ 53 (.tmp 13) ?_ b (o+k*21) ?_ cx dd hx hHu.out hd ?_ ?_
       rotate_left 1
       ·with_reducible rfl
       ·rfl
       ·(rw[lx];exact st_size)
       rotate_left 1
       ·rfl)
    | (with_reducible refine wpList_store_new ?_ 53 (.tmp 5) (.tmp 14) ?_ cx.toArray wr.heap.size rfl ?_ ?_ ?_ ?_ ox'.out ?_
       rotate_left 1
       ·with_reducible rfl
       ·rfl
       ·rfl
       ·simp[lx]
       ·(simp only[List.size_toArray,lx];exact st_size)
       rotate_left 1
       ·rfl))
   simp only[Act.put]
   have hT:(wr.alloc (.cells cx.toArray 53)).rangeAt wr.heap.size 0 cx:=range_new _ _ _
   have hz:Below wr.heap.size wr (wr.alloc (.cells cx.toArray 53)).drew:=(zaa _ _).drew
   have hzs:(wr.alloc (.cells cx.toArray 53)).drew.heap.size=wr.heap.size+1:=by show(wr.heap.push _).size=_;simp
   have hbz:Below w.heap.size w (wr.alloc (.cells cx.toArray 53)).drew:=hbw.trans (hz.mono hbw.size)
   have c6:(wr.alloc (.cells cx.toArray 53)).cell? ⟨G,20,none⟩=some v:=by rw[World.cell?_alloc_lt _ _ _ (by exact hGr),cell_of_row _ _ _ _ _ _ hblk];rfl
   have hrl:=hown.lt
   refine wp_region_held_drew (S:=fun z=>z.rangeAt wr.heap.size 0 cx) (by kernel_rfl) hT (fun hHeld=>?_)
   refine wpAnyH_take (i:=0) (v:=.pointer (some ⟨G,20,none⟩)) rfl (by kernel_rfl) (by kernel_rfl) (by kernel_rfl) (fun _ _ _ h=>h) (.inl ⟨by rfl,fun z hSz=>by go_simp⟩) hHeld ?_
   simp only[Act.put]
   refine wpAnyH_take (i:=2) (oi:=?op2) (v:=.agg cx.toArray) ?ta2 ?tb2 ?tc2 ?td2 ?tq2 ?ty2 hHeld ?_
   case ta2=>rfl
   case tb2=>kernel_rfl
   case tc2=>kernel_rfl
   case td2=>kernel_rfl
   case tq2=>exact fun _ _ _ h=>h
   case ty2=>
    refine yieldsIf_load_mid ?tw2 53 (.tmp 5) ?to2 wr.heap.size 0 ?tx2 cx dd (fun z hz=>hz) hHu.out hd (by rw[lx];exact st_size)
    case tw2=>kernel_rfl
    case to2=>rfl
    case tx2=>kernel_rfl
   simp only[Act.put]
   refine wpAnyH_ready (rs:=[1,3]) (by kernel_rfl) (by simp) ?_
   refine AllReadyH.cons rfl (fun K hKK=>?w5) (AllReadyH.cons rfl (fun K hKK=>?w6) AllReadyH.nil)
   case' w5=>
    go_simp
    refine hKK.out _ _ hHeld (fun _=>?_)
    clear hKK K
    refine wpAnyH_ready (rs:=[3]) (by kernel_rfl) (by simp) ?_
    refine AllReadyH.cons rfl (fun K hKK=>?_) AllReadyH.nil
    go_simp
    refine(hKk _ hbz).mono ?_
    rintro e w5 ⟨d',rfl,hA5,hb5⟩
    have hs5:=hb5.size
    have hT5:w5.rangeAt wr.heap.size 0 cx:=rangeAt_below (w:=(wr.alloc (.cells cx.toArray 53)).drew) hT hb5 (by omega)
    have c65:w5.cell? ⟨G,20,none⟩=some v:=(hb5.cell (by show G<_;omega)).trans c6
    have hown5:w5.ownsRow (w.heap.size+2) 53 21 v k (L.flatMap Sd.cells):=((hown.alloc _).drew).kept (row:=none) ⟨hb5.os,hb5.tape,hb5.output,hb5.size,fun b hb _=>hb5.block b hb⟩ (by cases hv:v.ownBlock with | none=>exact .inl rfl | some _=>exact .inr (by simp))
    refine hKK.out _ _ hT5 (fun _=>?_)
    clear hKK K
    refine wpAnyH_ready (rs:=[4]) (by kernel_rfl) (by simp) ?_
    refine AllReadyH.cons rfl (fun K hKK=>?_) AllReadyH.nil
    go_simp
    have hT6:(w5.alloc (.cells d'.cells.toArray 53)).rangeAt wr.heap.size 0 cx:=World.rangeAt_alloc hT5 _
    have c66:(w5.alloc (.cells d'.cells.toArray 53)).cell? ⟨G,20,none⟩=some v:=by rw[World.cell?_alloc_lt _ _ _ (by show G<_;omega)];exact c65
    have c66w:(w5.alloc (.cells d'.ce 53)).cell? ⟨G,20,none⟩=some v:=c66
   case' w6=>
    go_simp
    refine(hKk _ hbz).mono ?_
    rintro e w5 ⟨d',rfl,hA5,hb5⟩
    have hs5:=hb5.size
    have hT5:w5.rangeAt wr.heap.size 0 cx:=rangeAt_below (w:=(wr.alloc (.cells cx.toArray 53)).drew) hT hb5 (by omega)
    have c65:w5.cell? ⟨G,20,none⟩=some v:=(hb5.cell (by show G<_;omega)).trans c6
    have hown5:w5.ownsRow (w.heap.size+2) 53 21 v k (L.flatMap Sd.cells):=((hown.alloc _).drew).kept (row:=none) ⟨hb5.os,hb5.tape,hb5.output,hb5.size,fun b hb _=>hb5.block b hb⟩ (by cases hv:v.ownBlock with | none=>exact .inl rfl | some _=>exact .inr (by simp))
    refine hKK.out _ _ hT5 (fun _=>?_)
    clear hKK K
    refine wpAnyH_ready (rs:=[1,4]) (by kernel_rfl) (by simp) ?_
    refine AllReadyH.cons rfl (fun K hKK=>?w7) (AllReadyH.cons rfl (fun K hKK=>?w8) AllReadyH.nil)
    case' w7=>
     go_simp
     refine hKK.out _ _ hT5 (fun _=>?_)
     clear hKK K
     refine wpAnyH_ready (rs:=[4]) (by kernel_rfl) (by simp) ?_
     refine AllReadyH.cons rfl (fun K hKK=>?_) AllReadyH.nil
     go_simp
     have hT6:(w5.alloc (.cells d'.cells.toArray 53)).rangeAt wr.heap.size 0 cx:=World.rangeAt_alloc hT5 _
     have c66:(w5.alloc (.cells d'.cells.toArray 53)).cell? ⟨G,20,none⟩=some v:=by rw[World.cell?_alloc_lt _ _ _ (by show G<_;omega)];exact c65
     have c66w:(w5.alloc (.cells d'.ce 53)).cell? ⟨G,20,none⟩=some v:=c66
    case' w8=>
     go_simp
     have hT6:(w5.alloc (.cells d'.cells.toArray 53)).rangeAt wr.heap.size 0 cx:=World.rangeAt_alloc hT5 _
     have c66:(w5.alloc (.cells d'.cells.toArray 53)).cell? ⟨G,20,none⟩=some v:=by rw[World.cell?_alloc_lt _ _ _ (by show G<_;omega)];exact c65
     have c66w:(w5.alloc (.cells d'.ce 53)).cell? ⟨G,20,none⟩=some v:=c66
     refine hKK.out _ _ hT6 (fun _=>?_)
     clear hKK K
     refine wpAnyH_ready (rs:=[1]) (by kernel_rfl) (by simp) ?_
     refine AllReadyH.cons rfl (fun K hKK=>?_) AllReadyH.nil
     go_simp
   all_goals
    refine hKK.out _ _ hT6 (fun _=>?_)
    clear hKK K
    refine wpAnyH_ready (rs:=[5]) (by kernel_rfl) (by simp) ?_
    refine AllReadyH.cons rfl (fun K hKK=>?_) AllReadyH.nil
    refine step_append_lies _ rfl _ _ 51 rfl (w.heap.size+2) 53 i0 (.agg zw21) 21 328 Tryz.underlying51 hi hz0 hz1 hz2 rfl (by decide) v k (L.flatMap Sd.cells) rfl (hown5.alloc _) ⟨w5.heap.size,0,none⟩ 1 1 d'.cells rfl rfl (World.news_of_block (heap_alloc_last w5 (.cells d'.cells.toArray 53))) (zb2 d') (by decide) (by unfold maxLen;omega) (by omega) (by simp;omega) _ rfl ?_
    intro g cap w7 hown7 hgrow7 hat7 hlt7
    have hTne:some wr.heap.size≠v.ownBlock:=fun e=>by have:=(hrl _ e.symm).2;omega
    have hT7:w7.rangeAt wr.heap.size 0 cx:=fun j u hu=>hgrow7.cell (hT6 j u hu) hTne
    have c67:w7.cell? ⟨G,20,none⟩=some v:=hgrow7.cell c66 (fun e=>hne e.symm)
    obtain⟨m1,m2,m3,m4,m5,m6,m7,m8⟩:=zau (j:=20) (u:=.slice (some ⟨g,0,none⟩) (k+1) cap) hGr (by omega:w.heap.size+2<=wr.heap.size) hz hb5 hgrow7 hat7 hlt7 hrl hne rfl
    have f67:∀j,w7.frozen? ⟨G,j,none⟩=false:=fun j=>frozen_of_row _ _ _ _ _ (m5 _ _ _ hblk)
    refine hKK.out _ _ hT7 (fun hHeld7=>?_)
    clear hKK K
    refine wpAnyH_take (i:=6) (v:=.pointer (some ⟨G,20,none⟩)) rfl (by kernel_rfl) (by kernel_rfl) (by kernel_rfl) (fun _ _ _ h=>h) (.inl ⟨by rfl,fun z hSz=>by go_simp⟩) hHeld7 ?_
    simp only[Act.put]
    refine wpAnyH_ready (rs:=[7]) (by kernel_rfl) (by simp) ?_
    refine AllReadyH.cons rfl (fun K hKK=>?_) AllReadyH.nil
    go_simp
    refine hKK.out _ _ (fun j u hu=>(World.cell?_setCell_far _ _ _ _ (by show G≠wr.heap.size;omega)).trans (hT7 j u hu)) (fun _=>?_)
    clear hKK K
    refine wpAnyH_done (by kernel_rfl) ?_ _
    go_wp2_with fail
    go_roundw
    case rel=>
     refine⟨k+1,by omega,by go_num,.slice (some ⟨g,0,none⟩) (k+1) cap,L++[d'],by simp[hLk],zab (m5 _ _ _ hblk),?_,m6,?_,hA0.keep m1 m2,?_,by omega,?_⟩
     ·rw[List.flatMap_append,List.flatMap_singleton]
      exact zak hown7 m6
     ·intro i x hi
      by_cases hik:i<k
      ·rw[List.getElem?_append_left (by omega)] at hi
       exact(hLx i x hi).keep m1 m2
      ·rw[List.getElem?_append_right (by omega)] at hi
       have hi0:i - L.length=0:=by
        rcases Nat.eq_zero_or_pos (i - L.length) with h | h
        ·exact h
        ·rw[List.getElem?_eq_none (by simp;omega)] at hi
         cases hi
       rw[hi0] at hi
       simp only[List.getElem?_cons_zero,Option.some.injEq] at hi
       subst hi
       have:i=k:=by omega
       subst this
       exact hA5.keep m3 m4
     ·refine Below.setCell ?_ (by show w.heap.size<=G;omega) _
      exact((hbz.trans (hb5.mono hbz.size)).alloc (by omega) _).grown hgrow7 (by simp;omega) (fun b hb=>by have:=(hrl b hb).1;omega)
     ·rw[m8 (w.heap.size+1) (by omega) (by omega) (fun e=>by have:=(hrl _ e).1;omega)]
      exact hres
    case measure=>simp[intOf];omega
  ·have hk2:d.kin=k:=by omega
   have hr3:wr.rangeAt G 0 [.int .i64 D.s.ru,.string D.s.nm,.string D.s.ot,.bool D.s.g,.slice D.aq D.an D.ac,.slice D.cq D.cn D.cc,.int .i64 D.s.kk,.int .i64 D.s.nn,.int .i64 D.s.pr,.int .i64 D.e.k,.int .i64 D.e.f,.bool D.e.neg,.slice D.e.aq D.e.an D.e.ac,.slice D.e.cq D.e.cn D.e.cc,.string D.e.m,.slice D.e.sq D.e.sn D.e.sc,.slice D.poq D.pon D.poc,.string D.s.en,.int .i64 D.s.ve,.slice D.arq D.arn D.arc,v]:=by
    have h:=World.rangeAt_of_block hblk 0 21
    simpa using h
   have hr2:wr.there (w.heap.size+1) 0 21:=zal hres rfl
   have hws:=hbw.size
   have hvf:∃q c,v=.slice q k c:=by
    rcases hown.2 with⟨h,h0⟩ | ⟨g,cp,cur,h,_⟩
    ·exact⟨none,0,by rw[h,h0]⟩
    ·exact⟨_,_,h⟩
   obtain⟨q3,c3,rfl⟩:=hvf
   have hr2':Hid (wr.there (w.heap.size+1) 0 21):=hr2
   have hr3':Hid (wr.rangeAt G 0 [.int .i64 D.s.ru,.string D.s.nm,.string D.s.ot,.bool D.s.g,.slice D.aq D.an D.ac,.slice D.cq D.cn D.cc,.int .i64 D.s.kk,.int .i64 D.s.nn,.int .i64 D.s.pr,.int .i64 D.e.k,.int .i64 D.e.f,.bool D.e.neg,.slice D.e.aq D.e.an D.e.ac,.slice D.e.cq D.e.cn D.e.cc,.string D.e.m,.slice D.e.sq D.e.sn D.e.sc,.slice D.poq D.pon D.poc,.string D.s.en,.int .i64 D.s.ve,.slice D.arq D.arn D.arc,.slice q3 k c3]):=hr3
   clear hr2 hr3
   go_wp2_with (first
    | (with_reducible refine wpList_load_mid ?_ 53 (.tmp 3) ?_ G 0 ?_ [.int .i64 D.s.ru,.string D.s.nm,.string D.s.ot,.bool D.s.g,.slice D.aq D.an D.ac,.slice D.cq D.cn D.cc,.int .i64 D.s.kk,.int .i64 D.s.nn,.int .i64 D.s.pr,.int .i64 D.e.k,.int .i64 D.e.f,.bool D.e.neg,.slice D.e.aq D.e.an D.e.ac,.slice D.e.cq D.e.cn D.e.cc,.string D.e.m,.slice D.e.sq D.e.sn D.e.sc,.slice D.poq D.pon D.poc,.string D.s.en,.int .i64 D.s.ve,.slice D.arq D.arn D.arc,.slice q3 k c3] dd hr3'.out hHu.out hd ?_ ?_
       rotate_left 1
       ·with_reducible rfl
       ·rfl
       ·exact st_size
       rotate_left 1
       ·rfl)
    | (with_reducible refine wpList_store_mid ?_ 53 (.tmp 2) (.tmp 23) ?_ (w.heap.size+1) 0 #[.int .i64 D.s.ru,.string D.s.nm,.string D.s.ot,.bool D.s.g,.slice D.aq D.an D.ac,.slice D.cq D.cn D.cc,.int .i64 D.s.kk,.int .i64 D.s.nn,.int .i64 D.s.pr,.int .i64 D.e.k,.int .i64 D.e.f,.bool D.e.neg,.slice D.e.aq D.e.an D.e.ac,.slice D.e.cq D.e.cn D.e.cc,.string D.e.m,.slice D.e.sq D.e.sn D.e.sc,.slice D.poq D.pon D.poc,.string D.s.en,.int .i64 D.s.ve,.slice D.arq D.arn D.arc,.slice q3 k c3] ?_ ?_ ?_ ?_ ?_ ?_
       rotate_left 1
       ·with_reducible rfl
       ·rfl
       ·rfl
       ·exact hr2'.out
       ·exact st_size
       ·exact all_oneCell_toArray (zb2 ⟨D.s,D.aq,D.an,D.ac,D.cq,D.cn,D.cc,D.e,D.poq,D.pon,D.poc,D.arq,D.arn,D.arc,q3,k,c3⟩)
       rotate_left 1
       ·rfl))
   obtain⟨hW8,hs8,hb8⟩:=zae w.heap.size (w.heap.size+1) (by omega) [.int .i64 D.s.ru,.string D.s.nm,.string D.s.ot,.bool D.s.g,.slice D.aq D.an D.ac,.slice D.cq D.cn D.cc,.int .i64 D.s.kk,.int .i64 D.s.nn,.int .i64 D.s.pr,.int .i64 D.e.k,.int .i64 D.e.f,.bool D.e.neg,.slice D.e.aq D.e.an D.e.ac,.slice D.e.cq D.e.cn D.e.cc,.string D.e.m,.slice D.e.sq D.e.sn D.e.sc,.slice D.poq D.pon D.poc,.string D.s.en,.int .i64 D.s.ve,.slice D.arq D.arn D.arc,.slice q3 k c3] 0 w wr hbw
   have hr8:=World.rangeAt_setCells_same wr (w.heap.size+1) 0 [.int .i64 D.s.ru,.string D.s.nm,.string D.s.ot,.bool D.s.g,.slice D.aq D.an D.ac,.slice D.cq D.cn D.cc,.int .i64 D.s.kk,.int .i64 D.s.nn,.int .i64 D.s.pr,.int .i64 D.e.k,.int .i64 D.e.f,.bool D.e.neg,.slice D.e.aq D.e.an D.e.ac,.slice D.e.cq D.e.cn D.e.cc,.string D.e.m,.slice D.e.sq D.e.sn D.e.sc,.slice D.poq D.pon D.poc,.string D.s.en,.int .i64 D.s.ve,.slice D.arq D.arn D.arc,.slice q3 k c3] hr2'.out
   change bodyPost _ _ _ _ _ (wr.setCells (w.heap.size+1) 0 [.int .i64 D.s.ru,.string D.s.nm,.string D.s.ot,.bool D.s.g,.slice D.aq D.an D.ac,.slice D.cq D.cn D.cc,.int .i64 D.s.kk,.int .i64 D.s.nn,.int .i64 D.s.pr,.int .i64 D.e.k,.int .i64 D.e.f,.bool D.e.neg,.slice D.e.aq D.e.an D.e.ac,.slice D.e.cq D.e.cn D.e.cc,.string D.e.m,.slice D.e.sq D.e.sn D.e.sc,.slice D.poq D.pon D.poc,.string D.s.en,.int .i64 D.s.ve,.slice D.arq D.arn D.arc,.slice q3 k c3])
   generalize wr.setCells (w.heap.size+1) 0 [.int .i64 D.s.ru,.string D.s.nm,.string D.s.ot,.bool D.s.g,.slice D.aq D.an D.ac,.slice D.cq D.cn D.cc,.int .i64 D.s.kk,.int .i64 D.s.nn,.int .i64 D.s.pr,.int .i64 D.e.k,.int .i64 D.e.f,.bool D.e.neg,.slice D.e.aq D.e.an D.e.ac,.slice D.e.cq D.e.cn D.e.cc,.string D.e.m,.slice D.e.sq D.e.sn D.e.sc,.slice D.poq D.pon D.poc,.string D.s.en,.int .i64 D.s.ve,.slice D.arq D.arn D.arc,.slice q3 k c3]=w8 at*
   have hk8:Keeps (Free (w.heap.size+2) wr G (.slice q3 k c3)) wr w8:=fun b hb=>hb8 b (by have:=hb.1;omega)
   have ha8:∀b,Free (w.heap.size+2) wr G (.slice q3 k c3) b->Fresh w w8 b:=fun b hb=>⟨by have:=hb.1;omega,by have:=hb.2.1;omega⟩
   refine bodyPost_ret (zac rfl _ _ (w.heap.size+1) _ dd rfl hr8 hHu.out hd st_size) rfl ?_
   refine⟨D,q3,c3,by rw[hk2],hA0.keep hk8 ha8,?_,hW8⟩
   by_cases h0:k=0
   ·exact .inl (by omega)
   ·refine .inr ?_
    obtain⟨g,cp,hg,hge,hgl⟩:=hown.form (by omega)
    simp only[Value.slice.injEq] at hg
    obtain⟨rfl,_,rfl⟩:=hg
    refine⟨g,rfl,⟨by omega,by omega⟩,fun i=>L.getD i default,fun i hi=>?_⟩
    have hiL:i<L.length:=by omega
    have hgi:L[i]?=some (L.getD i default):=by simp[List.getD,hiL]
    refine⟨fun j u hu=>?_,(hLx i _ hgi).keep hk8 ha8⟩
    have hc:=zam (s:=21) (f:=Sd.cells) (fun _=>rfl) hown hgi j u hu
    rw[<-hc]
    exact World.cell?_of_block (hb8 g (by omega))
def Va.cells (d:Va):List Value:=[.string d.m,.bool d.g,.slice d.aq d.an d.ac,.slice d.cq d.cn d.cc]
def Bi.cells (d:Bi):List Value:=[.string d.m,.int .i64 d.ek,.int .i64 d.ef,.bool d.eg,.slice d.eaq d.ean d.eac,.slice d.ecq d.ecn d.ecc,.string d.em,.slice d.esq d.esn d.esc]
theorem one_va (d:Va):∀u∈d.cells,u.oneCell'=true:=by
 intro u hu
 simp only[Va.cells,List.mem_cons,List.not_mem_nil,or_false] at hu
 rcases hu with rfl | rfl | rfl | rfl<;>rfl
theorem one_bi (d:Bi):∀u∈d.cells,u.oneCell'=true:=by
 intro u hu
 simp only[Bi.cells,List.mem_cons,List.not_mem_nil,or_false] at hu
 rcases hu with rfl | rfl | rfl | rfl | rfl | rfl | rfl | rfl<;>rfl
theorem va_row:∃d,Tryz.prog.underlying 158=some d/\d.isRow=true:=⟨_,Tryz.underlying158,rfl⟩
theorem bi_row:∃d,Tryz.prog.underlying 160=some d/\d.isRow=true:=⟨_,Tryz.underlying160,rfl⟩
theorem ze5:(Tryz.prog.info? 158).map (·.size)=some 4:=by kernel_rfl
theorem ze6:(Tryz.prog.info? 160).map (·.size)=some 8:=by kernel_rfl
set_option maxRecDepth 100000 in
set_option maxHeartbeats 4000000 in
theorem zdk {w:World} {d:Sd} {nu de:List Int} {ex:Ex} (ps:Nat->Pt) (bs:Nat->Bd) (xs:Nat->Va) (ys:Nat->Bi) (hn:d.pon<=1048576) (hn2:d.arn<=1048576)
  (hR:∀z,Below w.heap.size w z->Calls Tryz.prog 157 #[.agg #[.bool d.s.g,.slice d.aq d.an d.ac,.slice d.cq d.cn d.cc]] z fun e w'=>∃q1 c1 q2 c2,e=.returned (.agg #[.bool d.s.g,.slice q1 d.an c1,.slice q2 d.cn c2])/\SlA w' (Fresh z w') (.slice q1 d.an c1) nu/\SlA w' (Fresh z w') (.slice q2 d.cn c2) de/\Below z.heap.size z w')
  (hE:∀z,Below w.heap.size w z->Calls Tryz.prog 158 #[.agg #[.int .i64 d.e.k,.int .i64 d.e.f,.bool d.e.neg,.slice d.e.aq d.e.an d.e.ac,.slice d.e.cq d.e.cn d.e.cc,.string d.e.m,.slice d.e.sq d.e.sn d.e.sc]] z fun e w'=>∃e':Nd,e=.returned (.agg #[.int .i64 e'.k,.int .i64 e'.f,.bool e'.neg,.slice e'.aq e'.an e'.ac,.slice e'.cq e'.cn e'.cc,.string e'.m,.slice e'.sq e'.sn e'.sc])/\ExA w' (Fresh z w') ex e'/\Below z.heap.size z w')
  (hp0:d.pon=0\/∃b o,d.poq=some ⟨b,o,none⟩/\b<w.heap.size/\∀i,i<d.pon->w.rangeAt b (o+i*4) (xs i).cells)
  (hPeq:∀i,i<d.pon->(xs i).m=(ps i).m/\(xs i).g=(ps i).g/\(ps i).nu.length<=1048576/\(ps i).de.length<=1048576)
  (hPt:∀i,i<d.pon->∀z,Below w.heap.size w z->Calls Tryz.prog 157 #[.agg #[.bool (xs i).g,.slice (xs i).aq (xs i).an (xs i).ac,.slice (xs i).cq (xs i).cn (xs i).cc]] z fun e w'=>∃r1 s1 r2 s2,e=.returned (.agg #[.bool (xs i).g,.slice r1 (xs i).an s1,.slice r2 (xs i).cn s2])/\SlA w' (Fresh z w') (.slice r1 (xs i).an s1) (ps i).nu/\SlA w' (Fresh z w') (.slice r2 (xs i).cn s2) (ps i).de/\Below z.heap.size z w')
  (hb0:d.arn=0\/∃b o,d.arq=some ⟨b,o,none⟩/\b<w.heap.size/\∀i,i<d.arn->w.rangeAt b (o+i*8) (ys i).cells)
  (hBeq:∀i,i<d.arn->(ys i).m=(bs i).m)
  (hBd:∀i,i<d.arn->∀z,Below w.heap.size w z->Calls Tryz.prog 158 #[.agg #[.int .i64 (ys i).ek,.int .i64 (ys i).ef,.bool (ys i).eg,.slice (ys i).eaq (ys i).ean (ys i).eac,.slice (ys i).ecq (ys i).ecn (ys i).ecc,.string (ys i).em,.slice (ys i).esq (ys i).esn (ys i).esc]] z fun e w'=>∃f':Nd,e=.returned (.agg #[.int .i64 f'.k,.int .i64 f'.f,.bool f'.neg,.slice f'.aq f'.an f'.ac,.slice f'.cq f'.cn f'.cc,.string f'.m,.slice f'.sq f'.sn f'.sc])/\ExA w' (Fresh z w') (bs i).x f'/\Below z.heap.size z w'):
  Calls Tryz.prog 121 #[.agg d.ce] w fun e w'=>∃(q1:Option Addr) (c1:Nat) (q2:Option Addr) (c2:Nat) (e':Nd) (q3:Option Addr) (c3:Nat) (q4:Option Addr) (c4:Nat),e=.returned (.agg #[.int .i64 d.s.ru,.string d.s.nm,.string d.s.ot,.bool d.s.g,.slice q1 d.an c1,.slice q2 d.cn c2,.int .i64 d.s.kk,.int .i64 d.s.nn,.int .i64 d.s.pr,.int .i64 e'.k,.int .i64 e'.f,.bool e'.neg,.slice e'.aq e'.an e'.ac,.slice e'.cq e'.cn e'.cc,.string e'.m,.slice e'.sq e'.sn e'.sc,.slice q3 d.pon c3,.string d.s.en,.int .i64 d.s.ve,.slice q4 d.arn c4,.slice none 0 0])/\SlA w' (Fresh w w') (.slice q1 d.an c1) nu/\SlA w' (Fresh w w') (.slice q2 d.cn c2) de/\ExA w' (Fresh w w') ex e'/\PtsA w' (Fresh w w') q3 d.pon ps/\BdsA w' (Fresh w w') q4 d.arn bs/\Below w.heap.size w w':=by
 have hp:Hid (d.pon=0\/∃b o,d.poq=some ⟨b,o,none⟩/\b<w.heap.size/\∀i,i<d.pon->w.rangeAt b (o+i*4) (xs i).cells):=hp0
 have hb:Hid (d.arn=0\/∃b o,d.arq=some ⟨b,o,none⟩/\b<w.heap.size/\∀i,i<d.arn->w.rangeAt b (o+i*8) (ys i).cells):=hb0
 clear hp0 hb0
 obtain⟨dd,hu,hd⟩:=st_row
 have hHu:Hid (Tryz.prog.underlying 53=some dd):=hu
 clear hu
 go_enter Tryz.func121,Tryz.ntmps121
 go_wp2_with (first
  | (with_reducible refine wpList_load_mid ?_ 53 (.tmp 1) ?_ w.heap.size 0 ?_ [.int .i64 d.s.ru,.string d.s.nm,.string d.s.ot,.bool d.s.g,.slice d.aq d.an d.ac,.slice d.cq d.cn d.cc,.int .i64 d.s.kk,.int .i64 d.s.nn,.int .i64 d.s.pr,.int .i64 d.e.k,.int .i64 d.e.f,.bool d.e.neg,.slice d.e.aq d.e.an d.e.ac,.slice d.e.cq d.e.cn d.e.cc,.string d.e.m,.slice d.e.sq d.e.sn d.e.sc,.slice d.poq d.pon d.poc,.string d.s.en,.int .i64 d.s.ve,.slice d.arq d.arn d.arc,.slice d.kiq d.kin d.kic] dd (World.rangeAt_alloc (range_new w _ 53) _) hHu.out hd ?_ ?_
     rotate_left 1
     ·with_reducible rfl
     ·rfl
     ·exact st_size
     rotate_left 1
     ·rfl)
  | (with_reducible refine wpList_store_new ?_ 53 (.tmp 3) (.tmp 8) ?_ d.ce (w.heap.size+2) ?_ ?_ ?_ ?_ ?_ ?_ ?_
     rotate_left 1
     ·with_reducible rfl
     ·simp
     ·rfl
     ·rfl
     ·rfl
     ·exact st_size
     ·exact all_oneCell_toArray (zb2 d)
     rotate_left 1
     ·rfl))
 simp only[Act.put]
 generalize hw1:((w.alloc _).alloc _).alloc _=w1
 have hz1:w1.heap.size=w.heap.size+3:=by rw[<-hw1];simp
 have hbox1:w1.heap[w.heap.size]?=some (.cells d.ce 53 (0,0)):=by
  rw[<-hw1,Below.heap_alloc _ _ _ (by simp;omega),Below.heap_alloc _ _ _ (by simp)]
  exact heap_alloc_last w _
 have hres1:w1.heap[w.heap.size+1]?=some (.cells zw21 53 (0,0)):=by
  rw[<-hw1,Below.heap_alloc _ _ _ (by simp)]
  have h:=heap_alloc_last (w.alloc (.cells d.ce 53)) (.cells zw21 53 (0,0))
  rw[show (w.alloc (.cells d.ce 53)).heap.size=w.heap.size+1 by simp] at h
  exact h
 have hblk1:w1.heap[w.heap.size+2]?=some (.cells d.ce 53 (0,0)):=by
  rw[<-hw1]
  have h:=heap_alloc_last ((w.alloc (.cells d.ce 53)).alloc (.cells zw21 53 (0,0))) (.cells d.ce 53 (0,0))
  rw[show ((w.alloc (.cells d.ce 53)).alloc (.cells zw21 53 (0,0))).heap.size=w.heap.size+2 by simp] at h
  exact h
 have hW1:Below w.heap.size w w1:=by rw[<-hw1];exact(below_two w _ _).alloc (by simp;omega) _
 clear hw1
 have hS1:(fun z=>Below w.heap.size w z/\w.heap.size+3<=z.heap.size/\z.heap[w.heap.size]?=some (.cells d.ce 53 (0,0))/\z.heap[w.heap.size+1]?=some (.cells zw21 53 (0,0))/\z.cell? ⟨w.heap.size,3,none⟩=some (.bool d.s.g)/\z.cell? ⟨w.heap.size,4,none⟩=some (.slice d.aq d.an d.ac)/\z.cell? ⟨w.heap.size,5,none⟩=some (.slice d.cq d.cn d.cc)/\z.cell? ⟨w.heap.size,9,none⟩=some (.int .i64 d.e.k)/\z.cell? ⟨w.heap.size,10,none⟩=some (.int .i64 d.e.f)/\z.cell? ⟨w.heap.size,11,none⟩=some (.bool d.e.neg)/\z.cell? ⟨w.heap.size,12,none⟩=some (.slice d.e.aq d.e.an d.e.ac)/\z.cell? ⟨w.heap.size,13,none⟩=some (.slice d.e.cq d.e.cn d.e.cc)/\z.cell? ⟨w.heap.size,14,none⟩=some (.string d.e.m)/\z.cell? ⟨w.heap.size,15,none⟩=some (.slice d.e.sq d.e.sn d.e.sc)) w1:=⟨hW1,by omega,hbox1,hres1,by rw[cell_of_row _ _ _ _ _ _ hbox1];rfl,by rw[cell_of_row _ _ _ _ _ _ hbox1];rfl,by rw[cell_of_row _ _ _ _ _ _ hbox1];rfl,by rw[cell_of_row _ _ _ _ _ _ hbox1];rfl,by rw[cell_of_row _ _ _ _ _ _ hbox1];rfl,by rw[cell_of_row _ _ _ _ _ _ hbox1];rfl,by rw[cell_of_row _ _ _ _ _ _ hbox1];rfl,by rw[cell_of_row _ _ _ _ _ _ hbox1];rfl,by rw[cell_of_row _ _ _ _ _ _ hbox1];rfl,by rw[cell_of_row _ _ _ _ _ _ hbox1];rfl⟩
 have tr:∀z z',(fun z=>Below w.heap.size w z/\w.heap.size+3<=z.heap.size/\z.heap[w.heap.size]?=some (.cells d.ce 53 (0,0))/\z.heap[w.heap.size+1]?=some (.cells zw21 53 (0,0))/\z.cell? ⟨w.heap.size,3,none⟩=some (.bool d.s.g)/\z.cell? ⟨w.heap.size,4,none⟩=some (.slice d.aq d.an d.ac)/\z.cell? ⟨w.heap.size,5,none⟩=some (.slice d.cq d.cn d.cc)/\z.cell? ⟨w.heap.size,9,none⟩=some (.int .i64 d.e.k)/\z.cell? ⟨w.heap.size,10,none⟩=some (.int .i64 d.e.f)/\z.cell? ⟨w.heap.size,11,none⟩=some (.bool d.e.neg)/\z.cell? ⟨w.heap.size,12,none⟩=some (.slice d.e.aq d.e.an d.e.ac)/\z.cell? ⟨w.heap.size,13,none⟩=some (.slice d.e.cq d.e.cn d.e.cc)/\z.cell? ⟨w.heap.size,14,none⟩=some (.string d.e.m)/\z.cell? ⟨w.heap.size,15,none⟩=some (.slice d.e.sq d.e.sn d.e.sc)) z->Below z.heap.size z z'->(fun z=>Below w.heap.size w z/\w.heap.size+3<=z.heap.size/\z.heap[w.heap.size]?=some (.cells d.ce 53 (0,0))/\z.heap[w.heap.size+1]?=some (.cells zw21 53 (0,0))/\z.cell? ⟨w.heap.size,3,none⟩=some (.bool d.s.g)/\z.cell? ⟨w.heap.size,4,none⟩=some (.slice d.aq d.an d.ac)/\z.cell? ⟨w.heap.size,5,none⟩=some (.slice d.cq d.cn d.cc)/\z.cell? ⟨w.heap.size,9,none⟩=some (.int .i64 d.e.k)/\z.cell? ⟨w.heap.size,10,none⟩=some (.int .i64 d.e.f)/\z.cell? ⟨w.heap.size,11,none⟩=some (.bool d.e.neg)/\z.cell? ⟨w.heap.size,12,none⟩=some (.slice d.e.aq d.e.an d.e.ac)/\z.cell? ⟨w.heap.size,13,none⟩=some (.slice d.e.cq d.e.cn d.e.cc)/\z.cell? ⟨w.heap.size,14,none⟩=some (.string d.e.m)/\z.cell? ⟨w.heap.size,15,none⟩=some (.slice d.e.sq d.e.sn d.e.sc)) z':=by
  rintro z z' ⟨a0,a1,a2,a3,x3,x4,x5,x9,x10,x11,x12,x13,x14,x15⟩ hb
  have hs:=hb.size
  exact⟨a0.trans (hb.mono a0.size),by omega,(hb.block _ (by omega)).trans a2,(hb.block _ (by omega)).trans a3,(hb.cell (by show w.heap.size<_;omega)).trans x3,(hb.cell (by show w.heap.size<_;omega)).trans x4,(hb.cell (by show w.heap.size<_;omega)).trans x5,(hb.cell (by show w.heap.size<_;omega)).trans x9,(hb.cell (by show w.heap.size<_;omega)).trans x10,(hb.cell (by show w.heap.size<_;omega)).trans x11,(hb.cell (by show w.heap.size<_;omega)).trans x12,(hb.cell (by show w.heap.size<_;omega)).trans x13,(hb.cell (by show w.heap.size<_;omega)).trans x14,(hb.cell (by show w.heap.size<_;omega)).trans x15⟩
 have ts:∀z B j u,w.heap.size+2<=B->(fun z=>Below w.heap.size w z/\w.heap.size+3<=z.heap.size/\z.heap[w.heap.size]?=some (.cells d.ce 53 (0,0))/\z.heap[w.heap.size+1]?=some (.cells zw21 53 (0,0))/\z.cell? ⟨w.heap.size,3,none⟩=some (.bool d.s.g)/\z.cell? ⟨w.heap.size,4,none⟩=some (.slice d.aq d.an d.ac)/\z.cell? ⟨w.heap.size,5,none⟩=some (.slice d.cq d.cn d.cc)/\z.cell? ⟨w.heap.size,9,none⟩=some (.int .i64 d.e.k)/\z.cell? ⟨w.heap.size,10,none⟩=some (.int .i64 d.e.f)/\z.cell? ⟨w.heap.size,11,none⟩=some (.bool d.e.neg)/\z.cell? ⟨w.heap.size,12,none⟩=some (.slice d.e.aq d.e.an d.e.ac)/\z.cell? ⟨w.heap.size,13,none⟩=some (.slice d.e.cq d.e.cn d.e.cc)/\z.cell? ⟨w.heap.size,14,none⟩=some (.string d.e.m)/\z.cell? ⟨w.heap.size,15,none⟩=some (.slice d.e.sq d.e.sn d.e.sc)) z->(fun z=>Below w.heap.size w z/\w.heap.size+3<=z.heap.size/\z.heap[w.heap.size]?=some (.cells d.ce 53 (0,0))/\z.heap[w.heap.size+1]?=some (.cells zw21 53 (0,0))/\z.cell? ⟨w.heap.size,3,none⟩=some (.bool d.s.g)/\z.cell? ⟨w.heap.size,4,none⟩=some (.slice d.aq d.an d.ac)/\z.cell? ⟨w.heap.size,5,none⟩=some (.slice d.cq d.cn d.cc)/\z.cell? ⟨w.heap.size,9,none⟩=some (.int .i64 d.e.k)/\z.cell? ⟨w.heap.size,10,none⟩=some (.int .i64 d.e.f)/\z.cell? ⟨w.heap.size,11,none⟩=some (.bool d.e.neg)/\z.cell? ⟨w.heap.size,12,none⟩=some (.slice d.e.aq d.e.an d.e.ac)/\z.cell? ⟨w.heap.size,13,none⟩=some (.slice d.e.cq d.e.cn d.e.cc)/\z.cell? ⟨w.heap.size,14,none⟩=some (.string d.e.m)/\z.cell? ⟨w.heap.size,15,none⟩=some (.slice d.e.sq d.e.sn d.e.sc)) (z.setCell ⟨B,j,none⟩ u):=by
  rintro z B j u hB ⟨a0,a1,a2,a3,x3,x4,x5,x9,x10,x11,x12,x13,x14,x15⟩
  have hne:¬B=w.heap.size:=by omega
  exact⟨a0.setCell (by show _<=B;omega) u,by simp;omega,(Below.heap_setCell _ _ _ _ (by show ¬_=B;omega)).trans a2,(Below.heap_setCell _ _ _ _ (by show ¬_=B;omega)).trans a3,(World.cell?_setCell_far _ _ _ _ (by simp[hne])).trans x3,(World.cell?_setCell_far _ _ _ _ (by simp[hne])).trans x4,(World.cell?_setCell_far _ _ _ _ (by simp[hne])).trans x5,(World.cell?_setCell_far _ _ _ _ (by simp[hne])).trans x9,(World.cell?_setCell_far _ _ _ _ (by simp[hne])).trans x10,(World.cell?_setCell_far _ _ _ _ (by simp[hne])).trans x11,(World.cell?_setCell_far _ _ _ _ (by simp[hne])).trans x12,(World.cell?_setCell_far _ _ _ _ (by simp[hne])).trans x13,(World.cell?_setCell_far _ _ _ _ (by simp[hne])).trans x14,(World.cell?_setCell_far _ _ _ _ (by simp[hne])).trans x15⟩
 have hSd:(fun z=>Below w.heap.size w z/\w.heap.size+3<=z.heap.size/\z.heap[w.heap.size]?=some (.cells d.ce 53 (0,0))/\z.heap[w.heap.size+1]?=some (.cells zw21 53 (0,0))/\z.cell? ⟨w.heap.size,3,none⟩=some (.bool d.s.g)/\z.cell? ⟨w.heap.size,4,none⟩=some (.slice d.aq d.an d.ac)/\z.cell? ⟨w.heap.size,5,none⟩=some (.slice d.cq d.cn d.cc)/\z.cell? ⟨w.heap.size,9,none⟩=some (.int .i64 d.e.k)/\z.cell? ⟨w.heap.size,10,none⟩=some (.int .i64 d.e.f)/\z.cell? ⟨w.heap.size,11,none⟩=some (.bool d.e.neg)/\z.cell? ⟨w.heap.size,12,none⟩=some (.slice d.e.aq d.e.an d.e.ac)/\z.cell? ⟨w.heap.size,13,none⟩=some (.slice d.e.cq d.e.cn d.e.cc)/\z.cell? ⟨w.heap.size,14,none⟩=some (.string d.e.m)/\z.cell? ⟨w.heap.size,15,none⟩=some (.slice d.e.sq d.e.sn d.e.sc)) w1.drew:=⟨hS1.1.drew,hS1.2⟩
 have tr':=hid_of tr
 have ts':=hid_of ts
 clear tr ts hS1 hbox1 hres1
 have hblkd:=hid_of hblk1
 clear hblk1
 have hsd:w1.drew.heap.size=w1.heap.size:=rfl
 go_region_held3 (fun z=>Below w.heap.size w z/\w.heap.size+3<=z.heap.size/\z.heap[w.heap.size]?=some (.cells d.ce 53 (0,0))/\z.heap[w.heap.size+1]?=some (.cells zw21 53 (0,0))/\z.cell? ⟨w.heap.size,3,none⟩=some (.bool d.s.g)/\z.cell? ⟨w.heap.size,4,none⟩=some (.slice d.aq d.an d.ac)/\z.cell? ⟨w.heap.size,5,none⟩=some (.slice d.cq d.cn d.cc)/\z.cell? ⟨w.heap.size,9,none⟩=some (.int .i64 d.e.k)/\z.cell? ⟨w.heap.size,10,none⟩=some (.int .i64 d.e.f)/\z.cell? ⟨w.heap.size,11,none⟩=some (.bool d.e.neg)/\z.cell? ⟨w.heap.size,12,none⟩=some (.slice d.e.aq d.e.an d.e.ac)/\z.cell? ⟨w.heap.size,13,none⟩=some (.slice d.e.cq d.e.cn d.e.cc)/\z.cell? ⟨w.heap.size,14,none⟩=some (.string d.e.m)/\z.cell? ⟨w.heap.size,15,none⟩=some (.slice d.e.sq d.e.sn d.e.sc)) (first | with_reducible exact hSd | with_reducible exact hS2 | with_reducible exact hS3 | ((repeat with_reducible refine ts'.out _ _ _ _ (by omega) ?_);with_reducible exact hS3))
  (first
    | (go_at_call 157;with_reducible refine(hR _ ?_).mono ?_;exact hSd.1;rintro e w2 ⟨q1,c1,q2,c2,rfl,hA1,hA2,hb2⟩
       have hS2:=tr'.out _ _ hSd hb2)
    | (go_at_call 158;with_reducible refine(hE _ ?_).mono ?_;exact hS2.1;rintro e w3 ⟨e',rfl,hA3,hb3⟩
       have hS3:=tr'.out _ _ hS2 hb3
       have hs2:=hb2.size
       have hs3:=hb3.size
       have hblk:w3.heap[w.heap.size+2]?=some (.cells d.ce 53 (0,0)):=(hb3.block _ (by omega)).trans ((hb2.block _ (by omega)).trans hblkd.out)
       have y3:w3.cell? ⟨w.heap.size+2,3,none⟩=some (.bool d.s.g):=by rw[cell_of_row _ _ _ _ _ _ hblk];rfl
       have y4:w3.cell? ⟨w.heap.size+2,4,none⟩=some (.slice d.aq d.an d.ac):=by rw[cell_of_row _ _ _ _ _ _ hblk];rfl
       have y5:w3.cell? ⟨w.heap.size+2,5,none⟩=some (.slice d.cq d.cn d.cc):=by rw[cell_of_row _ _ _ _ _ _ hblk];rfl
       have y9:w3.cell? ⟨w.heap.size+2,9,none⟩=some (.int .i64 d.e.k):=by rw[cell_of_row _ _ _ _ _ _ hblk];rfl
       have y10:w3.cell? ⟨w.heap.size+2,10,none⟩=some (.int .i64 d.e.f):=by rw[cell_of_row _ _ _ _ _ _ hblk];rfl
       have y11:w3.cell? ⟨w.heap.size+2,11,none⟩=some (.bool d.e.neg):=by rw[cell_of_row _ _ _ _ _ _ hblk];rfl
       have y12:w3.cell? ⟨w.heap.size+2,12,none⟩=some (.slice d.e.aq d.e.an d.e.ac):=by rw[cell_of_row _ _ _ _ _ _ hblk];rfl
       have y13:w3.cell? ⟨w.heap.size+2,13,none⟩=some (.slice d.e.cq d.e.cn d.e.cc):=by rw[cell_of_row _ _ _ _ _ _ hblk];rfl
       have y14:w3.cell? ⟨w.heap.size+2,14,none⟩=some (.string d.e.m):=by rw[cell_of_row _ _ _ _ _ _ hblk];rfl
       have y15:w3.cell? ⟨w.heap.size+2,15,none⟩=some (.slice d.e.sq d.e.sn d.e.sc):=by rw[cell_of_row _ _ _ _ _ _ hblk];rfl
       have y16:w3.cell? ⟨w.heap.size+2,16,none⟩=some (.slice d.poq d.pon d.poc):=by rw[cell_of_row _ _ _ _ _ _ hblk];rfl
       have y19:w3.cell? ⟨w.heap.size+2,19,none⟩=some (.slice d.arq d.arn d.arc):=by rw[cell_of_row _ _ _ _ _ _ hblk];rfl
       have y20:w3.cell? ⟨w.heap.size+2,20,none⟩=some (.slice d.kiq d.kin d.kic):=by rw[cell_of_row _ _ _ _ _ _ hblk];rfl
       have yf:∀j,w3.frozen? ⟨w.heap.size+2,j,none⟩=false:=fun j=>frozen_of_row _ _ _ _ _ hblk))
 have g0:=zab hblk (j:=3) (u:=.bool d.s.g)
 have g1:=zab g0 (j:=4) (u:=.slice q1 d.an c1)
 have g2:=zab g1 (j:=5) (u:=.slice q2 d.cn c2)
 have g3:=zab g2 (j:=9) (u:=.int .i64 e'.k)
 have g4:=zab g3 (j:=10) (u:=.int .i64 e'.f)
 have g5:=zab g4 (j:=11) (u:=.bool e'.neg)
 have g6:=zab g5 (j:=12) (u:=.slice e'.aq e'.an e'.ac)
 have g7:=zab g6 (j:=13) (u:=.slice e'.cq e'.cn e'.cc)
 have g8:=zab g7 (j:=14) (u:=.string e'.m)
 have g9:=zab g8 (j:=15) (u:=.slice e'.sq e'.sn e'.sc)
 have g10:=zab g9 (j:=16) (u:=.slice none 0 0)
 have g11:=zab g10 (j:=19) (u:=.slice none 0 0)
 have g12:=zab g11 (j:=20) (u:=.slice none 0 0)
 generalize hwc:(((((((((((((w3.setCell ⟨w.heap.size+2,3,none⟩ (.bool d.s.g)).setCell ⟨w.heap.size+2,4,none⟩ (.slice q1 d.an c1)).setCell ⟨w.heap.size+2,5,none⟩ (.slice q2 d.cn c2)).setCell ⟨w.heap.size+2,9,none⟩ (.int .i64 e'.k)).setCell ⟨w.heap.size+2,10,none⟩ (.int .i64 e'.f)).setCell ⟨w.heap.size+2,11,none⟩ (.bool e'.neg)).setCell ⟨w.heap.size+2,12,none⟩ (.slice e'.aq e'.an e'.ac)).setCell ⟨w.heap.size+2,13,none⟩ (.slice e'.cq e'.cn e'.cc)).setCell ⟨w.heap.size+2,14,none⟩ (.string e'.m)).setCell ⟨w.heap.size+2,15,none⟩ (.slice e'.sq e'.sn e'.sc)).setCell ⟨w.heap.size+2,16,none⟩ (.slice none 0 0)).setCell ⟨w.heap.size+2,19,none⟩ (.slice none 0 0)).setCell ⟨w.heap.size+2,20,none⟩ (.slice none 0 0))=wc at*
 have hkc:∀b,b≠w.heap.size+2->wc.heap[b]?=w3.heap[b]?:=by
  intro b hb
  rw[<-hwc]
  rw[Below.heap_setCell _ _ _ _ (by exact hb)];rw[Below.heap_setCell _ _ _ _ (by exact hb)];rw[Below.heap_setCell _ _ _ _ (by exact hb)];rw[Below.heap_setCell _ _ _ _ (by exact hb)];rw[Below.heap_setCell _ _ _ _ (by exact hb)];rw[Below.heap_setCell _ _ _ _ (by exact hb)];rw[Below.heap_setCell _ _ _ _ (by exact hb)];rw[Below.heap_setCell _ _ _ _ (by exact hb)];rw[Below.heap_setCell _ _ _ _ (by exact hb)];rw[Below.heap_setCell _ _ _ _ (by exact hb)];rw[Below.heap_setCell _ _ _ _ (by exact hb)];rw[Below.heap_setCell _ _ _ _ (by exact hb)];rw[Below.heap_setCell _ _ _ _ (by exact hb)]
 have hsc:wc.heap.size=w3.heap.size:=by rw[<-hwc];simp
 have hSc:(fun z=>Below w.heap.size w z/\w.heap.size+3<=z.heap.size/\z.heap[w.heap.size]?=some (.cells d.ce 53 (0,0))/\z.heap[w.heap.size+1]?=some (.cells zw21 53 (0,0))/\z.cell? ⟨w.heap.size,3,none⟩=some (.bool d.s.g)/\z.cell? ⟨w.heap.size,4,none⟩=some (.slice d.aq d.an d.ac)/\z.cell? ⟨w.heap.size,5,none⟩=some (.slice d.cq d.cn d.cc)/\z.cell? ⟨w.heap.size,9,none⟩=some (.int .i64 d.e.k)/\z.cell? ⟨w.heap.size,10,none⟩=some (.int .i64 d.e.f)/\z.cell? ⟨w.heap.size,11,none⟩=some (.bool d.e.neg)/\z.cell? ⟨w.heap.size,12,none⟩=some (.slice d.e.aq d.e.an d.e.ac)/\z.cell? ⟨w.heap.size,13,none⟩=some (.slice d.e.cq d.e.cn d.e.cc)/\z.cell? ⟨w.heap.size,14,none⟩=some (.string d.e.m)/\z.cell? ⟨w.heap.size,15,none⟩=some (.slice d.e.sq d.e.sn d.e.sc)) wc:=by
  rw[<-hwc]
  repeat with_reducible refine ts'.out _ _ _ _ (by omega) ?_
  exact hS3
 have hblk0:wc.heap[w.heap.size+2]?=some (.cells #[.int .i64 d.s.ru,.string d.s.nm,.string d.s.ot,.bool d.s.g,.slice q1 d.an c1,.slice q2 d.cn c2,.int .i64 d.s.kk,.int .i64 d.s.nn,.int .i64 d.s.pr,.int .i64 e'.k,.int .i64 e'.f,.bool e'.neg,.slice e'.aq e'.an e'.ac,.slice e'.cq e'.cn e'.cc,.string e'.m,.slice e'.sq e'.sn e'.sc,.slice none 0 0,.string d.s.en,.int .i64 d.s.ve,.slice none 0 0,.slice none 0 0] 53 (0,0)):=g12
 obtain⟨hWc,_,hboxc,hresc,_⟩:=hSc
 have k16:wc.cell? ⟨w.heap.size,16,none⟩=some (.slice d.poq d.pon d.poc):=by rw[cell_of_row _ _ _ _ _ _ hboxc];rfl
 have hG2:w.heap.size+2<wc.heap.size:=by omega
 have B1:SlA wc (Free (w.heap.size+3) wc (w.heap.size+2) (.slice none 0 0)) (.slice q1 d.an c1) nu:=by
  refine hA1.keep (fun b hb=>?_) (fun b hb=>?_)
  ·have e1:=hb.1
   have e2:=hb.2
   rw[hkc b (by omega),hb3.block b e2]
  ·have e1:=hb.1
   have e2:=hb.2
   exact⟨by omega,by omega,by omega,by simp[Value.ownBlock]⟩
 have B2:SlA wc (Free (w.heap.size+3) wc (w.heap.size+2) (.slice none 0 0)) (.slice q2 d.cn c2) de:=by
  refine hA2.keep (fun b hb=>?_) (fun b hb=>?_)
  ·have e1:=hb.1
   have e2:=hb.2
   rw[hkc b (by omega),hb3.block b e2]
  ·have e1:=hb.1
   have e2:=hb.2
   exact⟨by omega,by omega,by omega,by simp[Value.ownBlock]⟩
 have B3:ExA wc (Free (w.heap.size+3) wc (w.heap.size+2) (.slice none 0 0)) ex e':=by
  refine hA3.keep (fun b hb=>?_) (fun b hb=>?_)
  ·have e1:=hb.1
   rw[hkc b (by omega)]
  ·have e1:=hb.1
   have e2:=hb.2
   exact⟨by omega,by omega,by omega,by simp[Value.ownBlock]⟩
 have B4:True:=trivial
 have hG0:(w.heap.size+3)<=w.heap.size+3:=Nat.le_refl _
 have hGH:w.heap.size+1<w.heap.size+2:=by omega
 clear hwc hkc hsc hS3 hS2 hSd hR hE hA1 hA2 hA3 hb2 hb3 hblk yf y3 y4 y5 y9 y10 y11 y12 y13 y14 y15 y16 y19 y20 g0 g1 g2 g3 g4 g5 g6 g7 g8 g9 g10 g11 g12 tr' ts' hblkd hs2 hs3 hz1 hsd hW1
 generalize w.heap.size+2=G at hblk0 hG2 B1 B2 B3 hGH ⊢
 go_wp2_with fail
 obtain⟨i0,hi,hz0,hz1,hz2⟩:=info_parts (show(Tryz.prog.info? 158).map (fun i=>(i.zero,i.size,i.bytes))=some (some (.agg #[.string ⟨#[]⟩,.bool false,.slice none 0 0,.slice none 0 0]),4,72) by kernel_rfl)
 go_loopw [23] (fun i wr=>∃k:Nat,k<=d.pon/\i=.int .i64 k/\∃(v:Value) (L:List Va),L.length=k/\wr.heap[G]?=some (.cells #[.int .i64 d.s.ru,.string d.s.nm,.string d.s.ot,.bool d.s.g,.slice q1 d.an c1,.slice q2 d.cn c2,.int .i64 d.s.kk,.int .i64 d.s.nn,.int .i64 d.s.pr,.int .i64 e'.k,.int .i64 e'.f,.bool e'.neg,.slice e'.aq e'.an e'.ac,.slice e'.cq e'.cn e'.cc,.string e'.m,.slice e'.sq e'.sn e'.sc,v,.string d.s.en,.int .i64 d.s.ve,.slice none 0 0,.slice none 0 0] 53 (0,0))/\wr.ownsRow (w.heap.size+3) 158 4 v k (L.flatMap Va.cells)/\v.ownBlock≠some G/\(∀i x,L[i]?=some x->PtA wr (Free (w.heap.size+3) wr G v) (ps i) x)/\SlA wr (Free (w.heap.size+3) wr G v) (.slice q1 d.an c1) nu/\SlA wr (Free (w.heap.size+3) wr G v) (.slice q2 d.cn c2) de/\ExA wr (Free (w.heap.size+3) wr G v) ex e'/\True/\Below w.heap.size w wr/\G<wr.heap.size/\wr.heap[w.heap.size+1]?=some (.cells zw21 53 (0,0))/\wr.heap[w.heap.size]?=some (.cells d.ce 53 (0,0))) (fun i _=>d.pon - (intOf i).toNat)
 case atStart=>
  exact⟨0,Nat.zero_le _,rfl,.slice none 0 0,[],rfl,hblk0,World.ownsRow_nil _ _ _ _,by simp[Value.ownBlock],fun i x h=>by simp at h,B1,B2,B3,trivial,hWc,hG2,hresc,hboxc⟩
 case round=>
  clear hblk0 hG2 hWc hresc hboxc B1 B2 B3 B4
  obtain⟨k,hk,rfl,v,L,hLk,hblk,hown,hne,hLx,hA1,hA2,hA3,hA4,hbw,hGr,hres,hbox⟩:=hrel
  have hws:=hbw.size
  by_cases hlt:k<d.pon
  ·have hlt':(k:Int)<(d.pon:Int):=by omega
   have hKk:=hPt k hlt
   rcases hp.out with h0 | ⟨b,o,hq,hbb,hcx⟩
   ·omega
   have hx:=rangeAt_below (hcx k hlt) hbw hbb
   clear hcx
   generalize hX:xs k=X at*
   have hbox0:=hbox
   unfold Sd.ce at hbox
   rw[hq] at hbox ⊢
   obtain⟨de',hu',hd'⟩:=va_row
   have hHu':Hid (Tryz.prog.underlying 158=some de'):=hu'
   clear hu'
   go_wp2_with (first
    | (with_reducible refine wpList_load_mid ?_ 158 (.tmp 25) ?_ b (o+k*4) ?_ [.string X.m,.bool X.g,.slice X.aq X.an X.ac,.slice X.cq X.cn X.cc] de' ?_ hHu'.out hd' ?_ ?_
       rotate_left 1
       ·with_reducible rfl
       ·rfl
       ·exact hx
       ·exact ze5
       rotate_left 1
       ·rfl)
    | (with_reducible refine wpList_store_new ?_ 158 (.tmp 5) (.tmp 26) ?_ #[.string X.m,.bool X.g,.slice X.aq X.an X.ac,.slice X.cq X.cn X.cc] wr.heap.size rfl ?_ ?_ ?_ ?_ ?_ ?_
       rotate_left 1
       ·with_reducible rfl
       ·rfl
       ·rfl
       ·rfl
       ·exact ze5
       ·exact all_oneCell_toArray (one_va X)
       rotate_left 1
       ·rfl))
   simp only[Act.put]
   have hT:(fun z=>z.cell? ⟨wr.heap.size,0,none⟩=some (.string X.m)/\z.cell? ⟨wr.heap.size,1,none⟩=some (.bool X.g)/\z.cell? ⟨wr.heap.size,2,none⟩=some (.slice X.aq X.an X.ac)/\z.cell? ⟨wr.heap.size,3,none⟩=some (.slice X.cq X.cn X.cc)) (wr.alloc (.cells #[.string X.m,.bool X.g,.slice X.aq X.an X.ac,.slice X.cq X.cn X.cc] 158)):=⟨by simp,by simp,by simp,by simp⟩
   have hz:Below wr.heap.size wr (wr.alloc (.cells #[.string X.m,.bool X.g,.slice X.aq X.an X.ac,.slice X.cq X.cn X.cc] 158)).drew:=(zaa _ _).drew
   have hzs:(wr.alloc (.cells #[.string X.m,.bool X.g,.slice X.aq X.an X.ac,.slice X.cq X.cn X.cc] 158)).drew.heap.size=wr.heap.size+1:=by show(wr.heap.push _).size=_;simp
   have hbz:Below w.heap.size w (wr.alloc (.cells #[.string X.m,.bool X.g,.slice X.aq X.an X.ac,.slice X.cq X.cn X.cc] 158)).drew:=hbw.trans (hz.mono hbw.size)
   have c6:(wr.alloc (.cells #[.string X.m,.bool X.g,.slice X.aq X.an X.ac,.slice X.cq X.cn X.cc] 158)).cell? ⟨G,16,none⟩=some v:=by rw[World.cell?_alloc_lt _ _ _ (by exact hGr),cell_of_row _ _ _ _ _ _ hblk];rfl
   have hrl:=hown.lt
   refine wp_region_held_drew (S:=fun z=>z.cell? ⟨wr.heap.size,0,none⟩=some (.string X.m)/\z.cell? ⟨wr.heap.size,1,none⟩=some (.bool X.g)/\z.cell? ⟨wr.heap.size,2,none⟩=some (.slice X.aq X.an X.ac)/\z.cell? ⟨wr.heap.size,3,none⟩=some (.slice X.cq X.cn X.cc)) (by kernel_rfl) hT (fun hHeld=>?_)
   refine wpAnyH_take (i:=0) (v:=.pointer (some ⟨G,16,none⟩)) rfl (by kernel_rfl) (by kernel_rfl) (by kernel_rfl) (fun _ _ _ h=>h) (.inl ⟨by rfl,fun z hSz=>by go_simp⟩) hHeld ?_
   simp only[Act.put]
   refine wpAnyH_take (i:=2) (v:=.pointer (some ⟨wr.heap.size,0,none⟩)) rfl (by kernel_rfl) (by kernel_rfl) (by kernel_rfl) (fun _ _ _ h=>h) (.inl ⟨by rfl,fun z hSz=>by go_simp⟩) hHeld ?_
   simp only[Act.put]
   refine wpAnyH_take (i:=3) (v:=.string X.m) rfl (by kernel_rfl) (by kernel_rfl) (by kernel_rfl) (fun _ _ _ h=>h) (.inl ⟨by rfl,fun z hSz=>by go_simp⟩) hHeld ?_
   simp only[Act.put]
   refine wpAnyH_take (i:=4) (v:=.pointer (some ⟨wr.heap.size,1,none⟩)) rfl (by kernel_rfl) (by kernel_rfl) (by kernel_rfl) (fun _ _ _ h=>h) (.inl ⟨by rfl,fun z hSz=>by go_simp⟩) hHeld ?_
   simp only[Act.put]
   refine wpAnyH_take (i:=5) (v:=.agg #[.bool X.g,.slice X.aq X.an X.ac,.slice X.cq X.cn X.cc]) rfl (by kernel_rfl) (by kernel_rfl) (by kernel_rfl) (fun _ _ _ h=>h) (.inl ⟨by rfl,fun z hSz=>by go_simp⟩) hHeld ?_
   simp only[Act.put]
   refine wpAnyH_ready (rs:=[1,6]) (by kernel_rfl) (by simp) ?_
   refine AllReadyH.cons rfl (fun K hKK=>?w9) (AllReadyH.cons rfl (fun K hKK=>?w10) AllReadyH.nil)
   case' w9=>
    go_simp
    refine hKK.out _ _ hHeld (fun _=>?_)
    clear hKK K
    refine wpAnyH_ready (rs:=[6]) (by kernel_rfl) (by simp) ?_
    refine AllReadyH.cons rfl (fun K hKK=>?_) AllReadyH.nil
    go_simp
    refine(hKk _ hbz).mono ?_
    rintro e w5 ⟨r1,s1,r2,s2,rfl,hA51,hA52,hb5⟩
    have hs5:=hb5.size
    have hT5:(fun z=>z.cell? ⟨wr.heap.size,0,none⟩=some (.string X.m)/\z.cell? ⟨wr.heap.size,1,none⟩=some (.bool X.g)/\z.cell? ⟨wr.heap.size,2,none⟩=some (.slice X.aq X.an X.ac)/\z.cell? ⟨wr.heap.size,3,none⟩=some (.slice X.cq X.cn X.cc)) w5:=⟨(hb5.cell (by show wr.heap.size<_;omega)).trans hT.1,(hb5.cell (by show wr.heap.size<_;omega)).trans hT.2.1,(hb5.cell (by show wr.heap.size<_;omega)).trans hT.2.2.1,(hb5.cell (by show wr.heap.size<_;omega)).trans hT.2.2.2⟩
    have c65:w5.cell? ⟨G,16,none⟩=some v:=(hb5.cell (by show G<_;omega)).trans c6
    have hown5:w5.ownsRow (w.heap.size+3) 158 4 v k (L.flatMap Va.cells):=((hown.alloc _).drew).kept (row:=none) ⟨hb5.os,hb5.tape,hb5.output,hb5.size,fun b hb _=>hb5.block b hb⟩ (by cases hv:v.ownBlock with | none=>exact .inl rfl | some _=>exact .inr (by simp))
    refine hKK.out _ _ hT5 (fun hHeld5=>?_)
    clear hKK K
    refine wpAnyH_take (i:=7) (v:=.agg #[.string X.m,.bool X.g,.slice r1 X.an s1,.slice r2 X.cn s2]) rfl (by kernel_rfl) (by kernel_rfl) (by kernel_rfl) (fun _ _ _ h=>h) (.inl ⟨by rfl,fun z hSz=>by go_simp⟩) hHeld5 ?_
    simp only[Act.put]
    refine wpAnyH_ready (rs:=[8]) (by kernel_rfl) (by simp) ?_
    refine AllReadyH.cons rfl (fun K hKK=>?_) AllReadyH.nil
    go_simp
    have hT6:(fun z=>z.cell? ⟨wr.heap.size,0,none⟩=some (.string X.m)/\z.cell? ⟨wr.heap.size,1,none⟩=some (.bool X.g)/\z.cell? ⟨wr.heap.size,2,none⟩=some (.slice X.aq X.an X.ac)/\z.cell? ⟨wr.heap.size,3,none⟩=some (.slice X.cq X.cn X.cc)) (w5.alloc (.cells #[.string X.m,.bool X.g,.slice r1 X.an s1,.slice r2 X.cn s2] 158)):=⟨(World.cell?_alloc_lt _ _ _ (by show wr.heap.size<_;omega)).trans hT5.1,(World.cell?_alloc_lt _ _ _ (by show wr.heap.size<_;omega)).trans hT5.2.1,(World.cell?_alloc_lt _ _ _ (by show wr.heap.size<_;omega)).trans hT5.2.2.1,(World.cell?_alloc_lt _ _ _ (by show wr.heap.size<_;omega)).trans hT5.2.2.2⟩
    have c66:(w5.alloc (.cells #[.string X.m,.bool X.g,.slice r1 X.an s1,.slice r2 X.cn s2] 158)).cell? ⟨G,16,none⟩=some v:=by rw[World.cell?_alloc_lt _ _ _ (by show G<_;omega)];exact c65
   case' w10=>
    go_simp
    refine(hKk _ hbz).mono ?_
    rintro e w5 ⟨r1,s1,r2,s2,rfl,hA51,hA52,hb5⟩
    have hs5:=hb5.size
    have hT5:(fun z=>z.cell? ⟨wr.heap.size,0,none⟩=some (.string X.m)/\z.cell? ⟨wr.heap.size,1,none⟩=some (.bool X.g)/\z.cell? ⟨wr.heap.size,2,none⟩=some (.slice X.aq X.an X.ac)/\z.cell? ⟨wr.heap.size,3,none⟩=some (.slice X.cq X.cn X.cc)) w5:=⟨(hb5.cell (by show wr.heap.size<_;omega)).trans hT.1,(hb5.cell (by show wr.heap.size<_;omega)).trans hT.2.1,(hb5.cell (by show wr.heap.size<_;omega)).trans hT.2.2.1,(hb5.cell (by show wr.heap.size<_;omega)).trans hT.2.2.2⟩
    have c65:w5.cell? ⟨G,16,none⟩=some v:=(hb5.cell (by show G<_;omega)).trans c6
    have hown5:w5.ownsRow (w.heap.size+3) 158 4 v k (L.flatMap Va.cells):=((hown.alloc _).drew).kept (row:=none) ⟨hb5.os,hb5.tape,hb5.output,hb5.size,fun b hb _=>hb5.block b hb⟩ (by cases hv:v.ownBlock with | none=>exact .inl rfl | some _=>exact .inr (by simp))
    refine hKK.out _ _ hT5 (fun hHeld5=>?_)
    clear hKK K
    refine wpAnyH_take (i:=7) (v:=.agg #[.string X.m,.bool X.g,.slice r1 X.an s1,.slice r2 X.cn s2]) rfl (by kernel_rfl) (by kernel_rfl) (by kernel_rfl) (fun _ _ _ h=>h) (.inl ⟨by rfl,fun z hSz=>by go_simp⟩) hHeld5 ?_
    simp only[Act.put]
    refine wpAnyH_ready (rs:=[1,8]) (by kernel_rfl) (by simp) ?_
    refine AllReadyH.cons rfl (fun K hKK=>?w11) (AllReadyH.cons rfl (fun K hKK=>?w12) AllReadyH.nil)
    case' w11=>
     go_simp
     refine hKK.out _ _ hT5 (fun _=>?_)
     clear hKK K
     refine wpAnyH_ready (rs:=[8]) (by kernel_rfl) (by simp) ?_
     refine AllReadyH.cons rfl (fun K hKK=>?_) AllReadyH.nil
     go_simp
     have hT6:(fun z=>z.cell? ⟨wr.heap.size,0,none⟩=some (.string X.m)/\z.cell? ⟨wr.heap.size,1,none⟩=some (.bool X.g)/\z.cell? ⟨wr.heap.size,2,none⟩=some (.slice X.aq X.an X.ac)/\z.cell? ⟨wr.heap.size,3,none⟩=some (.slice X.cq X.cn X.cc)) (w5.alloc (.cells #[.string X.m,.bool X.g,.slice r1 X.an s1,.slice r2 X.cn s2] 158)):=⟨(World.cell?_alloc_lt _ _ _ (by show wr.heap.size<_;omega)).trans hT5.1,(World.cell?_alloc_lt _ _ _ (by show wr.heap.size<_;omega)).trans hT5.2.1,(World.cell?_alloc_lt _ _ _ (by show wr.heap.size<_;omega)).trans hT5.2.2.1,(World.cell?_alloc_lt _ _ _ (by show wr.heap.size<_;omega)).trans hT5.2.2.2⟩
     have c66:(w5.alloc (.cells #[.string X.m,.bool X.g,.slice r1 X.an s1,.slice r2 X.cn s2] 158)).cell? ⟨G,16,none⟩=some v:=by rw[World.cell?_alloc_lt _ _ _ (by show G<_;omega)];exact c65
    case' w12=>
     go_simp
     have hT6:(fun z=>z.cell? ⟨wr.heap.size,0,none⟩=some (.string X.m)/\z.cell? ⟨wr.heap.size,1,none⟩=some (.bool X.g)/\z.cell? ⟨wr.heap.size,2,none⟩=some (.slice X.aq X.an X.ac)/\z.cell? ⟨wr.heap.size,3,none⟩=some (.slice X.cq X.cn X.cc)) (w5.alloc (.cells #[.string X.m,.bool X.g,.slice r1 X.an s1,.slice r2 X.cn s2] 158)):=⟨(World.cell?_alloc_lt _ _ _ (by show wr.heap.size<_;omega)).trans hT5.1,(World.cell?_alloc_lt _ _ _ (by show wr.heap.size<_;omega)).trans hT5.2.1,(World.cell?_alloc_lt _ _ _ (by show wr.heap.size<_;omega)).trans hT5.2.2.1,(World.cell?_alloc_lt _ _ _ (by show wr.heap.size<_;omega)).trans hT5.2.2.2⟩
     have c66:(w5.alloc (.cells #[.string X.m,.bool X.g,.slice r1 X.an s1,.slice r2 X.cn s2] 158)).cell? ⟨G,16,none⟩=some v:=by rw[World.cell?_alloc_lt _ _ _ (by show G<_;omega)];exact c65
     refine hKK.out _ _ hT6 (fun _=>?_)
     clear hKK K
     refine wpAnyH_ready (rs:=[1]) (by kernel_rfl) (by simp) ?_
     refine AllReadyH.cons rfl (fun K hKK=>?_) AllReadyH.nil
     go_simp
   all_goals
    refine hKK.out _ _ hT6 (fun _=>?_)
    clear hKK K
    refine wpAnyH_ready (rs:=[9]) (by kernel_rfl) (by simp) ?_
    refine AllReadyH.cons rfl (fun K hKK=>?_) AllReadyH.nil
    refine step_append_lies _ rfl _ _ 49 rfl (w.heap.size+3) 158 i0 (.agg #[.string ⟨#[]⟩,.bool false,.slice none 0 0,.slice none 0 0]) 4 72 Tryz.underlying49 hi hz0 hz1 hz2 rfl (by decide) v k (L.flatMap Va.cells) rfl (hown5.alloc _) ⟨w5.heap.size,0,none⟩ 1 1 (⟨X.m,X.g,r1,X.an,s1,r2,X.cn,s2⟩:Va).cells rfl rfl (World.news_of_block (heap_alloc_last w5 (.cells (⟨X.m,X.g,r1,X.an,s1,r2,X.cn,s2⟩:Va).cells.toArray 158))) (one_va _) (by decide) (by unfold maxLen;omega) (by omega) (by simp;omega) _ rfl ?_
    intro g cap w7 hown7 hgrow7 hat7 hlt7
    have hTne:some wr.heap.size≠v.ownBlock:=fun e=>by have:=(hrl _ e.symm).2;omega
    have hT7:(fun z=>z.cell? ⟨wr.heap.size,0,none⟩=some (.string X.m)/\z.cell? ⟨wr.heap.size,1,none⟩=some (.bool X.g)/\z.cell? ⟨wr.heap.size,2,none⟩=some (.slice X.aq X.an X.ac)/\z.cell? ⟨wr.heap.size,3,none⟩=some (.slice X.cq X.cn X.cc)) w7:=⟨hgrow7.cell hT6.1 hTne,hgrow7.cell hT6.2.1 hTne,hgrow7.cell hT6.2.2.1 hTne,hgrow7.cell hT6.2.2.2 hTne⟩
    have c67:w7.cell? ⟨G,16,none⟩=some v:=hgrow7.cell c66 (fun e=>hne e.symm)
    obtain⟨m1,m2,m3,m4,m5,m6,m7,m8⟩:=zau (j:=16) (u:=.slice (some ⟨g,0,none⟩) (k+1) cap) hGr (by omega:(w.heap.size+3)<=wr.heap.size) hz hb5 hgrow7 hat7 hlt7 hrl hne rfl
    have f67:∀j,w7.frozen? ⟨G,j,none⟩=false:=fun j=>frozen_of_row _ _ _ _ _ (m5 _ _ _ hblk)
    refine hKK.out _ _ hT7 (fun hHeld7=>?_)
    clear hKK K
    refine wpAnyH_take (i:=10) (v:=.pointer (some ⟨G,16,none⟩)) rfl (by kernel_rfl) (by kernel_rfl) (by kernel_rfl) (fun _ _ _ h=>h) (.inl ⟨by rfl,fun z hSz=>by go_simp⟩) hHeld7 ?_
    simp only[Act.put]
    refine wpAnyH_ready (rs:=[11]) (by kernel_rfl) (by simp) ?_
    refine AllReadyH.cons rfl (fun K hKK=>?_) AllReadyH.nil
    go_simp
    refine hKK.out _ _ ⟨(World.cell?_setCell_far _ _ _ _ (by show G≠wr.heap.size;omega)).trans hT7.1,(World.cell?_setCell_far _ _ _ _ (by show G≠wr.heap.size;omega)).trans hT7.2.1,(World.cell?_setCell_far _ _ _ _ (by show G≠wr.heap.size;omega)).trans hT7.2.2.1,(World.cell?_setCell_far _ _ _ _ (by show G≠wr.heap.size;omega)).trans hT7.2.2.2⟩ (fun _=>?_)
    clear hKK K
    refine wpAnyH_done (by kernel_rfl) ?_ _
    go_wp2_with fail
    go_roundw
    case rel=>
     refine⟨k+1,by omega,by go_num,.slice (some ⟨g,0,none⟩) (k+1) cap,L++[(⟨X.m,X.g,r1,X.an,s1,r2,X.cn,s2⟩:Va)],by simp[hLk],zab (m5 _ _ _ hblk),?_,m6,?_,hA1.keep m1 m2,hA2.keep m1 m2,hA3.keep m1 m2,trivial,?_,by omega,?_,?_⟩
     ·rw[List.flatMap_append,List.flatMap_singleton]
      exact zak hown7 m6
     ·intro i x hi
      by_cases hik:i<k
      ·rw[List.getElem?_append_left (by omega)] at hi
       exact(hLx i x hi).keep m1 m2
      ·rw[List.getElem?_append_right (by omega)] at hi
       have hi0:i - L.length=0:=by
        rcases Nat.eq_zero_or_pos (i - L.length) with h | h
        ·exact h
        ·rw[List.getElem?_eq_none (by simp;omega)] at hi
         cases hi
       rw[hi0] at hi
       simp only[List.getElem?_cons_zero,Option.some.injEq] at hi
       subst hi
       have:i=k:=by omega
       subst this
       exact(by have h:=hPeq i hlt;rw[hX] at h;exact⟨h.1,h.2.1,hA51.keep m3 m4,hA52.keep m3 m4,h.2.2⟩)
     ·refine Below.setCell ?_ (by show w.heap.size<=G;omega) _
      exact((hbz.trans (hb5.mono hbz.size)).alloc (by omega) _).grown hgrow7 (by simp;omega) (fun b hb=>by have:=(hrl b hb).1;omega)
     ·rw[m8 (w.heap.size+1) (by omega) (by omega) (fun e=>by have:=(hrl _ e).1;omega)]
      exact hres
     ·rw[m8 w.heap.size (by omega) (by omega) (fun e=>by have:=(hrl _ e).1;omega)]
      exact hbox0
    case measure=>simp[intOf];omega
  ·have hk2:d.pon=k:=by omega
   subst hk2
   have hvf:∃q c,v=.slice q d.pon c:=by
    rcases hown.2 with⟨h,h0⟩ | ⟨g,cp,cur,h,_⟩
    ·exact⟨none,0,by rw[h,h0]⟩
    ·exact⟨_,_,h⟩
   obtain⟨q3,c3,rfl⟩:=hvf
   have B4:PtsA wr (Free (w.heap.size+3) wr G (.slice none 0 0)) q3 d.pon ps:=by
    refine⟨by omega,?_⟩
    by_cases h0:d.pon=0
    ·exact .inl h0
    ·refine .inr ?_
     obtain⟨g,cp,hg,hge,hgl⟩:=hown.form (by omega)
     simp only[Value.slice.injEq] at hg
     obtain⟨rfl,_,rfl⟩:=hg
     have hgG:g≠G:=fun e=>hne (by rw[<-e];rfl)
     refine⟨g,0,rfl,⟨hge,hgl,hgG,by simp[Value.ownBlock]⟩,fun i=>L.getD i default,fun i hi=>?_⟩
     have hiL:i<L.length:=by omega
     have hgi:L[i]?=some (L.getD i default):=by simp[List.getD,hiL]
     have hc:=zam (s:=4) (f:=Va.cells) (fun _=>rfl) hown hgi
     exact⟨⟨hc 0 _ rfl,hc 1 _ rfl,hc 2 _ rfl,hc 3 _ rfl⟩,(hLx i _ hgi).keep (Keeps.refl _ _) (fun b hb=>⟨hb.1,hb.2.1,hb.2.2.1,by simp[Value.ownBlock]⟩)⟩
   have B1:=hA1.keep (Keeps.refl _ _) (fun b (hb:Free (w.heap.size+3) wr G (.slice q3 d.pon c3) b)=>(⟨hb.1,hb.2.1,hb.2.2.1,by simp[Value.ownBlock]⟩:Free (w.heap.size+3) wr G (.slice none 0 0) b))
   have B2:=hA2.keep (Keeps.refl _ _) (fun b (hb:Free (w.heap.size+3) wr G (.slice q3 d.pon c3) b)=>(⟨hb.1,hb.2.1,hb.2.2.1,by simp[Value.ownBlock]⟩:Free (w.heap.size+3) wr G (.slice none 0 0) b))
   have B3:=hA3.keep (Keeps.refl _ _) (fun b (hb:Free (w.heap.size+3) wr G (.slice q3 d.pon c3) b)=>(⟨hb.1,hb.2.1,hb.2.2.1,by simp[Value.ownBlock]⟩:Free (w.heap.size+3) wr G (.slice none 0 0) b))
   have k19:wr.cell? ⟨w.heap.size,19,none⟩=some (.slice d.arq d.arn d.arc):=by rw[cell_of_row _ _ _ _ _ _ hbox];rfl
   have hblk0:wr.heap[G]?=some (.cells #[.int .i64 d.s.ru,.string d.s.nm,.string d.s.ot,.bool d.s.g,.slice q1 d.an c1,.slice q2 d.cn c2,.int .i64 d.s.kk,.int .i64 d.s.nn,.int .i64 d.s.pr,.int .i64 e'.k,.int .i64 e'.f,.bool e'.neg,.slice e'.aq e'.an e'.ac,.slice e'.cq e'.cn e'.cc,.string e'.m,.slice e'.sq e'.sn e'.sc,.slice q3 d.pon c3,.string d.s.en,.int .i64 d.s.ve,.slice none 0 0,.slice none 0 0] 53 (0,0)):=hblk
   have hWc:=hbw
   have hG2:=hGr
   have hresc:=hres
   have hboxc:=hbox
   clear hA1 hA2 hA3 hA4 hLx hown hne hblk hbw hGr hres hbox hLk hi hz0 hz1 hz2 hPt hPeq hp
   go_wp2_with fail
   obtain⟨i0,hi,hz0,hz1,hz2⟩:=info_parts (show(Tryz.prog.info? 160).map (fun i=>(i.zero,i.size,i.bytes))=some (some (.agg #[.string ⟨#[]⟩,.int .i64 0,.int .i64 0,.bool false,.slice none 0 0,.slice none 0 0,.string ⟨#[]⟩,.slice none 0 0]),8,128) by kernel_rfl)
   go_loopw [42] (fun i wr=>∃k:Nat,k<=d.arn/\i=.int .i64 k/\∃(v:Value) (L:List Bi),L.length=k/\wr.heap[G]?=some (.cells #[.int .i64 d.s.ru,.string d.s.nm,.string d.s.ot,.bool d.s.g,.slice q1 d.an c1,.slice q2 d.cn c2,.int .i64 d.s.kk,.int .i64 d.s.nn,.int .i64 d.s.pr,.int .i64 e'.k,.int .i64 e'.f,.bool e'.neg,.slice e'.aq e'.an e'.ac,.slice e'.cq e'.cn e'.cc,.string e'.m,.slice e'.sq e'.sn e'.sc,.slice q3 d.pon c3,.string d.s.en,.int .i64 d.s.ve,v,.slice none 0 0] 53 (0,0))/\wr.ownsRow (w.heap.size+3) 160 8 v k (L.flatMap Bi.cells)/\v.ownBlock≠some G/\(∀i x,L[i]?=some x->BdA wr (Free (w.heap.size+3) wr G v) (bs i) x)/\SlA wr (Free (w.heap.size+3) wr G v) (.slice q1 d.an c1) nu/\SlA wr (Free (w.heap.size+3) wr G v) (.slice q2 d.cn c2) de/\ExA wr (Free (w.heap.size+3) wr G v) ex e'/\PtsA wr (Free (w.heap.size+3) wr G v) q3 d.pon ps/\Below w.heap.size w wr/\G<wr.heap.size/\wr.heap[w.heap.size+1]?=some (.cells zw21 53 (0,0))/\wr.heap[w.heap.size]?=some (.cells d.ce 53 (0,0))) (fun i _=>d.arn - (intOf i).toNat)
   case atStart=>
    exact⟨0,Nat.zero_le _,rfl,.slice none 0 0,[],rfl,hblk0,World.ownsRow_nil _ _ _ _,by simp[Value.ownBlock],fun i x h=>by simp at h,B1,B2,B3,B4,hWc,hG2,hresc,hboxc⟩
   case round=>
    clear hblk0 hG2 hWc hresc hboxc B1 B2 B3 B4
    obtain⟨k,hk,rfl,v,L,hLk,hblk,hown,hne,hLx,hA1,hA2,hA3,hA4,hbw,hGr,hres,hbox⟩:=hrel
    have hws:=hbw.size
    by_cases hlt:k<d.arn
    ·have hlt':(k:Int)<(d.arn:Int):=by omega
     have hKk:=hBd k hlt
     rcases hb.out with h0 | ⟨b,o,hq,hbb,hcx⟩
     ·omega
     have hx:=rangeAt_below (hcx k hlt) hbw hbb
     clear hcx
     generalize hX:ys k=X at*
     have hbox0:=hbox
     unfold Sd.ce at hbox
     rw[hq] at hbox ⊢
     obtain⟨de',hu',hd'⟩:=bi_row
     have hHu':Hid (Tryz.prog.underlying 160=some de'):=hu'
     clear hu'
     go_wp2_with (first
      | (with_reducible refine wpList_load_mid ?_ 160 (.tmp 44) ?_ b (o+k*8) ?_ [.string X.m,.int .i64 X.ek,.int .i64 X.ef,.bool X.eg,.slice X.eaq X.ean X.eac,.slice X.ecq X.ecn X.ecc,.string X.em,.slice X.esq X.esn X.esc] de' ?_ hHu'.out hd' ?_ ?_
         rotate_left 1
         ·with_reducible rfl
         ·rfl
         ·exact hx
         ·exact ze6
         rotate_left 1
         ·rfl)
      | (with_reducible refine wpList_store_new ?_ 160 (.tmp 7) (.tmp 45) ?_ #[.string X.m,.int .i64 X.ek,.int .i64 X.ef,.bool X.eg,.slice X.eaq X.ean X.eac,.slice X.ecq X.ecn X.ecc,.string X.em,.slice X.esq X.esn X.esc] wr.heap.size rfl ?_ ?_ ?_ ?_ ?_ ?_
         rotate_left 1
         ·with_reducible rfl
         ·rfl
         ·rfl
         ·rfl
         ·exact ze6
         ·exact all_oneCell_toArray (one_bi X)
         rotate_left 1
         ·rfl))
     simp only[Act.put]
     have hT:(fun z=>z.cell? ⟨wr.heap.size,0,none⟩=some (.string X.m)/\z.cell? ⟨wr.heap.size,1,none⟩=some (.int .i64 X.ek)/\z.cell? ⟨wr.heap.size,2,none⟩=some (.int .i64 X.ef)/\z.cell? ⟨wr.heap.size,3,none⟩=some (.bool X.eg)/\z.cell? ⟨wr.heap.size,4,none⟩=some (.slice X.eaq X.ean X.eac)/\z.cell? ⟨wr.heap.size,5,none⟩=some (.slice X.ecq X.ecn X.ecc)/\z.cell? ⟨wr.heap.size,6,none⟩=some (.string X.em)/\z.cell? ⟨wr.heap.size,7,none⟩=some (.slice X.esq X.esn X.esc)) (wr.alloc (.cells #[.string X.m,.int .i64 X.ek,.int .i64 X.ef,.bool X.eg,.slice X.eaq X.ean X.eac,.slice X.ecq X.ecn X.ecc,.string X.em,.slice X.esq X.esn X.esc] 160)):=⟨by simp,by simp,by simp,by simp,by simp,by simp,by simp,by simp⟩
     have hz:Below wr.heap.size wr (wr.alloc (.cells #[.string X.m,.int .i64 X.ek,.int .i64 X.ef,.bool X.eg,.slice X.eaq X.ean X.eac,.slice X.ecq X.ecn X.ecc,.string X.em,.slice X.esq X.esn X.esc] 160)).drew:=(zaa _ _).drew
     have hzs:(wr.alloc (.cells #[.string X.m,.int .i64 X.ek,.int .i64 X.ef,.bool X.eg,.slice X.eaq X.ean X.eac,.slice X.ecq X.ecn X.ecc,.string X.em,.slice X.esq X.esn X.esc] 160)).drew.heap.size=wr.heap.size+1:=by show(wr.heap.push _).size=_;simp
     have hbz:Below w.heap.size w (wr.alloc (.cells #[.string X.m,.int .i64 X.ek,.int .i64 X.ef,.bool X.eg,.slice X.eaq X.ean X.eac,.slice X.ecq X.ecn X.ecc,.string X.em,.slice X.esq X.esn X.esc] 160)).drew:=hbw.trans (hz.mono hbw.size)
     have c6:(wr.alloc (.cells #[.string X.m,.int .i64 X.ek,.int .i64 X.ef,.bool X.eg,.slice X.eaq X.ean X.eac,.slice X.ecq X.ecn X.ecc,.string X.em,.slice X.esq X.esn X.esc] 160)).cell? ⟨G,19,none⟩=some v:=by rw[World.cell?_alloc_lt _ _ _ (by exact hGr),cell_of_row _ _ _ _ _ _ hblk];rfl
     have hrl:=hown.lt
     refine wp_region_held_drew (S:=fun z=>z.cell? ⟨wr.heap.size,0,none⟩=some (.string X.m)/\z.cell? ⟨wr.heap.size,1,none⟩=some (.int .i64 X.ek)/\z.cell? ⟨wr.heap.size,2,none⟩=some (.int .i64 X.ef)/\z.cell? ⟨wr.heap.size,3,none⟩=some (.bool X.eg)/\z.cell? ⟨wr.heap.size,4,none⟩=some (.slice X.eaq X.ean X.eac)/\z.cell? ⟨wr.heap.size,5,none⟩=some (.slice X.ecq X.ecn X.ecc)/\z.cell? ⟨wr.heap.size,6,none⟩=some (.string X.em)/\z.cell? ⟨wr.heap.size,7,none⟩=some (.slice X.esq X.esn X.esc)) (by kernel_rfl) hT (fun hHeld=>?_)
     refine wpAnyH_take (i:=0) (v:=.pointer (some ⟨G,19,none⟩)) rfl (by kernel_rfl) (by kernel_rfl) (by kernel_rfl) (fun _ _ _ h=>h) (.inl ⟨by rfl,fun z hSz=>by go_simp⟩) hHeld ?_
     simp only[Act.put]
     refine wpAnyH_take (i:=2) (v:=.pointer (some ⟨wr.heap.size,0,none⟩)) rfl (by kernel_rfl) (by kernel_rfl) (by kernel_rfl) (fun _ _ _ h=>h) (.inl ⟨by rfl,fun z hSz=>by go_simp⟩) hHeld ?_
     simp only[Act.put]
     refine wpAnyH_take (i:=3) (v:=.string X.m) rfl (by kernel_rfl) (by kernel_rfl) (by kernel_rfl) (fun _ _ _ h=>h) (.inl ⟨by rfl,fun z hSz=>by go_simp⟩) hHeld ?_
     simp only[Act.put]
     refine wpAnyH_take (i:=4) (v:=.pointer (some ⟨wr.heap.size,1,none⟩)) rfl (by kernel_rfl) (by kernel_rfl) (by kernel_rfl) (fun _ _ _ h=>h) (.inl ⟨by rfl,fun z hSz=>by go_simp⟩) hHeld ?_
     simp only[Act.put]
     refine wpAnyH_take (i:=5) (v:=.agg #[.int .i64 X.ek,.int .i64 X.ef,.bool X.eg,.slice X.eaq X.ean X.eac,.slice X.ecq X.ecn X.ecc,.string X.em,.slice X.esq X.esn X.esc]) rfl (by kernel_rfl) (by kernel_rfl) (by kernel_rfl) (fun _ _ _ h=>h) (.inl ⟨by rfl,fun z hSz=>by go_simp⟩) hHeld ?_
     simp only[Act.put]
     refine wpAnyH_ready (rs:=[1,6]) (by kernel_rfl) (by simp) ?_
     refine AllReadyH.cons rfl (fun K hKK=>?w13) (AllReadyH.cons rfl (fun K hKK=>?w14) AllReadyH.nil)
     case' w13=>
      go_simp
      refine hKK.out _ _ hHeld (fun _=>?_)
      clear hKK K
      refine wpAnyH_ready (rs:=[6]) (by kernel_rfl) (by simp) ?_
      refine AllReadyH.cons rfl (fun K hKK=>?_) AllReadyH.nil
      go_simp
      refine(hKk _ hbz).mono ?_
      rintro e w5 ⟨f',rfl,hA51,hb5⟩
      have hs5:=hb5.size
      have hT5:(fun z=>z.cell? ⟨wr.heap.size,0,none⟩=some (.string X.m)/\z.cell? ⟨wr.heap.size,1,none⟩=some (.int .i64 X.ek)/\z.cell? ⟨wr.heap.size,2,none⟩=some (.int .i64 X.ef)/\z.cell? ⟨wr.heap.size,3,none⟩=some (.bool X.eg)/\z.cell? ⟨wr.heap.size,4,none⟩=some (.slice X.eaq X.ean X.eac)/\z.cell? ⟨wr.heap.size,5,none⟩=some (.slice X.ecq X.ecn X.ecc)/\z.cell? ⟨wr.heap.size,6,none⟩=some (.string X.em)/\z.cell? ⟨wr.heap.size,7,none⟩=some (.slice X.esq X.esn X.esc)) w5:=⟨(hb5.cell (by show wr.heap.size<_;omega)).trans hT.1,(hb5.cell (by show wr.heap.size<_;omega)).trans hT.2.1,(hb5.cell (by show wr.heap.size<_;omega)).trans hT.2.2.1,(hb5.cell (by show wr.heap.size<_;omega)).trans hT.2.2.2.1,(hb5.cell (by show wr.heap.size<_;omega)).trans hT.2.2.2.2.1,(hb5.cell (by show wr.heap.size<_;omega)).trans hT.2.2.2.2.2.1,(hb5.cell (by show wr.heap.size<_;omega)).trans hT.2.2.2.2.2.2.1,(hb5.cell (by show wr.heap.size<_;omega)).trans hT.2.2.2.2.2.2.2⟩
      have c65:w5.cell? ⟨G,19,none⟩=some v:=(hb5.cell (by show G<_;omega)).trans c6
      have hown5:w5.ownsRow (w.heap.size+3) 160 8 v k (L.flatMap Bi.cells):=((hown.alloc _).drew).kept (row:=none) ⟨hb5.os,hb5.tape,hb5.output,hb5.size,fun b hb _=>hb5.block b hb⟩ (by cases hv:v.ownBlock with | none=>exact .inl rfl | some _=>exact .inr (by simp))
      refine hKK.out _ _ hT5 (fun hHeld5=>?_)
      clear hKK K
      refine wpAnyH_take (i:=7) (v:=.agg #[.string X.m,.int .i64 f'.k,.int .i64 f'.f,.bool f'.neg,.slice f'.aq f'.an f'.ac,.slice f'.cq f'.cn f'.cc,.string f'.m,.slice f'.sq f'.sn f'.sc]) rfl (by kernel_rfl) (by kernel_rfl) (by kernel_rfl) (fun _ _ _ h=>h) (.inl ⟨by rfl,fun z hSz=>by go_simp⟩) hHeld5 ?_
      simp only[Act.put]
      refine wpAnyH_ready (rs:=[8]) (by kernel_rfl) (by simp) ?_
      refine AllReadyH.cons rfl (fun K hKK=>?_) AllReadyH.nil
      go_simp
      have hT6:(fun z=>z.cell? ⟨wr.heap.size,0,none⟩=some (.string X.m)/\z.cell? ⟨wr.heap.size,1,none⟩=some (.int .i64 X.ek)/\z.cell? ⟨wr.heap.size,2,none⟩=some (.int .i64 X.ef)/\z.cell? ⟨wr.heap.size,3,none⟩=some (.bool X.eg)/\z.cell? ⟨wr.heap.size,4,none⟩=some (.slice X.eaq X.ean X.eac)/\z.cell? ⟨wr.heap.size,5,none⟩=some (.slice X.ecq X.ecn X.ecc)/\z.cell? ⟨wr.heap.size,6,none⟩=some (.string X.em)/\z.cell? ⟨wr.heap.size,7,none⟩=some (.slice X.esq X.esn X.esc)) (w5.alloc (.cells #[.string X.m,.int .i64 f'.k,.int .i64 f'.f,.bool f'.neg,.slice f'.aq f'.an f'.ac,.slice f'.cq f'.cn f'.cc,.string f'.m,.slice f'.sq f'.sn f'.sc] 160)):=⟨(World.cell?_alloc_lt _ _ _ (by show wr.heap.size<_;omega)).trans hT5.1,(World.cell?_alloc_lt _ _ _ (by show wr.heap.size<_;omega)).trans hT5.2.1,(World.cell?_alloc_lt _ _ _ (by show wr.heap.size<_;omega)).trans hT5.2.2.1,(World.cell?_alloc_lt _ _ _ (by show wr.heap.size<_;omega)).trans hT5.2.2.2.1,(World.cell?_alloc_lt _ _ _ (by show wr.heap.size<_;omega)).trans hT5.2.2.2.2.1,(World.cell?_alloc_lt _ _ _ (by show wr.heap.size<_;omega)).trans hT5.2.2.2.2.2.1,(World.cell?_alloc_lt _ _ _ (by show wr.heap.size<_;omega)).trans hT5.2.2.2.2.2.2.1,(World.cell?_alloc_lt _ _ _ (by show wr.heap.size<_;omega)).trans hT5.2.2.2.2.2.2.2⟩
      have c66:(w5.alloc (.cells #[.string X.m,.int .i64 f'.k,.int .i64 f'.f,.bool f'.neg,.slice f'.aq f'.an f'.ac,.slice f'.cq f'.cn f'.cc,.string f'.m,.slice f'.sq f'.sn f'.sc] 160)).cell? ⟨G,19,none⟩=some v:=by rw[World.cell?_alloc_lt _ _ _ (by show G<_;omega)];exact c65
     case' w14=>
      go_simp
      refine(hKk _ hbz).mono ?_
      rintro e w5 ⟨f',rfl,hA51,hb5⟩
      have hs5:=hb5.size
      have hT5:(fun z=>z.cell? ⟨wr.heap.size,0,none⟩=some (.string X.m)/\z.cell? ⟨wr.heap.size,1,none⟩=some (.int .i64 X.ek)/\z.cell? ⟨wr.heap.size,2,none⟩=some (.int .i64 X.ef)/\z.cell? ⟨wr.heap.size,3,none⟩=some (.bool X.eg)/\z.cell? ⟨wr.heap.size,4,none⟩=some (.slice X.eaq X.ean X.eac)/\z.cell? ⟨wr.heap.size,5,none⟩=some (.slice X.ecq X.ecn X.ecc)/\z.cell? ⟨wr.heap.size,6,none⟩=some (.string X.em)/\z.cell? ⟨wr.heap.size,7,none⟩=some (.slice X.esq X.esn X.esc)) w5:=⟨(hb5.cell (by show wr.heap.size<_;omega)).trans hT.1,(hb5.cell (by show wr.heap.size<_;omega)).trans hT.2.1,(hb5.cell (by show wr.heap.size<_;omega)).trans hT.2.2.1,(hb5.cell (by show wr.heap.size<_;omega)).trans hT.2.2.2.1,(hb5.cell (by show wr.heap.size<_;omega)).trans hT.2.2.2.2.1,(hb5.cell (by show wr.heap.size<_;omega)).trans hT.2.2.2.2.2.1,(hb5.cell (by show wr.heap.size<_;omega)).trans hT.2.2.2.2.2.2.1,(hb5.cell (by show wr.heap.size<_;omega)).trans hT.2.2.2.2.2.2.2⟩
      have c65:w5.cell? ⟨G,19,none⟩=some v:=(hb5.cell (by show G<_;omega)).trans c6
      have hown5:w5.ownsRow (w.heap.size+3) 160 8 v k (L.flatMap Bi.cells):=((hown.alloc _).drew).kept (row:=none) ⟨hb5.os,hb5.tape,hb5.output,hb5.size,fun b hb _=>hb5.block b hb⟩ (by cases hv:v.ownBlock with | none=>exact .inl rfl | some _=>exact .inr (by simp))
      refine hKK.out _ _ hT5 (fun hHeld5=>?_)
      clear hKK K
      refine wpAnyH_take (i:=7) (v:=.agg #[.string X.m,.int .i64 f'.k,.int .i64 f'.f,.bool f'.neg,.slice f'.aq f'.an f'.ac,.slice f'.cq f'.cn f'.cc,.string f'.m,.slice f'.sq f'.sn f'.sc]) rfl (by kernel_rfl) (by kernel_rfl) (by kernel_rfl) (fun _ _ _ h=>h) (.inl ⟨by rfl,fun z hSz=>by go_simp⟩) hHeld5 ?_
      simp only[Act.put]
      refine wpAnyH_ready (rs:=[1,8]) (by kernel_rfl) (by simp) ?_
      refine AllReadyH.cons rfl (fun K hKK=>?w15) (AllReadyH.cons rfl (fun K hKK=>?w16) AllReadyH.nil)
      case' w15=>
       go_simp
       refine hKK.out _ _ hT5 (fun _=>?_)
       clear hKK K
       refine wpAnyH_ready (rs:=[8]) (by kernel_rfl) (by simp) ?_
       refine AllReadyH.cons rfl (fun K hKK=>?_) AllReadyH.nil
       go_simp
       have hT6:(fun z=>z.cell? ⟨wr.heap.size,0,none⟩=some (.string X.m)/\z.cell? ⟨wr.heap.size,1,none⟩=some (.int .i64 X.ek)/\z.cell? ⟨wr.heap.size,2,none⟩=some (.int .i64 X.ef)/\z.cell? ⟨wr.heap.size,3,none⟩=some (.bool X.eg)/\z.cell? ⟨wr.heap.size,4,none⟩=some (.slice X.eaq X.ean X.eac)/\z.cell? ⟨wr.heap.size,5,none⟩=some (.slice X.ecq X.ecn X.ecc)/\z.cell? ⟨wr.heap.size,6,none⟩=some (.string X.em)/\z.cell? ⟨wr.heap.size,7,none⟩=some (.slice X.esq X.esn X.esc)) (w5.alloc (.cells #[.string X.m,.int .i64 f'.k,.int .i64 f'.f,.bool f'.neg,.slice f'.aq f'.an f'.ac,.slice f'.cq f'.cn f'.cc,.string f'.m,.slice f'.sq f'.sn f'.sc] 160)):=⟨(World.cell?_alloc_lt _ _ _ (by show wr.heap.size<_;omega)).trans hT5.1,(World.cell?_alloc_lt _ _ _ (by show wr.heap.size<_;omega)).trans hT5.2.1,(World.cell?_alloc_lt _ _ _ (by show wr.heap.size<_;omega)).trans hT5.2.2.1,(World.cell?_alloc_lt _ _ _ (by show wr.heap.size<_;omega)).trans hT5.2.2.2.1,(World.cell?_alloc_lt _ _ _ (by show wr.heap.size<_;omega)).trans hT5.2.2.2.2.1,(World.cell?_alloc_lt _ _ _ (by show wr.heap.size<_;omega)).trans hT5.2.2.2.2.2.1,(World.cell?_alloc_lt _ _ _ (by show wr.heap.size<_;omega)).trans hT5.2.2.2.2.2.2.1,(World.cell?_alloc_lt _ _ _ (by show wr.heap.size<_;omega)).trans hT5.2.2.2.2.2.2.2⟩
       have c66:(w5.alloc (.cells #[.string X.m,.int .i64 f'.k,.int .i64 f'.f,.bool f'.neg,.slice f'.aq f'.an f'.ac,.slice f'.cq f'.cn f'.cc,.string f'.m,.slice f'.sq f'.sn f'.sc] 160)).cell? ⟨G,19,none⟩=some v:=by rw[World.cell?_alloc_lt _ _ _ (by show G<_;omega)];exact c65
      case' w16=>
       go_simp
       have hT6:(fun z=>z.cell? ⟨wr.heap.size,0,none⟩=some (.string X.m)/\z.cell? ⟨wr.heap.size,1,none⟩=some (.int .i64 X.ek)/\z.cell? ⟨wr.heap.size,2,none⟩=some (.int .i64 X.ef)/\z.cell? ⟨wr.heap.size,3,none⟩=some (.bool X.eg)/\z.cell? ⟨wr.heap.size,4,none⟩=some (.slice X.eaq X.ean X.eac)/\z.cell? ⟨wr.heap.size,5,none⟩=some (.slice X.ecq X.ecn X.ecc)/\z.cell? ⟨wr.heap.size,6,none⟩=some (.string X.em)/\z.cell? ⟨wr.heap.size,7,none⟩=some (.slice X.esq X.esn X.esc)) (w5.alloc (.cells #[.string X.m,.int .i64 f'.k,.int .i64 f'.f,.bool f'.neg,.slice f'.aq f'.an f'.ac,.slice f'.cq f'.cn f'.cc,.string f'.m,.slice f'.sq f'.sn f'.sc] 160)):=⟨(World.cell?_alloc_lt _ _ _ (by show wr.heap.size<_;omega)).trans hT5.1,(World.cell?_alloc_lt _ _ _ (by show wr.heap.size<_;omega)).trans hT5.2.1,(World.cell?_alloc_lt _ _ _ (by show wr.heap.size<_;omega)).trans hT5.2.2.1,(World.cell?_alloc_lt _ _ _ (by show wr.heap.size<_;omega)).trans hT5.2.2.2.1,(World.cell?_alloc_lt _ _ _ (by show wr.heap.size<_;omega)).trans hT5.2.2.2.2.1,(World.cell?_alloc_lt _ _ _ (by show wr.heap.size<_;omega)).trans hT5.2.2.2.2.2.1,(World.cell?_alloc_lt _ _ _ (by show wr.heap.size<_;omega)).trans hT5.2.2.2.2.2.2.1,(World.cell?_alloc_lt _ _ _ (by show wr.heap.size<_;omega)).trans hT5.2.2.2.2.2.2.2⟩
       have c66:(w5.alloc (.cells #[.string X.m,.int .i64 f'.k,.int .i64 f'.f,.bool f'.neg,.slice f'.aq f'.an f'.ac,.slice f'.cq f'.cn f'.cc,.string f'.m,.slice f'.sq f'.sn f'.sc] 160)).cell? ⟨G,19,none⟩=some v:=by rw[World.cell?_alloc_lt _ _ _ (by show G<_;omega)];exact c65
       refine hKK.out _ _ hT6 (fun _=>?_)
       clear hKK K
       refine wpAnyH_ready (rs:=[1]) (by kernel_rfl) (by simp) ?_
       refine AllReadyH.cons rfl (fun K hKK=>?_) AllReadyH.nil
       go_simp
     all_goals
      refine hKK.out _ _ hT6 (fun _=>?_)
      clear hKK K
      refine wpAnyH_ready (rs:=[9]) (by kernel_rfl) (by simp) ?_
      refine AllReadyH.cons rfl (fun K hKK=>?_) AllReadyH.nil
      refine step_append_lies _ rfl _ _ 50 rfl (w.heap.size+3) 160 i0 (.agg #[.string ⟨#[]⟩,.int .i64 0,.int .i64 0,.bool false,.slice none 0 0,.slice none 0 0,.string ⟨#[]⟩,.slice none 0 0]) 8 128 Tryz.underlying50 hi hz0 hz1 hz2 rfl (by decide) v k (L.flatMap Bi.cells) rfl (hown5.alloc _) ⟨w5.heap.size,0,none⟩ 1 1 (⟨X.m,f'.k,f'.f,f'.neg,f'.aq,f'.an,f'.ac,f'.cq,f'.cn,f'.cc,f'.m,f'.sq,f'.sn,f'.sc⟩:Bi).cells rfl rfl (World.news_of_block (heap_alloc_last w5 (.cells (⟨X.m,f'.k,f'.f,f'.neg,f'.aq,f'.an,f'.ac,f'.cq,f'.cn,f'.cc,f'.m,f'.sq,f'.sn,f'.sc⟩:Bi).cells.toArray 160))) (one_bi _) (by decide) (by unfold maxLen;omega) (by omega) (by simp;omega) _ rfl ?_
      intro g cap w7 hown7 hgrow7 hat7 hlt7
      have hTne:some wr.heap.size≠v.ownBlock:=fun e=>by have:=(hrl _ e.symm).2;omega
      have hT7:(fun z=>z.cell? ⟨wr.heap.size,0,none⟩=some (.string X.m)/\z.cell? ⟨wr.heap.size,1,none⟩=some (.int .i64 X.ek)/\z.cell? ⟨wr.heap.size,2,none⟩=some (.int .i64 X.ef)/\z.cell? ⟨wr.heap.size,3,none⟩=some (.bool X.eg)/\z.cell? ⟨wr.heap.size,4,none⟩=some (.slice X.eaq X.ean X.eac)/\z.cell? ⟨wr.heap.size,5,none⟩=some (.slice X.ecq X.ecn X.ecc)/\z.cell? ⟨wr.heap.size,6,none⟩=some (.string X.em)/\z.cell? ⟨wr.heap.size,7,none⟩=some (.slice X.esq X.esn X.esc)) w7:=⟨hgrow7.cell hT6.1 hTne,hgrow7.cell hT6.2.1 hTne,hgrow7.cell hT6.2.2.1 hTne,hgrow7.cell hT6.2.2.2.1 hTne,hgrow7.cell hT6.2.2.2.2.1 hTne,hgrow7.cell hT6.2.2.2.2.2.1 hTne,hgrow7.cell hT6.2.2.2.2.2.2.1 hTne,hgrow7.cell hT6.2.2.2.2.2.2.2 hTne⟩
      have c67:w7.cell? ⟨G,19,none⟩=some v:=hgrow7.cell c66 (fun e=>hne e.symm)
      obtain⟨m1,m2,m3,m4,m5,m6,m7,m8⟩:=zau (j:=19) (u:=.slice (some ⟨g,0,none⟩) (k+1) cap) hGr (by omega:(w.heap.size+3)<=wr.heap.size) hz hb5 hgrow7 hat7 hlt7 hrl hne rfl
      have f67:∀j,w7.frozen? ⟨G,j,none⟩=false:=fun j=>frozen_of_row _ _ _ _ _ (m5 _ _ _ hblk)
      refine hKK.out _ _ hT7 (fun hHeld7=>?_)
      clear hKK K
      refine wpAnyH_take (i:=10) (v:=.pointer (some ⟨G,19,none⟩)) rfl (by kernel_rfl) (by kernel_rfl) (by kernel_rfl) (fun _ _ _ h=>h) (.inl ⟨by rfl,fun z hSz=>by go_simp⟩) hHeld7 ?_
      simp only[Act.put]
      refine wpAnyH_ready (rs:=[11]) (by kernel_rfl) (by simp) ?_
      refine AllReadyH.cons rfl (fun K hKK=>?_) AllReadyH.nil
      go_simp
      refine hKK.out _ _ ⟨(World.cell?_setCell_far _ _ _ _ (by show G≠wr.heap.size;omega)).trans hT7.1,(World.cell?_setCell_far _ _ _ _ (by show G≠wr.heap.size;omega)).trans hT7.2.1,(World.cell?_setCell_far _ _ _ _ (by show G≠wr.heap.size;omega)).trans hT7.2.2.1,(World.cell?_setCell_far _ _ _ _ (by show G≠wr.heap.size;omega)).trans hT7.2.2.2.1,(World.cell?_setCell_far _ _ _ _ (by show G≠wr.heap.size;omega)).trans hT7.2.2.2.2.1,(World.cell?_setCell_far _ _ _ _ (by show G≠wr.heap.size;omega)).trans hT7.2.2.2.2.2.1,(World.cell?_setCell_far _ _ _ _ (by show G≠wr.heap.size;omega)).trans hT7.2.2.2.2.2.2.1,(World.cell?_setCell_far _ _ _ _ (by show G≠wr.heap.size;omega)).trans hT7.2.2.2.2.2.2.2⟩ (fun _=>?_)
      clear hKK K
      refine wpAnyH_done (by kernel_rfl) ?_ _
      go_wp2_with fail
      go_roundw
      case rel=>
       refine⟨k+1,by omega,by go_num,.slice (some ⟨g,0,none⟩) (k+1) cap,L++[(⟨X.m,f'.k,f'.f,f'.neg,f'.aq,f'.an,f'.ac,f'.cq,f'.cn,f'.cc,f'.m,f'.sq,f'.sn,f'.sc⟩:Bi)],by simp[hLk],zab (m5 _ _ _ hblk),?_,m6,?_,hA1.keep m1 m2,hA2.keep m1 m2,hA3.keep m1 m2,hA4.keep m1 m2,?_,by omega,?_,?_⟩
       ·rw[List.flatMap_append,List.flatMap_singleton]
        exact zak hown7 m6
       ·intro i x hi
        by_cases hik:i<k
        ·rw[List.getElem?_append_left (by omega)] at hi
         exact(hLx i x hi).keep m1 m2
        ·rw[List.getElem?_append_right (by omega)] at hi
         have hi0:i - L.length=0:=by
          rcases Nat.eq_zero_or_pos (i - L.length) with h | h
          ·exact h
          ·rw[List.getElem?_eq_none (by simp;omega)] at hi
           cases hi
         rw[hi0] at hi
         simp only[List.getElem?_cons_zero,Option.some.injEq] at hi
         subst hi
         have:i=k:=by omega
         subst this
         exact(by have h:=hBeq i hlt;rw[hX] at h;exact⟨h,hA51.keep m3 m4⟩)
       ·refine Below.setCell ?_ (by show w.heap.size<=G;omega) _
        exact((hbz.trans (hb5.mono hbz.size)).alloc (by omega) _).grown hgrow7 (by simp;omega) (fun b hb=>by have:=(hrl b hb).1;omega)
       ·rw[m8 (w.heap.size+1) (by omega) (by omega) (fun e=>by have:=(hrl _ e).1;omega)]
        exact hres
       ·rw[m8 w.heap.size (by omega) (by omega) (fun e=>by have:=(hrl _ e).1;omega)]
        exact hbox0
      case measure=>simp[intOf];omega
    ·have hk2:d.arn=k:=by omega
     have hvf:∃q c,v=.slice q k c:=by
      rcases hown.2 with⟨h,h0⟩ | ⟨g,cp,cur,h,_⟩
      ·exact⟨none,0,by rw[h,h0]⟩
      ·exact⟨_,_,h⟩
     obtain⟨q4,c4,rfl⟩:=hvf
     have hr3':Hid (wr.rangeAt G 0 [.int .i64 d.s.ru,.string d.s.nm,.string d.s.ot,.bool d.s.g,.slice q1 d.an c1,.slice q2 d.cn c2,.int .i64 d.s.kk,.int .i64 d.s.nn,.int .i64 d.s.pr,.int .i64 e'.k,.int .i64 e'.f,.bool e'.neg,.slice e'.aq e'.an e'.ac,.slice e'.cq e'.cn e'.cc,.string e'.m,.slice e'.sq e'.sn e'.sc,.slice q3 d.pon c3,.string d.s.en,.int .i64 d.s.ve,.slice q4 k c4,.slice none 0 0]):=by
      have h:=World.rangeAt_of_block hblk 0 21
      have h':wr.rangeAt G 0 [.int .i64 d.s.ru,.string d.s.nm,.string d.s.ot,.bool d.s.g,.slice q1 d.an c1,.slice q2 d.cn c2,.int .i64 d.s.kk,.int .i64 d.s.nn,.int .i64 d.s.pr,.int .i64 e'.k,.int .i64 e'.f,.bool e'.neg,.slice e'.aq e'.an e'.ac,.slice e'.cq e'.cn e'.cc,.string e'.m,.slice e'.sq e'.sn e'.sc,.slice q3 d.pon c3,.string d.s.en,.int .i64 d.s.ve,.slice q4 k c4,.slice none 0 0]:=by simpa using h
      exact h'
     have hr2':Hid (wr.there (w.heap.size+1) 0 21):=zal hres rfl
     go_wp2_with (first
      | (with_reducible refine wpList_load_mid ?_ 53 (.tmp 3) ?_ G 0 ?_ [.int .i64 d.s.ru,.string d.s.nm,.string d.s.ot,.bool d.s.g,.slice q1 d.an c1,.slice q2 d.cn c2,.int .i64 d.s.kk,.int .i64 d.s.nn,.int .i64 d.s.pr,.int .i64 e'.k,.int .i64 e'.f,.bool e'.neg,.slice e'.aq e'.an e'.ac,.slice e'.cq e'.cn e'.cc,.string e'.m,.slice e'.sq e'.sn e'.sc,.slice q3 d.pon c3,.string d.s.en,.int .i64 d.s.ve,.slice q4 k c4,.slice none 0 0] dd hr3'.out hHu.out hd ?_ ?_
         rotate_left 1
         ·with_reducible rfl
         ·rfl
         ·exact st_size
         rotate_left 1
         ·rfl)
      | (with_reducible refine wpList_store_mid ?_ 53 (.tmp 2) (.tmp 58) ?_ (w.heap.size+1) 0 #[.int .i64 d.s.ru,.string d.s.nm,.string d.s.ot,.bool d.s.g,.slice q1 d.an c1,.slice q2 d.cn c2,.int .i64 d.s.kk,.int .i64 d.s.nn,.int .i64 d.s.pr,.int .i64 e'.k,.int .i64 e'.f,.bool e'.neg,.slice e'.aq e'.an e'.ac,.slice e'.cq e'.cn e'.cc,.string e'.m,.slice e'.sq e'.sn e'.sc,.slice q3 d.pon c3,.string d.s.en,.int .i64 d.s.ve,.slice q4 k c4,.slice none 0 0] ?_ ?_ ?_ ?_ ?_ ?_
         rotate_left 1
         ·with_reducible rfl
         ·rfl
         ·rfl
         ·exact hr2'.out
         ·exact st_size
         ·exact all_oneCell_toArray (zb2 ⟨d.s,q1,d.an,c1,q2,d.cn,c2,e',q3,d.pon,c3,q4,k,c4,none,0,0⟩)
         rotate_left 1
         ·rfl))
     obtain⟨hW8,hs8,hb8⟩:=zae w.heap.size (w.heap.size+1) (by omega) [.int .i64 d.s.ru,.string d.s.nm,.string d.s.ot,.bool d.s.g,.slice q1 d.an c1,.slice q2 d.cn c2,.int .i64 d.s.kk,.int .i64 d.s.nn,.int .i64 d.s.pr,.int .i64 e'.k,.int .i64 e'.f,.bool e'.neg,.slice e'.aq e'.an e'.ac,.slice e'.cq e'.cn e'.cc,.string e'.m,.slice e'.sq e'.sn e'.sc,.slice q3 d.pon c3,.string d.s.en,.int .i64 d.s.ve,.slice q4 k c4,.slice none 0 0] 0 w wr hbw
     have hr8:=World.rangeAt_setCells_same wr (w.heap.size+1) 0 [.int .i64 d.s.ru,.string d.s.nm,.string d.s.ot,.bool d.s.g,.slice q1 d.an c1,.slice q2 d.cn c2,.int .i64 d.s.kk,.int .i64 d.s.nn,.int .i64 d.s.pr,.int .i64 e'.k,.int .i64 e'.f,.bool e'.neg,.slice e'.aq e'.an e'.ac,.slice e'.cq e'.cn e'.cc,.string e'.m,.slice e'.sq e'.sn e'.sc,.slice q3 d.pon c3,.string d.s.en,.int .i64 d.s.ve,.slice q4 k c4,.slice none 0 0] hr2'.out
     change bodyPost _ _ _ _ _ (wr.setCells (w.heap.size+1) 0 [.int .i64 d.s.ru,.string d.s.nm,.string d.s.ot,.bool d.s.g,.slice q1 d.an c1,.slice q2 d.cn c2,.int .i64 d.s.kk,.int .i64 d.s.nn,.int .i64 d.s.pr,.int .i64 e'.k,.int .i64 e'.f,.bool e'.neg,.slice e'.aq e'.an e'.ac,.slice e'.cq e'.cn e'.cc,.string e'.m,.slice e'.sq e'.sn e'.sc,.slice q3 d.pon c3,.string d.s.en,.int .i64 d.s.ve,.slice q4 k c4,.slice none 0 0])
     generalize wr.setCells (w.heap.size+1) 0 [.int .i64 d.s.ru,.string d.s.nm,.string d.s.ot,.bool d.s.g,.slice q1 d.an c1,.slice q2 d.cn c2,.int .i64 d.s.kk,.int .i64 d.s.nn,.int .i64 d.s.pr,.int .i64 e'.k,.int .i64 e'.f,.bool e'.neg,.slice e'.aq e'.an e'.ac,.slice e'.cq e'.cn e'.cc,.string e'.m,.slice e'.sq e'.sn e'.sc,.slice q3 d.pon c3,.string d.s.en,.int .i64 d.s.ve,.slice q4 k c4,.slice none 0 0]=w8 at*
     have hk8:Keeps (Free (w.heap.size+3) wr G (.slice q4 k c4)) wr w8:=fun b hb=>hb8 b (by have:=hb.1;omega)
     have ha8:∀b,Free (w.heap.size+3) wr G (.slice q4 k c4) b->Fresh w w8 b:=fun b hb=>⟨by have:=hb.1;omega,by have:=hb.2.1;omega⟩
     refine bodyPost_ret (zac rfl _ _ (w.heap.size+1) _ dd rfl hr8 hHu.out hd st_size) rfl ?_
     refine⟨q1,c1,q2,c2,e',q3,c3,q4,c4,by rw[hk2],hA1.keep hk8 ha8,hA2.keep hk8 ha8,hA3.keep hk8 ha8,hA4.keep hk8 ha8,⟨by omega,?_⟩,hW8⟩
     by_cases h0:d.arn=0
     ·exact .inl h0
     ·refine .inr ?_
      obtain⟨g,cp,hg,hge,hgl⟩:=hown.form (by omega)
      simp only[Value.slice.injEq] at hg
      obtain⟨rfl,_,rfl⟩:=hg
      refine⟨g,0,rfl,⟨by omega,by omega⟩,fun i=>L.getD i default,fun i hi=>?_⟩
      have hiL:i<L.length:=by omega
      have hgi:L[i]?=some (L.getD i default):=by simp[List.getD,hiL]
      have hc:=zam (s:=8) (f:=Bi.cells) (fun _=>rfl) hown hgi
      have hc8:w8.rangeAt g (0+i*8) (L.getD i default).cells:=fun j u hu=>(World.cell?_of_block (hb8 g (by omega))).trans (hc j u hu)
      exact⟨⟨hc8 0 _ rfl,hc8 1 _ rfl,hc8 2 _ rfl,hc8 3 _ rfl,hc8 4 _ rfl,hc8 5 _ rfl,hc8 6 _ rfl,hc8 7 _ rfl⟩,(hLx i _ hgi).keep hk8 ha8⟩
def StSmall:St->Prop
 | .non=>True
 | .mk _ _ _ x pn _ bn bs n ki=>ExSmall x/\pn<=1048576/\bn<=1048576/\(∀i,i<bn->ExSmall (bs i).x)/\n<=1048576/\∀i,i<n->StSmall (ki i)
def St.bare:St->St
 | .non=>.non
 | .mk s nu de x pn ps bn bs _ _=>.mk s nu de x pn ps bn bs 0 (fun _=>.non)
theorem zch {w:World} {b o:Nat} {d:Va} (h:VaAt w b o d):w.rangeAt b o d.cells:=by
 intro j v hv
 match j,hv with
 | 0,hv=>cases hv;exact h.h0
 | 1,hv=>cases hv;exact h.h1
 | 2,hv=>cases hv;exact h.h2
 | 3,hv=>cases hv;exact h.h3
theorem zci {w:World} {b o:Nat} {d:Bi} (h:BiAt w b o d):w.rangeAt b o d.cells:=by
 intro j v hv
 match j,hv with
 | 0,hv=>cases hv;exact h.h0
 | 1,hv=>cases hv;exact h.h1
 | 2,hv=>cases hv;exact h.h2
 | 3,hv=>cases hv;exact h.h3
 | 4,hv=>cases hv;exact h.h4
 | 5,hv=>cases hv;exact h.h5
 | 6,hv=>cases hv;exact h.h6
 | 7,hv=>cases hv;exact h.h7
theorem ze7 {w:World} {X:St} {d:Sd} (h:StOk w X d) (hs:StSmall X):
  Calls Tryz.prog 121 #[d.val] w fun e w'=>∃D:Sd,e=.returned (.agg #[.int .i64 D.s.ru,.string D.s.nm,.string D.s.ot,.bool D.s.g,.slice D.aq D.an D.ac,.slice D.cq D.cn D.cc,.int .i64 D.s.kk,.int .i64 D.s.nn,.int .i64 D.s.pr,.int .i64 D.e.k,.int .i64 D.e.f,.bool D.e.neg,.slice D.e.aq D.e.an D.e.ac,.slice D.e.cq D.e.cn D.e.cc,.string D.e.m,.slice D.e.sq D.e.sn D.e.sc,.slice D.poq D.pon D.poc,.string D.s.en,.int .i64 D.s.ve,.slice D.arq D.arn D.arc,.slice none 0 0])/\StA w' (Fresh w w') X.bare D/\Below w.heap.size w w':=by
 cases X with
 | non=>exact h.elim
 | mk s nu de x pn ps bn bs n ki=>
  unfold StOk at h
  unfold StSmall at hs
  obtain⟨⟨rfl,rfl,rfl,rfl⟩,h2,h3,h4,h5,h6,h7,h8,h9,h10⟩:=h
  obtain⟨s1,s2,s3,s4,_,_⟩:=hs
  obtain⟨xs,x1,x2⟩:=ptsAt h7
  obtain⟨ys,y1,y2⟩:=bdsAt h8
  refine(zdk ps bs xs ys s2 s3 (fun z hz=>zb9 (h2.below hz) (h3.below hz)) (fun z hz=>zcg x d.e z (h6.below hz) s1)
   (x1.imp id fun⟨b,o,e1,e2,e3⟩=>⟨b,o,e1,e2,fun i hi=>zch (e3 i hi)⟩) (fun i hi=>⟨(x2 i hi).1,(x2 i hi).2.1,(x2 i hi).2.2.2.2.1,(x2 i hi).2.2.2.2.2⟩)
   (fun i hi z hz=>zb9 ((x2 i hi).2.2.1.below hz) ((x2 i hi).2.2.2.1.below hz))
   (y1.imp id fun⟨b,o,e1,e2,e3⟩=>⟨b,o,e1,e2,fun i hi=>zci (e3 i hi)⟩) (fun i hi=>(y2 i hi).1)
   (fun i hi z hz=>zcg (bs i).x (ys i).nd z ((y2 i hi).2.below hz) (s4 i hi))).mono ?_
  rintro e w' ⟨q1,c1,q2,c2,e',q3,c3,q4,c4,rfl,a1,a2,a3,a4,a5,hb⟩
  exact⟨⟨d.s,q1,d.an,c1,q2,d.cn,c2,e',q3,d.pon,c3,q4,d.arn,c4,none,0,0⟩,rfl,⟨⟨rfl,rfl,rfl,rfl⟩,a1,a2,h4,h5,a3,a4,a5,Nat.zero_le _,.inl rfl⟩,hb⟩
theorem ze8 {w:World} {A:Nat->Prop} {X:St} {D:Sd} {q:Option Addr} {n c:Nat} {ki:Nat->St} (h:StA w A X.bare D) (hn:n<=1099511627776)
  (hk:n=0\/∃b,q=some ⟨b,0,none⟩/\A b/\∃es:Nat->Sd,∀i,i<n->w.rangeAt b (0+i*21) (es i).cells/\StA w A (ki i) (es i)):
  ∀s nu de x pn ps bn bs m kj,X=.mk s nu de x pn ps bn bs m kj->StA w A (.mk s nu de x pn ps bn bs n ki) ⟨D.s,D.aq,D.an,D.ac,D.cq,D.cn,D.cc,D.e,D.poq,D.pon,D.poc,D.arq,D.arn,D.arc,q,n,c⟩:=by
 rintro s nu de x pn ps bn bs m kj rfl
 unfold St.bare StA at h
 obtain⟨⟨e1,e2,e3,_⟩,h2,h3,h4,h5,h6,h7,h8,_,_⟩:=h
 exact⟨⟨e1,e2,e3,rfl⟩,h2,h3,h4,h5,h6,h7,h8,hn,hk.imp id fun⟨b,f1,f2,es,f3⟩=>⟨b,0,f1,f2,es,f3⟩⟩
theorem own_ok:∀(X:St) (d:Sd) (w:World),StOk w X d->StSmall X->Calls Tryz.prog 88 #[d.val] w fun e w'=>∃d':Sd,e=.returned d'.val/\StA w' (Fresh w w') X d'/\Below w.heap.size w w':=by
 intro X
 induction X with
 | non=>exact fun d w h=>h.elim
 | mk s nu de x pn ps bn bs n ki ih=>
  intro d w h hs
  have h':=h
  unfold StOk at h
  obtain⟨⟨rfl,rfl,rfl,rfl⟩,h2,h3,h4,h5,h6,h7,h8,h9,h10⟩:=h
  have hs':=hs
  unfold StSmall at hs'
  obtain⟨_,_,_,_,s5,s6⟩:=hs'
  obtain⟨ds,k1,k2⟩:=kidsAt h10
  refine(own_walk (St.bare (.mk d.s nu de x d.pon ps d.arn bs d.kin ki)) ds ki s5 (fun z hz=>ze7 (h'.below hz) hs) k1 (fun i hi z hz=>ih i (ds i) z ((k2 i hi).below hz) (s6 i hi))).mono ?_
  rintro e w' ⟨D,q3,c3,rfl,a0,a1,hb⟩
  exact⟨⟨D.s,D.aq,D.an,D.ac,D.cq,D.cn,D.cc,D.e,D.poq,D.pon,D.poc,D.arq,D.arn,D.arc,q3,d.kin,c3⟩,rfl,ze8 a0 h9 a1 _ _ _ _ _ _ _ _ _ _ rfl,hb⟩
end Go.Proofs.YtfhjhnofkaiceaaGreatDoor
