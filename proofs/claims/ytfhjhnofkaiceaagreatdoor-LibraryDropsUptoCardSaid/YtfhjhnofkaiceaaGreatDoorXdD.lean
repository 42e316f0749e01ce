import Derived.Test.YtfhjhnofkaiceaaGreatDoorXdC
import Derived.Test.YtfhjhnofkaiceaaGreatDoorDvT
import Derived.Deep.RegionLaw
import Derived.Great.BuildSlice
namespace Go.Proofs.YtfhjhnofkaiceaaGreatDoor
open Go Go.RowKit
theorem zea {w w':World} {n:Nat} {cs:Array Value} {t:TypeId} (h:w.heap[n]?=some (.cells cs t (0,0))) (hb:Below w.heap.size w w'):w'.heap[n]?=some (.cells cs t (0,0)):=
 (hb.block n (Array.getElem?_eq_some_iff.1 h).1).trans h
set_option maxRecDepth 100000 in
set_option maxHeartbeats 4000000 in
theorem zev {w:World} {kn:ByteArray} {kv:Int} {C:Cl} {X:St} {X1 cl sd:List Value} (e1:X1=[.string kn,.int .i64 kv]++cl++sd) (lc:cl.length=10) (ls:sd.length=21)
  (hP:∀z,Below w.heap.size w z->Calls Tryz.prog 68 #[.agg sd.toArray,.slice none 0 0] z fun r w'=>∃d':Sd,r=.returned (.tuple #[.agg d'.ce,.bool true])/\StA w' (Fresh z w') X d'/\Below z.heap.size z w')
  (hC:∀z,Below w.heap.size w z->Calls Tryz.prog 69 #[.agg cl.toArray] z fun r w'=>∃D':Cd,r=.returned (.agg #[.int .i64 D'.d.k,.int .i64 D'.d.f,.bool D'.d.neg,.slice D'.d.aq D'.d.an D'.d.ac,.slice D'.d.cq D'.d.cn D'.d.cc,.string D'.d.m,.slice D'.d.sq D'.d.sn D'.d.sc,.bool C.st,.slice D'.bq C.nb D'.bc,.slice D'.cq C.nc D'.cc])/\ClA w' (Fresh z w') C D'/\Below z.heap.size z w'):
  Calls Tryz.prog 49 #[.agg X1.toArray] w fun r w'=>∃(D':Cd) (d':Sd),r=.returned (.agg (enl kn kv C D' d').toArray)/\ClA w' (Fresh w w') C D'/\StA w' (Fresh w w') X d'/\Below w.heap.size w w':=by
 have E1:=hid_of e1
 clear e1
 obtain⟨d1,hu1,hd1⟩:=cl_row
 obtain⟨d2,hu2,hd2⟩:=st_row
 obtain⟨d3,hu3,hd3⟩:=zbe
 have hU1:=hid_of hu1
 have hU2:=hid_of hu2
 have hU3:=hid_of hu3
 clear hu1 hu2 hu3
 go_enter Tryz.func49,Tryz.ntmps49
 go_upto_region 1 with fail
 have hR1:Hid (((w.alloc (.cells X1.toArray 55)).alloc (.cells zw33 55)).rangeAt w.heap.size 0 X1):=World.rangeAt_alloc (range_new w _ 55) _
 have hR2:Hid (((w.alloc (.cells X1.toArray 55)).alloc (.cells zw33 55)).heap[w.heap.size+1]?=some (.cells zw33 55 (0,0))):=by
  have h:=heap_alloc_last (w.alloc (.cells X1.toArray 55)) (.cells zw33 55 (0,0))
  rw[show (w.alloc (.cells X1.toArray 55)).heap.size=w.heap.size+1 by simp] at h
  exact h
 generalize hw1:(w.alloc _).alloc _=w1 at*
 have hW1:Below w.heap.size w w1:=by rw[<-hw1];exact below_two _ _ _
 have hz1:w1.heap.size=w.heap.size+2:=by rw[<-hw1];simp
 clear hw1
 have a0:w1.cell? ⟨w.heap.size,0,none⟩=some (.string kn):=hR1.out 0 _ (show X1[_]?=some _ by rw[E1.out];rfl)
 have a1:w1.cell? ⟨w.heap.size,1,none⟩=some (.int .i64 kv):=hR1.out 1 _ (show X1[_]?=some _ by rw[E1.out];rfl)
 have y1:=zap hR1.out _ _ E1.out
 have y3:=zap hR1.out ([.string kn,.int .i64 kv]++cl) [] (by rw[E1.out,List.append_nil])
 rw[List.length_append,lc] at y3
 have Y1:Hid (w1.rangeAt w.heap.size 2 cl):=y1
 have Y3:Hid (w1.rangeAt w.heap.size 12 sd):=y3
 have A0:=hid_of a0
 have A1:=hid_of a1
 clear y1 y3 hR1 E1 a0 a1
 go_wp2_with (first
  | (with_reducible refine wpList_load_mid ?hg1 53 (.tmp 6) ?ho1 (w.heap.size) 12 ?hx1 sd d2 Y3.out hU2.out hd2 ?hi1 ?_
     case ho1=>with_reducible rfl
     case hg1=>rfl
     case hx1=>rfl
     case hi1=>rw[ls];exact st_size)
  | (go_at_call 68;refine(hP _ hW1).mono ?_;rintro r w2 ⟨d',rfl,hA2,hb2⟩
     have s2:=hb2.size
     have W2:Below w.heap.size w w2:=hW1.trans (hb2.mono hW1.size))
  | (with_reducible refine wpList_store_new ?_ 53 (.tmp 3) (.tmp 9) ?_ d'.ce w2.heap.size rfl ?_ ?_ ?_ ?_ ?_ ?_
     rotate_left 1
     ·with_reducible rfl
     ·rfl
     ·rfl
     ·rfl
     ·exact st_size
     ·exact Sd.one d'
     rotate_left 1
     ·rfl))
 try simp only[Act.put]
 have B3:Below w2.heap.size w2 (w2.alloc (.cells d'.ce 53)):=zaa _ _
 have s3:(w2.alloc (.cells d'.ce 53)).heap.size=w2.heap.size+1:=by simp
 have R3:(w2.alloc (.cells d'.ce 53)).rangeAt w2.heap.size 0 [.int .i64 d'.s.ru,.string d'.s.nm,.string d'.s.ot,.bool d'.s.g,.slice d'.aq d'.an d'.ac,.slice d'.cq d'.cn d'.cc,.int .i64 d'.s.kk,.int .i64 d'.s.nn,.int .i64 d'.s.pr,.int .i64 d'.e.k,.int .i64 d'.e.f,.bool d'.e.neg,.slice d'.e.aq d'.e.an d'.e.ac,.slice d'.e.cq d'.e.cn d'.e.cc,.string d'.e.m,.slice d'.e.sq d'.e.sn d'.e.sc,.slice d'.poq d'.pon d'.poc,.string d'.s.en,.int .i64 d'.s.ve,.slice d'.arq d'.arn d'.arc,.slice d'.kiq d'.kin d'.kic]:=range_new w2 [.int .i64 d'.s.ru,.string d'.s.nm,.string d'.s.ot,.bool d'.s.g,.slice d'.aq d'.an d'.ac,.slice d'.cq d'.cn d'.cc,.int .i64 d'.s.kk,.int .i64 d'.s.nn,.int .i64 d'.s.pr,.int .i64 d'.e.k,.int .i64 d'.e.f,.bool d'.e.neg,.slice d'.e.aq d'.e.an d'.e.ac,.slice d'.e.cq d'.e.cn d'.e.cc,.string d'.e.m,.slice d'.e.sq d'.e.sn d'.e.sc,.slice d'.poq d'.pon d'.poc,.string d'.s.en,.int .i64 d'.s.ve,.slice d'.arq d'.arn d'.arc,.slice d'.kiq d'.kin d'.kic] 53
 generalize (w2.alloc (.cells d'.ce 53))=w3 at*
 have B13:Below w1.heap.size w1 w3:=hb2.trans (B3.mono s2)
 have c0:w3.cell? ⟨w.heap.size,0,none⟩=some (.string kn):=(B13.cell (by show w.heap.size<_;omega)).trans A0.out
 have c1:w3.cell? ⟨w.heap.size,1,none⟩=some (.int .i64 kv):=(B13.cell (by show w.heap.size<_;omega)).trans A1.out
 have g1:w3.rangeAt w.heap.size 2 cl:=rangeAt_below Y1.out B13 (by omega)
 have hS:(fun z=>z.cell? ⟨w.heap.size,0,none⟩=some (.string kn)/\z.cell? ⟨w.heap.size,1,none⟩=some (.int .i64 kv)/\z.rangeAt w.heap.size 2 cl/\z.rangeAt w2.heap.size 0 [.int .i64 d'.s.ru,.string d'.s.nm,.string d'.s.ot,.bool d'.s.g,.slice d'.aq d'.an d'.ac,.slice d'.cq d'.cn d'.cc,.int .i64 d'.s.kk,.int .i64 d'.s.nn,.int .i64 d'.s.pr,.int .i64 d'.e.k,.int .i64 d'.e.f,.bool d'.e.neg,.slice d'.e.aq d'.e.an d'.e.ac,.slice d'.e.cq d'.e.cn d'.e.cc,.string d'.e.m,.slice d'.e.sq d'.e.sn d'.e.sc,.slice d'.poq d'.pon d'.poc,.string d'.s.en,.int .i64 d'.s.ve,.slice d'.arq d'.arn d'.arc,.slice d'.kiq d'.kin d'.kic]) w3:=⟨c0,c1,g1,R3⟩
 have hblk:w3.heap[w.heap.size+1]?=some (.cells zw33 55 (0,0)):=zea hR2.out B13
 have W3:Below w.heap.size w w3:=W2.trans (B3.mono W2.size)
 have k5:Hid (∀z,Below w3.heap.size w3 z->(fun z=>z.cell? ⟨w.heap.size,0,none⟩=some (.string kn)/\z.cell? ⟨w.heap.size,1,none⟩=some (.int .i64 kv)/\z.rangeAt w.heap.size 2 cl/\z.rangeAt w2.heap.size 0 [.int .i64 d'.s.ru,.string d'.s.nm,.string d'.s.ot,.bool d'.s.g,.slice d'.aq d'.an d'.ac,.slice d'.cq d'.cn d'.cc,.int .i64 d'.s.kk,.int .i64 d'.s.nn,.int .i64 d'.s.pr,.int .i64 d'.e.k,.int .i64 d'.e.f,.bool d'.e.neg,.slice d'.e.aq d'.e.an d'.e.ac,.slice d'.e.cq d'.e.cn d'.e.cc,.string d'.e.m,.slice d'.e.sq d'.e.sn d'.e.sc,.slice d'.poq d'.pon d'.poc,.string d'.s.en,.int .i64 d'.s.ve,.slice d'.arq d'.arn d'.arc,.slice d'.kiq d'.kin d'.kic]) z):=fun z hb=>⟨(hb.cell (by show w.heap.size<_;omega)).trans c0,(hb.cell (by show w.heap.size<_;omega)).trans c1,rangeAt_below g1 hb (by omega),rangeAt_below R3 hb (by omega)⟩
 have hblk':=hid_of hblk
 have hS':=hid_of hS
 clear c0 c1 g1 R3 A0 A1 Y1 Y3 hR2 hblk hS hP
 refine wp_region_held_drew (S:=fun z=>z.cell? ⟨w.heap.size,0,none⟩=some (.string kn)/\z.cell? ⟨w.heap.size,1,none⟩=some (.int .i64 kv)/\z.rangeAt w.heap.size 2 cl/\z.rangeAt w2.heap.size 0 [.int .i64 d'.s.ru,.string d'.s.nm,.string d'.s.ot,.bool d'.s.g,.slice d'.aq d'.an d'.ac,.slice d'.cq d'.cn d'.cc,.int .i64 d'.s.kk,.int .i64 d'.s.nn,.int .i64 d'.s.pr,.int .i64 d'.e.k,.int .i64 d'.e.f,.bool d'.e.neg,.slice d'.e.aq d'.e.an d'.e.ac,.slice d'.e.cq d'.e.cn d'.e.cc,.string d'.e.m,.slice d'.e.sq d'.e.sn d'.e.sc,.slice d'.poq d'.pon d'.poc,.string d'.s.en,.int .i64 d'.s.ve,.slice d'.arq d'.arn d'.arc,.slice d'.kiq d'.kin d'.kic]) (by kernel_rfl) hS'.out (fun hHeld=>?_)
 obtain⟨z0,hz0⟩:∃v,v=w3.drew:=⟨_,rfl⟩
 have Gz:Below w3.heap.size w3 z0:=by rw[hz0];exact(Below.refl _ _).drew
 rw[<-hz0] at hHeld ⊢
 clear hz0
 refine wpAnyH_take (i:=0) (v:=.pointer (some ⟨w.heap.size,0,none⟩)) rfl (by kernel_rfl) (by kernel_rfl) (by kernel_rfl) (fun _ _ _ h=>h) (.inl ⟨by rfl,fun z hSz=>by go_simp⟩) hHeld ?_
 simp only[Act.put]
 refine wpAnyH_take (i:=1) (v:=.string kn) rfl (by kernel_rfl) (by kernel_rfl) (by kernel_rfl) (fun _ _ _ h=>h) (.inl ⟨by rfl,fun z hSz=>by go_simp⟩) hHeld ?_
 simp only[Act.put]
 refine wpAnyH_take (i:=2) (v:=.pointer (some ⟨w.heap.size,1,none⟩)) rfl (by kernel_rfl) (by kernel_rfl) (by kernel_rfl) (fun _ _ _ h=>h) (.inl ⟨by rfl,fun z hSz=>by go_simp⟩) hHeld ?_
 simp only[Act.put]
 refine wpAnyH_take (i:=3) (v:=.int .i64 kv) rfl (by kernel_rfl) (by kernel_rfl) (by kernel_rfl) (fun _ _ _ h=>h) (.inl ⟨by rfl,fun z hSz=>by go_simp⟩) hHeld ?_
 simp only[Act.put]
 refine wpAnyH_take (i:=4) (v:=.pointer (some ⟨w.heap.size,2,none⟩)) rfl (by kernel_rfl) (by kernel_rfl) (by kernel_rfl) (fun _ _ _ h=>h) (.inl ⟨by rfl,fun z hSz=>by go_simp⟩) hHeld ?_
 simp only[Act.put]
 refine wpAnyH_take (i:=5) (oi:=?op5x6) (v:=.agg cl.toArray) ?ta5x6 ?tb5x6 ?tc5x6 ?td5x6 ?tq5x6 ?ty5x6 hHeld ?_
 case ta5x6=>rfl
 case tb5x6=>kernel_rfl
 case tc5x6=>kernel_rfl
 case td5x6=>kernel_rfl
 case tq5x6=>exact fun _ _ _ h=>h
 case ty5x6=>
  refine yieldsIf_load_mid ?tw5x6 48 (.tmp 15) ?to5x6 (w.heap.size) 2 ?tx5x6 cl d1 (fun z hz=>hz.2.2.1) hU1.out hd1 (by rw[lc];exact zcp)
  case tw5x6=>kernel_rfl
  case to5x6=>rfl
  case tx5x6=>kernel_rfl
 simp only[Act.put,List.getElem_toArray,List.getElem_cons_succ,List.getElem_cons_zero,List.setIfInBounds_toArray,List.set_cons_zero,List.set_cons_succ]
 refine wpAnyH_take (i:=7) (oi:=?op7x7) (v:=.agg d'.ce) ?ta7x7 ?tb7x7 ?tc7x7 ?td7x7 ?tq7x7 ?ty7x7 hHeld ?_
 case ta7x7=>rfl
 case tb7x7=>kernel_rfl
 case tc7x7=>kernel_rfl
 case td7x7=>kernel_rfl
 case tq7x7=>exact fun _ _ _ h=>h
 case ty7x7=>
  refine yieldsIf_load_mid ?tw7x7 53 (.tmp 3) ?to7x7 (w2.heap.size) 0 ?tx7x7 [.int .i64 d'.s.ru,.string d'.s.nm,.string d'.s.ot,.bool d'.s.g,.slice d'.aq d'.an d'.ac,.slice d'.cq d'.cn d'.cc,.int .i64 d'.s.kk,.int .i64 d'.s.nn,.int .i64 d'.s.pr,.int .i64 d'.e.k,.int .i64 d'.e.f,.bool d'.e.neg,.slice d'.e.aq d'.e.an d'.e.ac,.slice d'.e.cq d'.e.cn d'.e.cc,.string d'.e.m,.slice d'.e.sq d'.e.sn d'.e.sc,.slice d'.poq d'.pon d'.poc,.string d'.s.en,.int .i64 d'.s.ve,.slice d'.arq d'.arn d'.arc,.slice d'.kiq d'.kin d'.kic] d2 (fun z hz=>hz.2.2.2) hU2.out hd2 (st_size)
  case tw7x7=>kernel_rfl
  case to7x7=>rfl
  case tx7x7=>kernel_rfl
 simp only[Act.put,List.getElem_toArray,List.getElem_cons_succ,List.getElem_cons_zero,List.setIfInBounds_toArray,List.set_cons_zero,List.set_cons_succ]
 refine wpAnyH_ready (rs:=[6]) (by kernel_rfl) (by simp) ?_
 refine AllReadyH.cons rfl ?_ AllReadyH.nil
 intro K' hKK
 go_simp
 refine(hC _ (W3.trans (Gz.mono W3.size))).mono ?_
 rintro r w4 ⟨D',rfl,hA4,hb4⟩
 have B4:Below w3.heap.size w3 w4:=Gz.trans (hb4.mono Gz.size)
 have H1:=k5.out _ B4
 refine hKK.out _ _ H1 (fun hHeld4=>?_)
 clear hKK K' H1
 refine wpAnyH_take (i:=8) (v:=.agg (enl kn kv C D' d').toArray) rfl (by kernel_rfl) (by kernel_rfl) (by kernel_rfl) (fun _ _ _ h=>h) (.inl ⟨by rfl,fun z hSz=>by go_simp⟩) hHeld4 ?_
 simp only[Act.put]
 have hb9:w4.heap[w.heap.size+1]?=some (.cells zw33 55 (0,0)):=zea hblk'.out B4
 have th:w4.there (w.heap.size+1) 0 33:=zal hb9 rfl
 have s4:=B4.size
 have W4:Below w.heap.size w w4:=W3.trans (B4.mono W3.size)
 obtain⟨gs1,gs2,gs3⟩:=zae w.heap.size (w.heap.size+1) (by omega) (enl kn kv C D' d') 0 w w4 W4
 have R9:=World.rangeAt_setCells_same w4 (w.heap.size+1) 0 (enl kn kv C D' d') th
 have hcl:∀j:Nat,(w4.setCells (w.heap.size+1) 0 (enl kn kv C D' d')).cell? ⟨w.heap.size,j,none⟩=w4.cell? ⟨w.heap.size,j,none⟩:=fun j=>World.cell?_of_block (gs3 w.heap.size (by omega))
 have hcl2:∀j:Nat,(w4.setCells (w.heap.size+1) 0 (enl kn kv C D' d')).cell? ⟨w2.heap.size,j,none⟩=w4.cell? ⟨w2.heap.size,j,none⟩:=fun j=>World.cell?_of_block (gs3 w2.heap.size (by omega))
 have H4:=k5.out _ B4
 have H9:(fun z=>z.cell? ⟨w.heap.size,0,none⟩=some (.string kn)/\z.cell? ⟨w.heap.size,1,none⟩=some (.int .i64 kv)/\z.rangeAt w.heap.size 2 cl/\z.rangeAt w2.heap.size 0 [.int .i64 d'.s.ru,.string d'.s.nm,.string d'.s.ot,.bool d'.s.g,.slice d'.aq d'.an d'.ac,.slice d'.cq d'.cn d'.cc,.int .i64 d'.s.kk,.int .i64 d'.s.nn,.int .i64 d'.s.pr,.int .i64 d'.e.k,.int .i64 d'.e.f,.bool d'.e.neg,.slice d'.e.aq d'.e.an d'.e.ac,.slice d'.e.cq d'.e.cn d'.e.cc,.string d'.e.m,.slice d'.e.sq d'.e.sn d'.e.sc,.slice d'.poq d'.pon d'.poc,.string d'.s.en,.int .i64 d'.s.ve,.slice d'.arq d'.arn d'.arc,.slice d'.kiq d'.kin d'.kic]) (w4.setCells (w.heap.size+1) 0 (enl kn kv C D' d')):=⟨(hcl 0).trans H4.1,(hcl 1).trans H4.2.1,fun j v hv=>(hcl _).trans (H4.2.2.1 j v hv),fun j v hv=>(hcl2 _).trans (H4.2.2.2 j v hv)⟩
 have hk4:Keeps (fun b=>w.heap.size+2<=b) w4 (w4.setCells (w.heap.size+1) 0 (enl kn kv C D' d')):=fun b hb=>gs3 b (by omega)
 have Q1:ClA (w4.setCells (w.heap.size+1) 0 (enl kn kv C D' d')) (Fresh w (w4.setCells (w.heap.size+1) 0 (enl kn kv C D' d'))) C D':=by
  refine hA4.keep (hk4.mono fun b hb=>?_) (fun b hb=>?_)
  ·have h1:=hb.1
   have h2:=Gz.size
   omega
  ·have h1:=hb.1
   have h2:=hb.2
   have h3:=Gz.size
   exact⟨by omega,by rw[gs2];exact h2⟩
 have Q2:StA (w4.setCells (w.heap.size+1) 0 (enl kn kv C D' d')) (Fresh w (w4.setCells (w.heap.size+1) 0 (enl kn kv C D' d'))) X d':=by
  refine StA.keep (A:=Fresh w1 w2) (((zah (B3.trans (B4.mono B3.size))).mono fun b hb=>hb.2).trans (hk4.mono fun b hb=>?_)) (fun b hb=>?_) hA2
  ·have h1:=hb.1
   omega
  ·have h1:=hb.1
   have h2:=hb.2
   exact⟨by omega,by rw[gs2];omega⟩
 refine wpAnyH_ready (rs:=[9]) (by kernel_rfl) (by simp) ?_
 refine AllReadyH.cons rfl ?_ AllReadyH.nil
 intro K' hKK
 rw[if_pos (by rfl)]
 refine wp_store_mid 55 (.tmp 2) (.tmp 19) rfl (w.heap.size+1) 0 (enl kn kv C D' d').toArray rfl rfl th (by kernel_rfl) (by simp[Value.oneCell']) ?_
 refine hKK.out _ _ H9 (fun _=>?_)
 clear hKK K' H9 H4 hcl hcl2
 refine wpAnyH_done (by kernel_rfl) ?_ _
 try simp only[Act.put,List.getElem_toArray,List.getElem_cons_succ,List.getElem_cons_zero,List.setIfInBounds_toArray,List.set_cons_zero,List.set_cons_succ]
 go_wp2_with fail
 generalize w4.setCells (w.heap.size+1) 0 (enl kn kv C D' d')=w9 at*
 refine bodyPost_ret (zac rfl _ _ (w.heap.size+1) _ d3 rfl R9 hU3.out hd3 zag) rfl ?_
 exact⟨D',d',rfl,Q1,Q2,gs1⟩
theorem own49_ok {w:World} {e:Ent} {D:Cd} {d:Sd} (h1:ClOk w e.C D) (s1:ClSmall e.C) (h2:StOk w e.X d) (s2:StSmall e.X):
  Calls Tryz.prog 49 #[.agg (e.cells D d).toArray] w fun r w'=>∃D' d',r=.returned (.agg (e.cells D' d').toArray)/\ClA w' (Fresh w w') e.C D'/\StA w' (Fresh w w') e.X d'/\Below w.heap.size w w':=by
 refine zev (kn:=e.k.1) (kv:=e.k.2) (cl:=e.C.cells D) (sd:=d.cells) rfl rfl rfl (fun z hz=>?_) (fun z hz=>zdx (h1.below hz) s1)
 have hp:PaOk z none 0 []:=⟨rfl,by omega,.inl rfl⟩
 refine(pick_ok (c:=0) (h2.below hz) s2 hp).mono ?_
 rintro r w' (⟨h,_⟩ | ⟨Y,d',hY,rfl,_,hA,hb⟩)
 ·simp[St.pick] at h
 ·simp only[St.pick,Option.some.injEq] at hY
  subst hY
  exact⟨d',rfl,hA,hb⟩
end Go.Proofs.YtfhjhnofkaiceaaGreatDoor
namespace Go.Proofs.YtfhjhnofkaiceaaGreatDoor
open Go Go.RowKit
theorem en_info:(Tryz.prog.info? 55).map (fun i=>(i.size,i.bytes))=some (33,520):=by kernel_rfl
theorem zb6:(Builtin.zeroCells (Value.agg zw33).cells 1).toList.length=33:=by kernel_rfl
theorem zb7:∀v∈(Builtin.zeroCells (Value.agg zw33).cells 1).toList,v.oneCell'=true:=by
 have h:((Builtin.zeroCells (Value.agg zw33).cells 1).toList.all fun v=>v.oneCell')=true:=by kernel_rfl
 exact List.all_eq_true.1 h
theorem zcu {w:World} {b:Nat} {cur:Array Value} (hblk:w.heap[b]?=some (.cells cur 55 (0,0))) (j:Nat):w.cell? ⟨b,j,none⟩=cur[j]?:=by simp[World.cell?,hblk]
theorem blk_fr {w:World} {b:Nat} {cur:Array Value} (hblk:w.heap[b]?=some (.cells cur 55 (0,0))) (j:Nat):w.frozen? ⟨b,j,none⟩=false:=by simp[World.frozen?,hblk]
set_option maxHeartbeats 2000000 in
set_option maxRecDepth 100000 in
theorem zfw {w:World} {b L cap i:Nat} {cur:Array Value} (hblk:w.heap[b]?=some (.cells cur 55 (0,0))) (hcs:cur.size=cap*33) (hn:L+1<=cap) (hm:cap<=9223372036854775807) (hi:i<L+1)
  (h1:∀u∈cur.toList.take ((L+1)*33),u.oneCell'=true):
  Calls Tryz.prog 36 #[.slice (some ⟨b,0,none⟩) (L+1) cap,.int .i64 i,.int .i64 ((i:Int)+1)] w fun e w'=>e=.returned (.slice (some ⟨b,0,none⟩) L cap)/\
   (∀k,k<L->∀cs:List Value,cs.length=33->w.rangeAt b ((if k<i then k else k+1)*33) cs->w'.rangeAt b (k*33) cs)/\(∀g,g≠b->w'.heap[g]?=w.heap[g]?)/\(∀B,B<=b->B<=w.heap.size->Below B w w'):=by
 obtain⟨i0,hi0,hz1,hz2⟩:∃i0,Tryz.prog.info? 55=some i0/\i0.size=33/\i0.bytes=520:=by
  have h:=en_info
  rw[Option.map_eq_some_iff] at h
  obtain⟨x,h1,h2⟩:=h
  exact⟨x,h1,by simpa using congrArg Prod.fst h2,by simpa using congrArg Prod.snd h2⟩
 obtain⟨mv,hmv⟩:∃mv,mv=(cur.toList.take ((L+1)*33)).drop ((i+1)*33):=⟨_,rfl⟩
 have ml:mv.length=(L - i)*33:=by
  rw[hmv,List.length_drop,List.length_take,Array.length_toList,hcs,Nat.min_eq_left (Nat.mul_le_mul_right _ hn)]
  omega
 have mget:∀j u,mv[j]?=some u->w.cell? ⟨b,(i+1)*33+j,none⟩=some u:=by
  intro j u hu
  rw[hmv,List.getElem?_drop,List.getElem?_take] at hu
  rw[zcu hblk]
  split at hu
  ·simpa using hu
  ·cases hu
 have mone:Hid (∀u∈mv,u.oneCell'=true):=fun u hu=>h1 u (by rw[hmv] at hu;exact List.mem_of_mem_drop hu)
 have hhas:∀j,j<cap*33->(w.cell? ⟨b,j,none⟩).isSome=true/\w.frozen? ⟨b,j,none⟩=false:=fun j hj=>by
  rw[zcu hblk,blk_fr hblk]
  exact⟨by rw[Array.getElem?_eq_getElem (by omega)];rfl,rfl⟩
 have hlt:b<w.heap.size:=(Array.getElem?_eq_some_iff.1 hblk).1
 obtain⟨A,hA,hnews⟩:∃A:Addr,(if cap=i+1 then some (⟨b,0,none⟩:Addr) else some ⟨b,(i+1)*33,none⟩)=some A/\Hid (∀j u,mv[j]?=some u->w.drew.cell? (A.add j)=some u):=by
  by_cases h:cap=i+1
  ·refine⟨⟨b,0,none⟩,by simp[h],fun j u hu=>?_⟩
   have h0:mv.length=0:=by rw[ml];omega
   rw[List.length_eq_zero_iff.1 h0] at hu
   simp at hu
  ·refine⟨⟨b,(i+1)*33,none⟩,by simp[h],fun j u hu=>?_⟩
   rw[Addr.add_lit]
   exact mget j u hu
 have s1:Hid (mv.length=(L - i)*33):=ml
 have s3:Hid (∀j,j<mv.length->(w.drew.cell? ⟨b,0+i*33+j,none⟩).isSome=true/\w.drew.frozen? ⟨b,0+i*33+j,none⟩=false):=by
  intro j hj
  rw[ml] at hj
  exact hhas (0+i*33+j) (by omega)
 have hL:i+(L - i)=L:=by omega
 have hiL:i<=L:=by omega
 have hic:i<=cap:=by omega
 have hwr:IntKind.i64.wrap ((i:Int)+1)=(i:Int)+1:=by rw[IntKind.wrap_i64];omega
 have hp0:(0:Int)<=(i:Int)+1:=by omega
 have hp1:(i:Int)+1<=((L+1:Nat):Int):=by omega
 have hp2:((i:Int)+1).toNat=i+1:=by omega
 have hp3:((i:Int)==(i:Int)+1)=false:=by simp;omega
 have hp4:¬(i:Int)=(i:Int)+1:=by omega
 have hmg:=hid_of mget
 have hH:=hid_of hhas
 have hml:=hid_of ml
 have hmve:=hid_of hmv
 clear mget hhas ml hmv h1 hblk
 go_enter Tryz.func36,Tryz.ntmps36
 go_wp2_with fail
 go_region_law (refine step_append_room rfl (.tmp 22) (.tmp 25) 22 rfl 55 i0 33 Tryz.underlying22 hi0 hz1 b 0 i cap (by simp[Act.eval,Act.put]) A (L - i) (cap - (i+1)) mv (by simp[Act.eval,Act.put]) s1.out hnews.out mone.out (by omega) s3.out ?_)
 have hcL:¬cap=L:=by omega
 have hl1:L+1 - L=1:=by omega
 generalize hw2:w.drew.setCells b (i*33) mv=w2
 have hg2:∀g,g≠b->w2.heap[g]?=w.heap[g]?:=by
  rw[<-hw2]
  exact(zae 0 b (Nat.zero_le _) mv (i*33) w.drew w.drew (Below.refl _ _)).2.2
 obtain⟨zs,hzs⟩:∃zs,zs=(Builtin.zeroCells (Value.agg zw33).cells 1).toList:=⟨_,rfl⟩
 have zl:zs.length=33:=by rw[hzs];exact zb6
 have zo:∀v∈zs,v.oneCell'=true:=by rw[hzs];exact zb7
 have th2:w.drew.there b (i*33) mv.length:=fun j hj=>by
  have h:=hH.out (i*33+j) (by rw[hml.out] at hj;omega)
  exact h
 have h2:∀j,j<cap*33->(w2.cell? ⟨b,j,none⟩).isSome=true/\w2.frozen? ⟨b,j,none⟩=false:=by
  intro j hj
  have h:=hH.out j hj
  have t1:w.drew.there b j 1:=fun l hl=>by
   obtain rfl:l=0:=by omega
   exact h
  have t2:=World.there_setCells t1 b (i*33) mv
  rw[hw2] at t2
  have:=t2 0 (by omega)
  simpa using this
 have hclr:∀ty,(Builtin.clear_ #[22] ty #[.slice (some ⟨b,L*33,none⟩) 1 (cap - L)]).run Tryz.prog w2=.ok (.tuple #[]) (w2.setCells b (L*33) zs):=fun ty=>by
  have h:=zbn w2 22 55 ty _ Tryz.underlying22 Tryz.zeroValue55 b (L*33) 1 (cap - L) (by omega) (fun j hj=>(h2 (L*33+j) (by rw[zb6] at hj;omega)).1) (fun j hj=>(h2 (L*33+j) (by rw[zb6] at hj;omega)).2) zb7
  rw[<-hzs] at h
  exact h
 have R2:w2.rangeAt b (i*33) mv:=by rw[<-hw2];exact World.rangeAt_setCells_same _ _ _ _ th2
 have ap2:∀(o:Nat) (cs:List Value),o+cs.length<=i*33->w.rangeAt b o cs->w2.rangeAt b o cs:=fun o cs ho h=>by
  rw[<-hw2]
  exact World.rangeAt_setCells_apart (w:=w.drew) h b (i*33) mv (.inr (.inl ho))
 have hbw2:∀B,B<=b->B<=w.heap.size->Below B w w2/\w2.heap.size=w.heap.size:=fun B hB hBw=>by
  rw[<-hw2]
  have:=zae B b hB mv (i*33) w w.drew (Below.refl B w).drew
  exact⟨this.1,this.2.1⟩
 have hget:∀k j u,i<=k->k<L->j<33->w.cell? ⟨b,(k+1)*33+j,none⟩=some u->mv[(k - i)*33+j]?=some u:=by
  intro k j u hik hk hj hu
  have hlen:(k - i)*33+j<mv.length:=by rw[hml.out];omega
  have h:=hmg.out _ _ (List.getElem?_eq_getElem hlen)
  rw[show (i+1)*33+((k - i)*33+j)=(k+1)*33+j by omega,hu] at h
  rw[List.getElem?_eq_getElem hlen]
  exact h.symm
 have R2':=hid_of R2
 have ap2':=hid_of ap2
 have hbw2':=hid_of hbw2
 have hget':=hid_of hget
 have hg2':=hid_of hg2
 clear R2 ap2 hbw2 hget h2 hzs zo th2 hw2 hg2
 go_wp2_with fail
 go_ret
 obtain⟨_,hs9,hg9⟩:=zae 0 b (Nat.zero_le _) zs (L*33) w2 w2 (Below.refl _ _)
 refine⟨rfl,fun k hk cs lc hr=>?_,fun g hg=>(hg9 g hg).trans (hg2'.out g hg),fun B hB hBw=>?_⟩
 ·refine World.rangeAt_setCells_apart ?_ b (L*33) zs (.inr (.inl (by rw[lc];omega)))
  by_cases hki:k<i
  ·rw[if_pos hki] at hr
   exact ap2'.out _ _ (by rw[lc];omega) hr
  ·rw[if_neg hki] at hr
   intro j u hu
   have hj:j<33:=by rw[<-lc];exact(List.getElem?_eq_some_iff.1 hu).1
   have h:=R2'.out _ _ (hget'.out k j u (by omega) hk hj (hr j u hu))
   rwa [show i*33+((k - i)*33+j)=k*33+j by omega] at h
 ·obtain⟨a1,a2⟩:=hbw2'.out B hB hBw
  exact(zae B b hB zs (L*33) w w2 a1).1
end Go.Proofs.YtfhjhnofkaiceaaGreatDoor
namespace Go.Proofs.YtfhjhnofkaiceaaGreatDoor
open Go Go.RowKit
def FreeR (w0:Nat) (wr:World) (v:Value) (b:Nat):Prop:=w0<=b/\b<wr.heap.size/\v.ownBlock≠some b
theorem grow_row {w0 g n c:Nat} {wr z w5 w7:World} {v u:Value} {ob:Obj} (hw0:w0<=wr.heap.size) (hz:Below wr.heap.size wr z) (h5:Below z.heap.size z w5) (hg:(w5.alloc ob).grownBy w7 v.ownBlock) (hat:v.ownBlock=some g\/g=(w5.alloc ob).heap.size)
  (hrow:∀k,v.ownBlock=some k->w0<=k/\k<wr.heap.size) (hu:u=.slice (some ⟨g,0,none⟩) n c):
  Keeps (FreeR w0 wr v) wr w7/\(∀b,FreeR w0 wr v b->FreeR w0 w7 u b)/\Keeps (Fresh z w5) w5 w7/\(∀b,Fresh z w5 b->FreeR w0 w7 u b)/\wr.heap.size<=w7.heap.size:=by
 have s1:=hz.size
 have s2:=h5.size
 have s3:(w5.alloc ob).heap.size=w5.heap.size+1:=by simp
 have s4:=hg.size
 have hown:u.ownBlock=some g:=by rw[hu];rfl
 have hgb:∀b,b<w5.heap.size->v.ownBlock≠some b->g≠b:=by
  intro b hb hv hgb
  rcases hat with h | h
  ·exact hv (by rw[h,hgb])
  ·omega
 have back:∀b,b<w5.heap.size->v.ownBlock≠some b->w7.heap[b]?=w5.heap[b]?:=by
  intro b hb hv
  rw[hg.block b (by omega) (fun e=>hv e.symm),Below.heap_alloc _ _ _ hb]
 have old:∀b,b<wr.heap.size->v.ownBlock≠some b->w7.heap[b]?=wr.heap[b]?:=by
  intro b hb hv
  rw[back b (by omega) hv,h5.block b (by omega),hz.block b hb]
 have fr:∀b,Fresh z w5 b->v.ownBlock≠some b:=by
  intro b hb e
  have h1:=hb.1
  have:=hrow b e
  omega
 refine⟨fun b hb=>old b hb.2.1 hb.2.2,fun b hb=>?_,fun b hb=>back b hb.2 (fr b hb),fun b hb=>?_,by omega⟩
 ·obtain⟨h1,h2,h3⟩:=hb
  refine⟨h1,by omega,?_⟩
  rw[hown]
  exact fun e=>hgb b (by omega) h3 (Option.some.inj e)
 ·have h1:=hb.1
  have h2:=hb.2
  refine⟨by omega,by omega,?_⟩
  rw[hown]
  exact fun e=>hgb b h2 (fr b hb) (Option.some.inj e)
theorem za6 {ops:Array Oper} {rest:List Oper} {o:Oper} {a:Act} {w:World} {Q:Exit->Act->World->Prop} (hg:o.guard=none) (x:Operand) (ho:o.op=.buildSlice 22 1 #[(0,x)]) (y:List Value) (ly:y.length=33) (hx:a.eval x=.agg y.toArray)
  (h:wpList Tryz.prog ops Q rest (a.put o.dst (.slice (some ⟨w.heap.size,0,none⟩) 1 1)) (w.alloc (.cells y.toArray 55))):wpList Tryz.prog ops Q (o::rest) a w:=by
 obtain⟨ie,hie,hz,hs⟩:∃ie,Tryz.prog.info? 55=some ie/\(∃z,ie.zero=some z)/\ie.size=33:=by
  have h:(Tryz.prog.info? 55).map (fun i=>(i.zero.isSome,i.size))=some (true,33):=by kernel_rfl
  rw[Option.map_eq_some_iff] at h
  obtain⟨ie,h1,h2⟩:=h
  exact⟨ie,h1,Option.isSome_iff_exists.1 (by simpa using congrArg Prod.fst h2),by simpa using congrArg Prod.snd h2⟩
 obtain⟨z,hz⟩:=hz
 refine wpList_buildSlice hg 22 55 1 #[(0,x)] ho y.toArray ie z Tryz.underlying22 hie hz (by rw[hs];decide) (by rw[hs];decide) ?_ h
 have hf:=Great.fill_whole (s:=33) (by decide) [Value.agg y.toArray] ((Array.range (1*33)).map (z.cells[·% z.cells.size]!)) (by simp[Value.cells,ly]) (by simp)
 rw[hs]
 simpa [hx,Value.cells] using hf
def entC (p:Ent × Cd × Sd):List Value:=p.1.cells p.2.1 p.2.2
def EtA (w:World) (A:Nat->Prop) (p:Ent × Cd × Sd):Prop:=ClA w A p.1.C p.2.1/\StA w A p.1.X p.2.2
def AllE (w:World) (B:Nat) (v:Value) (es:Nat->Ent) (L:List (Ent × Cd × Sd)):Prop:=∀i p,L[i]?=some p->p.1=es i/\EtA w (FreeR B w v) p
theorem EtA.keep {w w':World} {A A':Nat->Prop} (hk:Keeps A w w') (ha:∀b,A b->A' b) {p:Ent × Cd × Sd} (h:EtA w A p):EtA w' A' p:=⟨h.1.keep hk ha,h.2.keep hk ha⟩
set_option maxHeartbeats 4000000 in
set_option maxRecDepth 100000 in
theorem all_walk {w:World} {q:Option Addr} {n c:Nat} (es:Nat->Ent) (x:Nat->List Value) (hn:n<=1048576) (lx:∀i,i<n->(x i).length=33) (ox:∀i,i<n->∀u∈x i,u.oneCell'=true)
  (h1:n=0\/∃b o,q=some ⟨b,o,none⟩/\b<w.heap.size/\∀i,i<n->w.rangeAt b (o+i*33) (x i))
  (hO:∀i,i<n->∀z,Below w.heap.size w z->Calls Tryz.prog 49 #[.agg (x i).toArray] z fun r w'=>∃D' d',r=.returned (.agg ((es i).cells D' d').toArray)/\ClA w' (Fresh z w') (es i).C D'/\StA w' (Fresh z w') (es i).X d'/\Below z.heap.size z w'):
  Calls Tryz.prog 35 #[.slice q n c] w fun r w'=>∃(v:Value) (L:List (Ent × Cd × Sd)),r=.returned v/\L.length=n/\w'.ownsRow w.heap.size 55 33 v n (L.flatMap entC)/\AllE w' w.heap.size v es L/\Below w.heap.size w w':=by
 have H1:=hid_of h1
 clear h1
 obtain⟨dd,hu,hd⟩:=zbe
 have hHu:=hid_of hu
 clear hu
 obtain⟨i0,hi,hz0,hz1,hz2⟩:=info_parts (show(Tryz.prog.info? 55).map (fun i=>(i.zero,i.size,i.bytes))=some (some (.agg zw33),33,520) by kernel_rfl)
 have hz0':=hid_of hz0
 clear hz0
 go_enter Tryz.func35,Tryz.ntmps35
 go_wp2_with fail
 go_loopw [3,8] (fun x i wr=>∃(k:Nat) (v:Value),k<=n/\i=.int .i64 k/\x=v/\∃L:List (Ent × Cd × Sd),L.length=k/\wr.ownsRow w.heap.size 55 33 v k (L.flatMap entC)/\AllE wr w.heap.size v es L/\Below w.heap.size w wr) (fun _ i _=>n - (intOf i).toNat)
 case atStart=>exact⟨0,_,Nat.zero_le _,rfl,rfl,[],rfl,World.ownsRow_nil _ _ _ _,fun i p h=>by simp at h,Below.refl _ _⟩
 case round=>
  obtain⟨k,v,hk,rfl,hvu,L,hLk,hown,hLx,hbw⟩:=hrel
  have hvu':=hvu.symm
  subst hvu'
  have hws:=hbw.size
  by_cases hlt:k<n
  ·have hlt':(k:Int)<(n:Int):=by omega
   rcases H1.out with h0 | ⟨b,o,rfl,hbb,hcx⟩
   ·omega
   have hx:=hid_of (rangeAt_below (hcx k hlt) hbw hbb)
   have hOk:=hO k hlt
   have lk:=lx k hlt
   have ok:=ox k hlt
   have hrl:=hown.lt
   clear hcx
   generalize x k=xk at*
   have hLx':=hid_of hLx
   have ok':=hid_of ok
   clear hLx ok
   go_wp2_with (first
    | (with_reducible refine wpList_load_mid ?_ 55 (.tmp 10) ?_ b (o+k*33) ?_ xk dd hx.out hHu.out hd ?_ ?_
       rotate_left 1
       ·with_reducible rfl
       ·rfl
       ·rw[lk];exact zag
       rotate_left 1
       ·rfl)
    | (with_reducible refine wpList_store_new ?_ 55 (.tmp 5) (.tmp 11) ?_ xk.toArray wr.heap.size rfl ?_ ?_ ?_ ?_ ?_ ?_
       rotate_left 1
       ·with_reducible rfl
       ·rfl
       ·rfl
       ·rw[show xk.toArray.size=33 by simp[lk]];rfl
       ·rw[show xk.toArray.size=33 by simp[lk]];exact zag
       ·exact all_oneCell_toArray ok'.out
       rotate_left 1
       ·rfl)
    | (with_reducible refine wpList_load_mid ?_ 55 (.tmp 5) ?_ wr.heap.size 0 ?_ xk dd (range_new wr xk 55) hHu.out hd ?_ ?_
       rotate_left 1
       ·with_reducible rfl
       ·rfl
       ·rw[lk];exact zag
       rotate_left 1
       ·rfl)
    | (go_at_call 49;refine(hOk _ (hbw.trans ((zaa wr _).mono hws))).mono ?_;rintro r w5 ⟨D',d',rfl,hA1,hA2,hb5⟩
       have ly:((es k).cells D' d').length=33:=rfl
       have oy:=hid_of (Ent.one (es k) D' d')
       have hs5:wr.heap.size<w5.heap.size:=Nat.lt_of_lt_of_le (by simp) hb5.size
       have hA:Hid (EtA w5 (Fresh (wr.alloc (.cells xk.toArray 55)) w5) (es k,D',d')):=⟨hA1,hA2⟩
       clear hA1 hA2
       generalize hy:(es k).cells D' d'=y at*
       have hown5:w5.ownsRow w.heap.size 55 33 v k (L.flatMap entC):=(hown.alloc _).kept (row:=none) ⟨hb5.os,hb5.tape,hb5.output,hb5.size,fun b hb _=>hb5.block b hb⟩ (by cases hv:v.ownBlock with | none=>exact .inl rfl | some _=>exact .inr (by simp)))
    | (with_reducible refine za6 ?_ (.tmp 14) ?_ y ly ?_ ?_
       rotate_left 1
       ·with_reducible rfl
       ·rfl
       rotate_left 1
       ·rfl)
    | (at_builtin;(refine wpList_append_lies _ rfl _ _ 22 rfl w.heap.size 55 i0 _ 33 520 Tryz.underlying22 hi hz0'.out hz1 hz2 rfl (by decide) v k (L.flatMap entC) rfl (hown5.alloc _) ⟨w5.heap.size,0,none⟩ 1 1 y rfl (by simp[ly]) (World.news_of_block (heap_alloc_last w5 (.cells y.toArray 55))) oy.out (by decide) (by unfold maxLen;omega) (by omega) (by simp;omega) _ rfl ?_;intro g cap w7 hown7 hgrow7 hat7 hlt7)))
   have hzz:Below wr.heap.size wr (wr.alloc (.cells xk.toArray 55)):=zaa _ _
   obtain⟨m1,m2,m3,m4,m5⟩:=grow_row (u:=.slice (some ⟨g,0,none⟩) (k+1) cap) hws hzz hb5 hgrow7 hat7 hrl rfl
   go_roundw
   case rel=>
    refine⟨k+1,_,by omega,by go_num,rfl,L++[(es k,D',d')],by simp[hLk],?_,?_,?_⟩
    ·rw[List.flatMap_append,List.flatMap_singleton]
     show w7.ownsRow w.heap.size 55 33 _ (k+1) (L.flatMap entC++(es k).cells D' d')
     rw[hy]
     exact hown7
    ·intro i p hp
     by_cases hik:i<k
     ·rw[List.getElem?_append_left (by omega)] at hp
      exact⟨(hLx'.out i p hp).1,(hLx'.out i p hp).2.keep m1 m2⟩
     ·rw[List.getElem?_append_right (by omega)] at hp
      have hi0:i - L.length=0:=by
       rcases Nat.eq_zero_or_pos (i - L.length) with h | h
       ·exact h
       ·rw[List.getElem?_eq_none (by simp;omega)] at hp
        cases hp
      rw[hi0] at hp
      simp only[List.getElem?_cons_zero,Option.some.injEq] at hp
      subst hp
      have:i=k:=by omega
      subst this
      exact⟨rfl,hA.out.keep m3 m4⟩
    ·exact(((hbw.trans (hzz.mono hws)).trans (hb5.mono (by simp;omega))).alloc (by omega) _).grown hgrow7 (by simp;omega) (fun b hb=>(hrl b hb).1)
   case measure=>simp[intOf];omega
  ·have hk2:n=k:=by omega
   have hnk:¬(k:Int)<(n:Int):=by omega
   subst hk2
   have hown':=hid_of hown
   have hLx':=hid_of hLx
   clear hown hLx
   go_wp2_with fail
   go_ret
   exact⟨v,rfl,L,hLk,hown'.out,hLx'.out,hbw⟩
def LbA (w:World) (q:Option Addr) (n:Nat) (es:Nat->Ent):Prop:=
 n<=1048576/\(n=0\/∃b o,q=some ⟨b,o,none⟩/\b<w.heap.size/\∃(Ds:Nat->Cd) (ds:Nat->Sd),∀i,i<n->w.rangeAt b (o+i*33) ((es i).cells (Ds i) (ds i))/\ClOk w (es i).C (Ds i)/\StOk w (es i).X (ds i))
theorem LbA.below {w w':World} (hb:Below w.heap.size w w') {q:Option Addr} {n:Nat} {es:Nat->Ent} (h:LbA w q n es):LbA w' q n es:=by
 refine⟨h.1,h.2.imp id ?_⟩
 rintro⟨b,o,e,hlt,Ds,ds,hds⟩
 exact⟨b,o,e,Nat.lt_of_lt_of_le hlt hb.size,Ds,ds,fun i hi=>⟨rangeAt_below (hds i hi).1 hb hlt,(hds i hi).2.1.below hb,(hds i hi).2.2.below hb⟩⟩
def LbSmall (n:Nat) (es:Nat->Ent):Prop:=∀i,i<n->ClSmall (es i).C/\StSmall (es i).X
theorem all_ok {w:World} {q:Option Addr} {n:Nat} (c:Nat) {es:Nat->Ent} (h:LbA w q n es) (hs:LbSmall n es):
  Calls Tryz.prog 35 #[.slice q n c] w fun r w'=>∃(v:Value) (L:List (Ent × Cd × Sd)),r=.returned v/\L.length=n/\w'.ownsRow w.heap.size 55 33 v n (L.flatMap entC)/\AllE w' w.heap.size v es L/\Below w.heap.size w w':=by
 obtain⟨hn,h2⟩:=h
 have:∃(Ds:Nat->Cd) (ds:Nat->Sd),(n=0\/∃b o,q=some ⟨b,o,none⟩/\b<w.heap.size/\∀i,i<n->w.rangeAt b (o+i*33) ((es i).cells (Ds i) (ds i)))/\∀i,i<n->ClOk w (es i).C (Ds i)/\StOk w (es i).X (ds i):=by
  rcases h2 with h0 | ⟨b,o,e,hlt,Ds,ds,hds⟩
  ·exact⟨fun _=>⟨default,none,0,none,0⟩,default,.inl h0,fun i hi=>by omega⟩
  ·exact⟨Ds,ds,.inr ⟨b,o,e,hlt,fun i hi=>(hds i hi).1⟩,fun i hi=>(hds i hi).2⟩
 obtain⟨Ds,ds,k1,k2⟩:=this
 exact all_walk es (fun i=>(es i).cells (Ds i) (ds i)) hn (fun i _=>rfl) (fun i _=>Ent.one _ _ _) k1 (fun i hi z hz=>own49_ok ((k2 i hi).1.below hz) (hs i hi).1 ((k2 i hi).2.below hz) (hs i hi).2)
end Go.Proofs.YtfhjhnofkaiceaaGreatDoor
namespace Go.Proofs.YtfhjhnofkaiceaaGreatDoor
open Go Go.RowKit
def skip (i t:Nat):Nat:=if t<i then t else t+1
def cnt (i k:Nat):Nat:=if k<=i then k else k - 1
def rest (x:Nat->List Value) (i m:Nat):List Value:=(List.range m).flatMap fun t=>x (skip i t)
theorem zfx (x:Nat->List Value) (i m:Nat):rest x i (m+1)=rest x i m++x (skip i m):=by
 unfold rest
 rw[List.range_succ,List.flatMap_append,List.flatMap_singleton]
theorem cnt_eq (i:Nat):cnt i (i+1)=cnt i i:=by
 unfold cnt
 simp
theorem cnt_ne {i k:Nat} (h:k≠i):cnt i (k+1)=cnt i k+1/\skip i (cnt i k)=k:=by
 unfold cnt skip
 constructor
 ·split<;>split<;>omega
 ·split<;>split<;>omega
theorem cnt_le (i k:Nat):cnt i k<=k:=by
 unfold cnt
 split<;>omega
theorem cnt_last {i n:Nat} (h:i<n):cnt i n=n - 1:=by
 unfold cnt
 split<;>omega
def RdP (B:Nat) (x:Nat->List Value) (i n:Nat) (gd:Prop) (e:Ending) (w':World):Prop:=
 (e=.returned (.tuple #[.slice none 0 0,.int .i64 91])/\¬gd)\/∃v,e=.returned (.tuple #[v,.int .i64 0])/\gd/\w'.ownsRow B 55 33 v (n - 1) (rest x i (n - 1))
set_option maxHeartbeats 8000000 in
set_option maxRecDepth 100000 in
theorem zew {w:World} {q:Option Addr} {n c i:Nat} {k0:Ky} {lat:Int} {G:Bool} {gd:Prop} (hgd:gd↔(G=true/\¬k0.2<lat)) (P:Nat->Bool) (x pf:Nat->List Value) (hn:n<=1048576) (hi:i<n) (lx:∀j,j<n->(x j).length=33) (ox:∀j,j<n->∀u∈x j,u.oneCell'=true) (lp:∀j,j<n->(pf j).length=21)
  (hpf:∀j,j<n->∀(z:World) (g:Nat),z.rangeAt g 0 (x j)->z.rangeAt g 12 (pf j))
  (hx:∃b o,q=some ⟨b,o,none⟩/\b<w.heap.size/\∀j,j<n->w.rangeAt b (o+j*33) (x j))
  (hU:∀j,j<n->∀z,Below w.heap.size w z->Calls Tryz.prog 38 #[.agg (pf j).toArray] z fun e w'=>∃q2 m2 c2,e=.returned (.slice q2 m2 c2)/\Below z.heap.size z w'/\∀z',Below w'.heap.size w' z'->Calls Tryz.prog 37 #[.slice q2 m2 c2,.agg #[.string k0.1,.int .i64 k0.2]] z' fun e' w''=>e'=.returned (.bool (P j))/\Below z'.heap.size z' w'')
  (hG:G=true↔∀j,j<n->j≠i->P j=false)
  (h8:∀z,Below w.heap.size w z->Calls Tryz.prog 8 #[.slice q n c,.agg #[.string k0.1,.int .i64 k0.2]] z fun e w'=>e=.returned (.tuple #[.int .i64 i,.bool true])/\Below z.heap.size z w')
  (h10:∀z,Below w.heap.size w z->Calls Tryz.prog 10 #[.slice q n c,.string k0.1] z fun e w'=>e=.returned (.int .i64 lat)/\Below z.heap.size z w'):
  Calls Tryz.prog 16 #[.slice q n c,.agg #[.string k0.1,.int .i64 k0.2]] w fun e w'=>RdP (w.heap.size+1) x i n gd e w'/\Below w.heap.size w w':=by
 obtain⟨b,o,rfl,hbb,hcx⟩:=hx
 obtain⟨dd,hu,hd⟩:=zbe
 have hHu:=hid_of hu
 obtain⟨dk,hku,hkd⟩:=zd7
 have hHk:=hid_of hku
 obtain⟨d3,hu3,hd3⟩:=st_row
 have hH3:=hid_of hu3
 have hcx':=hid_of hcx
 have hG':=hid_of hG
 have hU':=hid_of hU
 have hgd':=hid_of hgd
 clear hu hku hu3 hcx hG hU hgd
 obtain⟨i0,hii,hz0,hz1,hz2⟩:=info_parts (show(Tryz.prog.info? 55).map (fun i=>(i.zero,i.size,i.bytes))=some (some (.agg zw33),33,520) by kernel_rfl)
 have hz0':=hid_of hz0
 clear hz0
 have hb0:Below w.heap.size w (w.alloc (.cells #[.string k0.1,.int .i64 k0.2] 24)):=zaa _ _
 have kr0:=hid_of (range_new w (kcells k0) 24)
 have hsa:(w.alloc (.cells #[.string k0.1,.int .i64 k0.2] 24)).heap.size=w.heap.size+1:=by simp
 go_enter Tryz.func16,Tryz.ntmps16
 go_wp2_with (go_at_call 8;refine(h8 _ hb0).mono ?_;rintro e w5 ⟨rfl,hb5⟩
              have W5:Below w.heap.size w w5:=hb0.trans (hb5.mono (by omega))
              have k5:w5.rangeAt w.heap.size 0 (kcells k0):=rangeAt_below kr0.out hb5 (by show _<(w.alloc (.cells #[.string k0.1,.int .i64 k0.2] 24)).heap.size;omega)
              have z5:w.heap.size+1<=w5.heap.size:=by have:=hb5.size;omega)
 have k5':=hid_of k5
 clear k5 hb5 hb0 kr0 h8
 go_loopw [8,21] (fun y i' wr=>∃(k:Nat) (v:Value),k<=n/\i'=.int .i64 k/\y=v/\wr.ownsRow (w.heap.size+1) 55 33 v (cnt i k) (rest x i (cnt i k))/\Hid (∀j,j<k->j≠i->P j=false)/\Below w.heap.size w wr/\Hid (wr.rangeAt w.heap.size 0 (kcells k0))/\w.heap.size+1<=wr.heap.size) (fun _ i' _=>n - (intOf i').toNat)
 case atStart=>exact⟨0,_,Nat.zero_le _,rfl,rfl,by unfold cnt;simp only[Nat.zero_le,if_true];exact World.ownsRow_nil _ _ _ _,fun j hj=>by omega,W5,k5',z5⟩
 case round=>
  obtain⟨k,v,hk,rfl,hvu,hown,hPk,hbw,hkr,hz⟩:=hrel
  have hvu':=hvu.symm
  subst hvu'
  clear k5' z5 W5
  have hws:=hbw.size
  by_cases hlt:k<n
  ·have hlt':(k:Int)<(n:Int):=by omega
   have hxk:=hid_of (rangeAt_below (hcx'.out k hlt) hbw hbb)
   have lk:=lx k hlt
   have ok':=hid_of (ox k hlt)
   have lpk:=lp k hlt
   have hpk:=hid_of (hpf k hlt)
   have hUk:=hid_of (hU'.out k hlt)
   have hrl:=hid_of hown.lt
   have hown':=hid_of hown
   have hcl:=cnt_le i k
   have hPv:=hid_of (rfl:P k=P k)
   have hkey:Hid (k≠i->x (skip i (cnt i k))=x k):=fun h=>by rw[(cnt_ne h).2]
   clear hown lx ox lp hpf
   generalize hxx:x k=xk at*
   generalize pf k=pk at*
   obtain⟨wa,hwa⟩:∃wa,wa=wr.alloc (.cells xk.toArray 55):=⟨_,rfl⟩
   have E0:Hid (wa.rangeAt wr.heap.size 0 xk):=by rw[hwa];exact range_new _ _ _
   have B1:Hid (wa.rangeAt w.heap.size 0 (kcells k0)):=by rw[hwa];exact World.rangeAt_alloc hkr.out _
   have hb2:Below w.heap.size w wa:=by rw[hwa];exact hbw.alloc hws _
   have hba:Below wr.heap.size wr wa:=by rw[hwa];exact zaa _ _
   have hza:wa.heap.size=wr.heap.size+1:=by rw[hwa];simp
   have hwa':=hid_of hwa
   clear hwa
   by_cases hki:k=i
   ·subst hki
    go_wp2_with (first
   | (with_reducible refine wpList_load_mid ?_ 55 (.tmp 24) ?_ b (o+k*33) ?_ xk dd hxk.out hHu.out hd ?_ ?_
      rotate_left 1
      ·with_reducible rfl
      ·rfl
      ·rw[lk];exact zag
      rotate_left 1
      ·rfl)
   | (with_reducible refine wpList_store_new ?_ 55 (.tmp 10) (.tmp 25) ?_ xk.toArray wr.heap.size rfl ?_ ?_ ?_ ?_ ?_ ?_
      rotate_left 1
      ·with_reducible rfl
      ·rfl
      ·rfl
      ·rw[show xk.toArray.size=33 by simp[lk]];rfl
      ·rw[show xk.toArray.size=33 by simp[lk]];exact zag
      ·exact all_oneCell_toArray ok'.out
      rotate_left 1
      ·rfl))
    rw[<-hwa'.out]
    go_roundw
    case rel=>
     refine⟨k+1,_,by omega,by go_num,rfl,?_,fun j hj hjk=>hPk.out j (by omega) hjk,hb2,B1,by omega⟩
     rw[cnt_eq,hwa'.out]
     exact hown'.out.alloc _
    case measure=>simp[intOf];omega
   ·have hki':¬(k:Int)=(i:Int):=by omega
    have hkb:((k:Int)==(i:Int))=false:=by simp[hki']
    go_wp2_with (first
   | (with_reducible refine wpList_load_mid ?_ 55 (.tmp 24) ?_ b (o+k*33) ?_ xk dd hxk.out hHu.out hd ?_ ?_
      rotate_left 1
      ·with_reducible rfl
      ·rfl
      ·rw[lk];exact zag
      rotate_left 1
      ·rfl)
   | (with_reducible refine wpList_store_new ?_ 55 (.tmp 10) (.tmp 25) ?_ xk.toArray wr.heap.size rfl ?_ ?_ ?_ ?_ ?_ ?_
      rotate_left 1
      ·with_reducible rfl
      ·rfl
      ·rfl
      ·rw[show xk.toArray.size=33 by simp[lk]];rfl
      ·rw[show xk.toArray.size=33 by simp[lk]];exact zag
      ·exact all_oneCell_toArray ok'.out
      rotate_left 1
      ·rfl))
    rw[<-hwa'.out]
    try simp only[Act.put]
    refine wp_region_held_drew (S:=fun z=>z.rangeAt wr.heap.size 0 xk/\z.rangeAt w.heap.size 0 (kcells k0)) (by kernel_rfl) (by exact⟨E0.out,B1.out⟩) (fun hHeld=>?_)
    refine wpAnyH_take (i:=0) (v:=.pointer (some ⟨wr.heap.size,12,none⟩)) rfl (by kernel_rfl) (by kernel_rfl) (by kernel_rfl) (fun _ _ _ h=>h) (.inl ⟨by rfl,fun z hSz=>by go_simp⟩) hHeld ?_
    simp only[Act.put]
    refine wpAnyH_take (i:=1) (oi:=?op1x2) (v:=.agg pk.toArray) ?ta1x2 ?tb1x2 ?tc1x2 ?td1x2 ?tq1x2 ?ty1x2 hHeld ?_
    case ta1x2=>rfl
    case tb1x2=>kernel_rfl
    case tc1x2=>kernel_rfl
    case td1x2=>kernel_rfl
    case tq1x2=>exact fun _ _ _ h=>h
    case ty1x2=>
     refine yieldsIf_load_mid ?tw1x2 53 (.tmp 29) ?to1x2 (wr.heap.size) 12 ?tx1x2 pk d3 (fun z hz=>hpk.out z _ hz.1) hH3.out hd3 (by rw[lpk];exact st_size)
     case tw1x2=>kernel_rfl
     case to1x2=>rfl
     case tx1x2=>kernel_rfl
    simp only[Act.put,List.getElem_toArray,List.getElem_cons_succ,List.getElem_cons_zero,List.setIfInBounds_toArray,List.set_cons_zero,List.set_cons_succ]
    refine wpAnyH_take (i:=3) (oi:=?op3x3) (v:=.agg (kcells k0).toArray) ?ta3x3 ?tb3x3 ?tc3x3 ?td3x3 ?tq3x3 ?ty3x3 hHeld ?_
    case ta3x3=>rfl
    case tb3x3=>kernel_rfl
    case tc3x3=>kernel_rfl
    case td3x3=>kernel_rfl
    case tq3x3=>exact fun _ _ _ h=>h
    case ty3x3=>
     refine yieldsIf_load_mid ?tw3x3 24 (.tmp 3) ?to3x3 (w.heap.size) 0 ?tx3x3 (kcells k0) dk (fun z hz=>hz.2) hHk.out hkd (zct)
     case tw3x3=>kernel_rfl
     case to3x3=>rfl
     case tx3x3=>kernel_rfl
    simp only[Act.put,List.getElem_toArray,List.getElem_cons_succ,List.getElem_cons_zero,List.setIfInBounds_toArray,List.set_cons_zero,List.set_cons_succ]
    refine wpAnyH_ready (rs:=[2]) (by kernel_rfl) (by simp) ?_
    refine AllReadyH.cons rfl ?_ AllReadyH.nil
    intro K' hKK
    go_simp
    refine(hUk.out _ hb2.drew).mono ?_
    rintro e w2 ⟨q2,m2,c2,rfl,hb3,hCC⟩
    have hb3':Below wa.heap.size wa w2:=zan hb3
    have B2:w2.rangeAt w.heap.size 0 (kcells k0):=rangeAt_below B1.out hb3' (by omega)
    have E2:w2.rangeAt wr.heap.size 0 xk:=rangeAt_below E0.out hb3' (by omega)
    refine hKK.out _ _ ⟨E2,B2⟩ (fun _=>?_)
    clear hKK K'
    refine wpAnyH_ready (rs:=[4]) (by kernel_rfl) (by simp) ?_
    refine AllReadyH.cons rfl ?_ AllReadyH.nil
    intro K' hKK
    go_simp
    refine(hCC _ (Below.refl _ _)).mono ?_
    rintro e w3 ⟨rfl,hb4⟩
    have hb5:Below wa.heap.size wa w3:=hb3'.trans (hb4.mono hb3'.size)
    have hs5:=hb5.size
    have B3:w3.rangeAt w.heap.size 0 (kcells k0):=rangeAt_below B1.out hb5 (by omega)
    have E3:w3.rangeAt wr.heap.size 0 xk:=rangeAt_below E0.out hb5 (by omega)
    refine hKK.out _ _ ⟨E3,B3⟩ (fun _=>?_)
    clear hKK K'
    refine wpAnyH_done (by kernel_rfl) ?_ _
    have W3:Below w.heap.size w w3:=hb2.trans (hb5.mono hb2.size)
    have hwr3:Below wr.heap.size wr w3:=hba.trans (hb5.mono hba.size)
    have B3':=hid_of B3
    have E3':=hid_of E3
    clear B2 E2 B3 E3 hb3 hb3' hb4 hCC B1 E0
    cases hp:P k with
    | true=>
     go_wp2_with fail
     go_ret2
     have hGf:¬G=true:=fun h=>by
      have:=(hG'.out.1 h) k hlt hki
      rw[hp] at this
      cases this
     exact⟨.inl ⟨rfl,fun h=>hGf (hgd'.out.1 h).1⟩,W3⟩
    | false=>
     have hown3:w3.ownsRow (w.heap.size+1) 55 33 v (cnt i k) (rest x i (cnt i k)):=hown'.out.kept (row:=none) ⟨hwr3.os,hwr3.tape,hwr3.output,hwr3.size,fun b hb _=>hwr3.block b hb⟩ (by cases hv:v.ownBlock with | none=>exact .inl rfl | some _=>exact .inr (by simp))
     have hsr:wr.heap.size<w3.heap.size:=by omega
     go_wp2_with (first
      | (with_reducible refine wpList_load_mid ?_ 55 (.tmp 10) ?_ wr.heap.size 0 ?_ xk dd E3'.out hHu.out hd ?_ ?_
         rotate_left 1
         ·with_reducible rfl
         ·rfl
         ·rw[lk];exact zag
         rotate_left 1
         ·rfl)
      | (with_reducible refine za6 ?_ (.tmp 35) ?_ xk lk ?_ ?_
         rotate_left 1
         ·with_reducible rfl
         ·rfl
         rotate_left 1
         ·rfl)
      | (at_builtin;(refine wpList_append_lies _ rfl _ _ 22 rfl (w.heap.size+1) 55 i0 _ 33 520 Tryz.underlying22 hii hz0'.out hz1 hz2 rfl (by decide) v (cnt i k) (rest x i (cnt i k)) rfl (hown3.alloc _) ⟨w3.heap.size,0,none⟩ 1 1 xk rfl (by simp[lk]) (World.news_of_block (heap_alloc_last w3 (.cells xk.toArray 55))) ok'.out (by decide) (by unfold maxLen;omega) (by omega) (by simp;omega) _ rfl ?_;intro g cap w7 hown7 hgrow7 hat7 hlt7)))
     have s7:=hgrow7.size
     have s7':w3.heap.size+1<=w7.heap.size:=by simpa using s7
     go_roundw
     case rel=>
      refine⟨k+1,_,by omega,by go_num,rfl,?_,fun j hj hjk=>?_,?_,?_,by omega⟩
      ·rw[(cnt_ne hki).1,zfx,hkey.out hki]
       exact hown7
      ·by_cases hjk2:j<k
       ·exact hPk.out j hjk2 hjk
       ·obtain rfl:j=k:=by omega
        exact hp
      ·exact(W3.alloc W3.size _).grown hgrow7 (by simp;omega) (fun b hb=>by have:=(hrl.out b hb).1;omega)
      ·intro j u hu
       exact hgrow7.cell (World.rangeAt_alloc B3'.out _ j u hu) (fun e=>by have h9:w.heap.size+1<=w.heap.size:=(hrl.out _ e.symm).1;omega)
     case measure=>simp[intOf];omega
  ·have hk2:n=k:=by omega
   have hnk:¬(k:Int)<(n:Int):=by omega
   subst hk2
   have hGt:G=true:=hG'.out.2 (fun j hj hji=>hPk.out j hj hji)
   have hown':=hid_of hown
   have c0:wr.cell? ⟨w.heap.size,0,none⟩=some (.string k0.1):=hkr.out 0 _ rfl
   have c1:wr.cell? ⟨w.heap.size,1,none⟩=some (.int .i64 k0.2):=hkr.out 1 _ rfl
   have hlz:w.heap.size<wr.heap.size:=by omega
   have h10':=hid_of (h10 _ hbw.drew)
   have hbw':=hid_of hbw
   clear hown lx ox lp hpf h10
   by_cases hT:k0.2<lat
   all_goals
    go_wp2_with fail
    have hS0:(fun z:World=>z.cell? ⟨w.heap.size,0,none⟩=some (.string k0.1)/\z.cell? ⟨w.heap.size,1,none⟩=some (.int .i64 k0.2)) wr.drew:=⟨c0,c1⟩
    go_region_held3 (fun z=>z.cell? ⟨w.heap.size,0,none⟩=some (.string k0.1)/\z.cell? ⟨w.heap.size,1,none⟩=some (.int .i64 k0.2)) (first | exact hS0 | exact hS5)
     (first
     | (go_at_call 10;refine h10'.out.mono ?_;rintro e w6 ⟨rfl,hb6⟩
        have hS5:(fun z:World=>z.cell? ⟨w.heap.size,0,none⟩=some (.string k0.1)/\z.cell? ⟨w.heap.size,1,none⟩=some (.int .i64 k0.2)) w6:=⟨(hb6.cell (by exact hlz)).trans c0,(hb6.cell (by exact hlz)).trans c1⟩))
    have W6:Below w.heap.size w w6:=hbw.drew.trans (hb6.mono hbw.drew.size)
    go_wp2_with fail
    go_ret2
   ·exact⟨.inl ⟨rfl,fun h=>by have:=(hgd'.out.1 h).2;omega⟩,W6⟩
   ·refine⟨.inr ⟨v,rfl,hgd'.out.2 ⟨hGt,by omega⟩,?_⟩,W6⟩
    have h:=hown'.out
    rw[cnt_last hi] at h
    have hb6':Below wr.heap.size wr w6:=zan hb6
    exact h.kept (row:=none) ⟨hb6'.os,hb6'.tape,hb6'.output,hb6'.size,fun b hb _=>hb6'.block b hb⟩ (by cases hv:v.ownBlock with | none=>exact .inl rfl | some _=>exact .inr (by simp))
end Go.Proofs.YtfhjhnofkaiceaaGreatDoor
namespace Go.Proofs.YtfhjhnofkaiceaaGreatDoor
open Go Go.RowKit
def DrP (es:Nat->Ent) (i n:Nat) (gd:Prop) (e:Ending) (w':World):Prop:=
 (e=.returned (.tuple #[.slice none 0 0,.int .i64 91])/\¬gd)\/∃(g cap:Nat) (L:List (Ent × Cd × Sd)),e=.returned (.tuple #[.slice (some ⟨g,0,none⟩) (n - 1) cap,.int .i64 0])/\gd/\L.length=n/\g<w'.heap.size/\
   ∀t,t<n - 1->∀p,L[skip i t]?=some p->p.1=es (skip i t)/\w'.rangeAt g (t*33) (entC p)/\EtA w' (·<w'.heap.size) p
theorem zfy {L:List (Ent × Cd × Sd)} {j:Nat} {p:Ent × Cd × Sd} (h:L[j]?=some p):∃pre post,L.flatMap entC=pre++entC p++post/\pre.length=j*33:=by
 have hj:j<L.length:=(List.getElem?_eq_some_iff.1 h).1
 have e:L=L.take j++p::L.drop (j+1):=by
  have h2:L.drop j=p::L.drop (j+1):=by
   rw[List.drop_eq_getElem_cons hj]
   congr 1
   exact(List.getElem?_eq_some_iff.1 h).2
  rw[<-h2,List.take_append_drop]
 refine⟨(L.take j).flatMap entC,(L.drop (j+1)).flatMap entC,?_,?_⟩
 ·conv=>lhs;rw[e]
  rw[List.flatMap_append,List.flatMap_cons,List.append_assoc]
 ·have:∀M:List (Ent × Cd × Sd),(M.flatMap entC).length=M.length*33:=by
   intro M
   induction M with
   | nil=>rfl
   | cons a M ih=>
    rw[List.flatMap_cons,List.length_append,ih,List.length_cons,show(entC a).length=33 from rfl]
    omega
  rw[this,List.length_take,Nat.min_eq_left (by omega)]
theorem own_at {w:World} {B g n cap:Nat} {L:List (Ent × Cd × Sd)} (h:w.ownsRow B 55 33 (.slice (some ⟨g,0,none⟩) n cap) n (L.flatMap entC)) {j:Nat} {p:Ent × Cd × Sd} (hj:L[j]?=some p):w.rangeAt g (j*33) (entC p):=by
 obtain⟨hl,h | ⟨g',cap',cur,hv,hb,hg,hn,hm,hcs,ht⟩⟩:=h
 ·obtain⟨hv,_⟩:=h
  cases hv
 ·cases hv
  obtain⟨pre,post,e,lp⟩:=zfy hj
  intro l u hu
  have hl2:l<(entC p).length:=(List.getElem?_eq_some_iff.1 hu).1
  have h1:(L.flatMap entC)[j*33+l]?=some u:=by
   rw[e,List.append_assoc,List.getElem?_append_right (by omega),show j*33+l - pre.length=l by omega,List.getElem?_append_left hl2]
   exact hu
  rw[<-ht,List.getElem?_take] at h1
  rw[zcu hg]
  split at h1
  ·simpa using h1
  ·cases h1
set_option maxHeartbeats 8000000 in
set_option maxRecDepth 100000 in
theorem zfz {w:World} {q:Option Addr} {n c i:Nat} {k0:Ky} {lat:Int} {G:Bool} {gd:Prop} (es:Nat->Ent) (hgd:gd↔(G=true/\¬k0.2<lat)) (P:Nat->Bool) (x pf:Nat->List Value) (hn:n<=1048576) (hi:i<n) (lx:∀j,j<n->(x j).length=33) (ox:∀j,j<n->∀u∈x j,u.oneCell'=true) (lp:∀j,j<n->(pf j).length=21)
  (hpf:∀j,j<n->∀(z:World) (g:Nat),z.rangeAt g 0 (x j)->z.rangeAt g 12 (pf j))
  (hx:∃b o,q=some ⟨b,o,none⟩/\b<w.heap.size/\∀j,j<n->w.rangeAt b (o+j*33) (x j))
  (hU:∀j,j<n->∀z,Below w.heap.size w z->Calls Tryz.prog 34 #[.agg (pf j).toArray] z fun e w'=>∃q2 m2 c2,e=.returned (.slice q2 m2 c2)/\Below z.heap.size z w'/\∀z',Below w'.heap.size w' z'->Calls Tryz.prog 33 #[.slice q2 m2 c2,.agg #[.string k0.1,.int .i64 k0.2]] z' fun e' w''=>e'=.returned (.bool (P j))/\Below z'.heap.size z' w'')
  (hG:G=true↔∀j,j<n->j≠i->P j=false)
  (h26:∀z,Below w.heap.size w z->Calls Tryz.prog 26 #[.slice q n c,.agg #[.string k0.1,.int .i64 k0.2]] z fun e w'=>e=.returned (.int .i64 i)/\Below z.heap.size z w')
  (h9:∀z,Below w.heap.size w z->Calls Tryz.prog 9 #[.slice q n c,.string k0.1] z fun e w'=>e=.returned (.int .i64 lat)/\Below z.heap.size z w')
  (hA:∀z,Below w.heap.size w z->Calls Tryz.prog 35 #[.slice q n c] z fun r w'=>∃(v:Value) (L:List (Ent × Cd × Sd)),r=.returned v/\L.length=n/\w'.ownsRow z.heap.size 55 33 v n (L.flatMap entC)/\AllE w' z.heap.size v es L/\Below z.heap.size z w'):
  Calls Tryz.prog 15 #[.slice q n c,.agg #[.string k0.1,.int .i64 k0.2]] w fun e w'=>DrP es i n gd e w'/\Below w.heap.size w w':=by
 obtain⟨b,o,rfl,hbb,hcx⟩:=hx
 obtain⟨dd,hu,hd⟩:=zbe
 have hHu:=hid_of hu
 obtain⟨dk,hku,hkd⟩:=zd7
 have hHk:=hid_of hku
 obtain⟨d3,hu3,hd3⟩:=st_row
 have hH3:=hid_of hu3
 have hcx':=hid_of hcx
 have hG':=hid_of hG
 have hU':=hid_of hU
 have hgd':=hid_of hgd
 have hA':=hid_of hA
 clear hu hku hu3 hcx hG hU hgd hA
 have hb0:Below w.heap.size w (w.alloc (.cells #[.string k0.1,.int .i64 k0.2] 24)):=zaa _ _
 have kr0:=hid_of (range_new w (kcells k0) 24)
 have hsa:(w.alloc (.cells #[.string k0.1,.int .i64 k0.2] 24)).heap.size=w.heap.size+1:=by simp
 have hi0:(0:Int)<=(i:Int):=by omega
 have hi1:¬(i:Int)<0:=by omega
 go_enter Tryz.func15,Tryz.ntmps15
 go_wp2_with (go_at_call 26;refine(h26 _ hb0).mono ?_;rintro e w5 ⟨rfl,hb5⟩
              have W5:Below w.heap.size w w5:=hb0.trans (hb5.mono (by omega))
              have k5:w5.rangeAt w.heap.size 0 (kcells k0):=rangeAt_below kr0.out hb5 (by show _<(w.alloc (.cells #[.string k0.1,.int .i64 k0.2] 24)).heap.size;omega)
              have z5:w.heap.size+1<=w5.heap.size:=by have:=hb5.size;omega)
 have k5':=hid_of k5
 have c0:w5.cell? ⟨w.heap.size,0,none⟩=some (.string k0.1):=k5 0 _ rfl
 have c1:w5.cell? ⟨w.heap.size,1,none⟩=some (.int .i64 k0.2):=k5 1 _ rfl
 have hlz:w.heap.size<w5.heap.size:=by omega
 have h9':=hid_of (h9 _ W5.drew)
 clear k5 hb5 hb0 kr0 h26 h9
 have hS0:(fun z=>z.cell? ⟨w.heap.size,0,none⟩=some (.string k0.1)/\z.cell? ⟨w.heap.size,1,none⟩=some (.int .i64 k0.2)) w5.drew:=⟨c0,c1⟩
 go_region_held3 (fun z=>z.cell? ⟨w.heap.size,0,none⟩=some (.string k0.1)/\z.cell? ⟨w.heap.size,1,none⟩=some (.int .i64 k0.2)) (first | exact hS0 | exact hS5)
  (first
  | (go_at_call 9;refine h9'.out.mono ?_;rintro e w6 ⟨rfl,hb6⟩
     have hS5:(fun z=>z.cell? ⟨w.heap.size,0,none⟩=some (.string k0.1)/\z.cell? ⟨w.heap.size,1,none⟩=some (.int .i64 k0.2)) w6:=⟨(hb6.cell (by exact hlz)).trans c0,(hb6.cell (by exact hlz)).trans c1⟩))
 have hb6':Below w5.heap.size w5 w6:=zan hb6
 have W6:Below w.heap.size w w6:=W5.trans (hb6'.mono W5.size)
 have k6':=hid_of (rangeAt_below k5'.out hb6' hlz)
 have z6:w.heap.size+1<=w6.heap.size:=by have:=hb6'.size;omega
 clear hS5 hS0 c0 c1 hb6 k5'
 by_cases hT:k0.2<lat
 ·go_wp2_with fail
  go_ret2
  exact⟨.inl ⟨rfl,fun h=>by have:=(hgd'.out.1 h).2;omega⟩,W6⟩
 go_wp2_with fail
 go_loopw [24] (fun i' wr=>∃(k:Nat),k<=n/\i'=.int .i64 k/\Hid (∀j,j<k->j≠i->P j=false)/\Below w.heap.size w wr/\Hid (wr.rangeAt w.heap.size 0 (kcells k0))/\w.heap.size+1<=wr.heap.size) (fun i' _=>n - (intOf i').toNat)
 case atStart=>exact⟨0,Nat.zero_le _,rfl,fun j hj=>by omega,W6,k6',z6⟩
 case round=>
  obtain⟨k,hk,rfl,hPk,hbw,hkr,hz⟩:=hrel
  clear k6' z6 W6 hb6' W5 hlz z5
  have hws:=hbw.size
  by_cases hlt:k<n
  ·have hlt':(k:Int)<(n:Int):=by omega
   have hxk:=hid_of (rangeAt_below (hcx'.out k hlt) hbw hbb)
   have lk:=lx k hlt
   have ok':=hid_of (ox k hlt)
   have lpk:=lp k hlt
   have hpk:=hid_of (hpf k hlt)
   have hUk:=hid_of (hU'.out k hlt)
   clear lx ox lp hpf
   generalize hxx:x k=xk at*
   generalize pf k=pk at*
   obtain⟨wa,hwa⟩:∃wa,wa=wr.alloc (.cells xk.toArray 55):=⟨_,rfl⟩
   have E0:Hid (wa.rangeAt wr.heap.size 0 xk):=by rw[hwa];exact range_new _ _ _
   have B1:Hid (wa.rangeAt w.heap.size 0 (kcells k0)):=by rw[hwa];exact World.rangeAt_alloc hkr.out _
   have hb2:Below w.heap.size w wa:=by rw[hwa];exact hbw.alloc hws _
   have hza:wa.heap.size=wr.heap.size+1:=by rw[hwa];simp
   have hwa':=hid_of hwa
   clear hwa
   by_cases hki:k=i
   ·subst hki
    go_wp2_with (first
   | (with_reducible refine wpList_load_mid ?_ 55 (.tmp 27) ?_ b (o+k*33) ?_ xk dd hxk.out hHu.out hd ?_ ?_
      rotate_left 1
      ·with_reducible rfl
      ·rfl
      ·rw[lk];exact zag
      rotate_left 1
      ·rfl)
   | (with_reducible refine wpList_store_new ?_ 55 (.tmp 8) (.tmp 28) ?_ xk.toArray wr.heap.size rfl ?_ ?_ ?_ ?_ ?_ ?_
      rotate_left 1
      ·with_reducible rfl
      ·rfl
      ·rfl
      ·rw[show xk.toArray.size=33 by simp[lk]];rfl
      ·rw[show xk.toArray.size=33 by simp[lk]];exact zag
      ·exact all_oneCell_toArray ok'.out
      rotate_left 1
      ·rfl))
    rw[<-hwa'.out]
    go_quiet (fail)
    go_wp2_with fail
    go_roundw
    case rel=>
     exact⟨k+1,by omega,by go_num,fun j hj hjk=>hPk.out j (by omega) hjk,⟨hb2.os,hb2.tape,hb2.output,hb2.size,hb2.block⟩,B1.out,by show _<=wa.heap.size;omega⟩
    case measure=>simp[intOf];omega
   ·have hki':¬(k:Int)=(i:Int):=by omega
    have hkb:((k:Int)==(i:Int))=false:=by simp[hki']
    go_wp2_with (first
   | (with_reducible refine wpList_load_mid ?_ 55 (.tmp 27) ?_ b (o+k*33) ?_ xk dd hxk.out hHu.out hd ?_ ?_
      rotate_left 1
      ·with_reducible rfl
      ·rfl
      ·rw[lk];exact zag
      rotate_left 1
      ·rfl)
   | (with_reducible refine wpList_store_new ?_ 55 (.tmp 8) (.tmp 28) ?_ xk.toArray wr.heap.size rfl ?_ ?_ ?_ ?_ ?_ ?_
      rotate_left 1
      ·with_reducible rfl
      ·rfl
      ·rfl
      ·rw[show xk.toArray.size=33 by simp[lk]];rfl
      ·rw[show xk.toArray.size=33 by simp[lk]];exact zag
      ·exact all_oneCell_toArray ok'.out
      rotate_left 1
      ·rfl))
    rw[<-hwa'.out]
    try simp only[Act.put]
    refine wp_region_held_drew (S:=fun z=>z.rangeAt wr.heap.size 0 xk/\z.rangeAt w.heap.size 0 (kcells k0)) (by kernel_rfl) (by exact⟨E0.out,B1.out⟩) (fun hHeld=>?_)
    refine wpAnyH_take (i:=0) (v:=.int .i64 k) rfl (by kernel_rfl) (by kernel_rfl) (by kernel_rfl) (fun _ _ _ h=>h) (.inl ⟨by rfl,fun z hSz=>by go_simp⟩) hHeld ?_
    simp only[Act.put]
    refine wpAnyH_take (i:=1) (v:=.int .i64 i) rfl (by kernel_rfl) (by kernel_rfl) (by kernel_rfl) (fun _ _ _ h=>h) (.inl ⟨by rfl,fun z hSz=>by go_simp⟩) hHeld ?_
    simp only[Act.put]
    refine wpAnyH_take (i:=2) (v:=.bool true) rfl (by kernel_rfl) (by kernel_rfl) (by kernel_rfl) (fun _ _ _ h=>h) (.inl ⟨by rfl,fun z hSz=>by go_simp⟩) hHeld ?_
    simp only[Act.put]
    refine wpAnyH_take (i:=3) (v:=.bool true) rfl (by kernel_rfl) (by kernel_rfl) (by kernel_rfl) (fun _ _ _ h=>h) (.inl ⟨by rfl,fun z hSz=>by go_simp⟩) hHeld ?_
    simp only[Act.put]
    refine wpAnyH_take (i:=4) (v:=.pointer (some ⟨wr.heap.size,12,none⟩)) rfl (by kernel_rfl) (by kernel_rfl) (by kernel_rfl) (fun _ _ _ h=>h) (.inl ⟨by rfl,fun z hSz=>by go_simp⟩) hHeld ?_
    simp only[Act.put]
    refine wpAnyH_take (i:=5) (oi:=?op5x6) (v:=.agg pk.toArray) ?ta5x6 ?tb5x6 ?tc5x6 ?td5x6 ?tq5x6 ?ty5x6 hHeld ?_
    case ta5x6=>rfl
    case tb5x6=>kernel_rfl
    case tc5x6=>kernel_rfl
    case td5x6=>kernel_rfl
    case tq5x6=>exact fun _ _ _ h=>h
    case ty5x6=>
     refine yieldsIf_load_mid ?tw5x6 53 (.tmp 33) ?to5x6 (wr.heap.size) 12 ?tx5x6 pk d3 (fun z hz=>hpk.out z _ hz.1) hH3.out hd3 (by rw[lpk];exact st_size)
     case tw5x6=>kernel_rfl
     case to5x6=>rfl
     case tx5x6=>kernel_rfl
    simp only[Act.put,List.getElem_toArray,List.getElem_cons_succ,List.getElem_cons_zero,List.setIfInBounds_toArray,List.set_cons_zero,List.set_cons_succ]
    refine wpAnyH_take (i:=7) (oi:=?op7x7) (v:=.agg (kcells k0).toArray) ?ta7x7 ?tb7x7 ?tc7x7 ?td7x7 ?tq7x7 ?ty7x7 hHeld ?_
    case ta7x7=>rfl
    case tb7x7=>kernel_rfl
    case tc7x7=>kernel_rfl
    case td7x7=>kernel_rfl
    case tq7x7=>exact fun _ _ _ h=>h
    case ty7x7=>
     refine yieldsIf_load_mid ?tw7x7 24 (.tmp 3) ?to7x7 (w.heap.size) 0 ?tx7x7 (kcells k0) dk (fun z hz=>hz.2) hHk.out hkd (zct)
     case tw7x7=>kernel_rfl
     case to7x7=>rfl
     case tx7x7=>kernel_rfl
    simp only[Act.put,List.getElem_toArray,List.getElem_cons_succ,List.getElem_cons_zero,List.setIfInBounds_toArray,List.set_cons_zero,List.set_cons_succ]
    refine wpAnyH_ready (rs:=[6]) (by kernel_rfl) (by simp) ?_
    refine AllReadyH.cons rfl ?_ AllReadyH.nil
    intro K' hKK
    go_simp
    refine(hUk.out _ hb2.drew).mono ?_
    rintro e w2 ⟨q2,m2,c2,rfl,hb3,hCC⟩
    have hb3':Below wa.heap.size wa w2:=zan hb3
    have B2:w2.rangeAt w.heap.size 0 (kcells k0):=rangeAt_below B1.out hb3' (by omega)
    have E2:w2.rangeAt wr.heap.size 0 xk:=rangeAt_below E0.out hb3' (by omega)
    refine hKK.out _ _ ⟨E2,B2⟩ (fun _=>?_)
    clear hKK K'
    refine wpAnyH_ready (rs:=[8]) (by kernel_rfl) (by simp) ?_
    refine AllReadyH.cons rfl ?_ AllReadyH.nil
    intro K' hKK
    go_simp
    refine(hCC _ (Below.refl _ _)).mono ?_
    rintro e w3 ⟨rfl,hb4⟩
    have hb5:Below wa.heap.size wa w3:=hb3'.trans (hb4.mono hb3'.size)
    have hs5:=hb5.size
    have B3:w3.rangeAt w.heap.size 0 (kcells k0):=rangeAt_below B1.out hb5 (by omega)
    have E3:w3.rangeAt wr.heap.size 0 xk:=rangeAt_below E0.out hb5 (by omega)
    refine hKK.out _ _ ⟨E3,B3⟩ (fun hHeld3=>?_)
    clear hKK K'
    refine wpAnyH_take (i:=9) (v:=.bool (P k)) rfl (by kernel_rfl) (by kernel_rfl) (by kernel_rfl) (fun _ _ _ h=>h) (.inl ⟨by rfl,fun z hSz=>by go_simp⟩) hHeld3 ?_
    simp only[Act.put,List.getElem_toArray,List.getElem_cons_succ,List.getElem_cons_zero,List.setIfInBounds_toArray,List.set_cons_zero,List.set_cons_succ]
    refine wpAnyH_done (by kernel_rfl) ?_ _
    try simp only[Act.put,List.getElem_toArray,List.getElem_cons_succ,List.getElem_cons_zero,List.setIfInBounds_toArray,List.set_cons_zero,List.set_cons_succ]
    have W3:Below w.heap.size w w3:=hb2.trans (hb5.mono hb2.size)
    have B3':=hid_of B3
    clear B2 E2 B3 E3 hb3 hb3' hb4 hCC B1 E0 hHeld hHeld3
    cases hp:P k with
    | true=>
     go_wp2_with fail
     go_ret2
     have hGf:¬G=true:=fun h=>by
      have:=(hG'.out.1 h) k hlt hki
      rw[hp] at this
      cases this
     exact⟨.inl ⟨rfl,fun h=>hGf (hgd'.out.1 h).1⟩,W3⟩
    | false=>
     go_wp2_with fail
     go_roundw
     case rel=>
      refine⟨k+1,by omega,by go_num,fun j hj hjk=>?_,W3,B3',by omega⟩
      by_cases hjk2:j<k
      ·exact hPk.out j hjk2 hjk
      ·obtain rfl:j=k:=by omega
       exact hp
     case measure=>simp[intOf];omega
  ·have hk2:n=k:=by omega
   have hnk:¬(k:Int)<(n:Int):=by omega
   subst hk2
   have hGt:G=true:=hG'.out.2 (fun j hj hji=>hPk.out j hj hji)
   have hgt:gd:=hgd'.out.2 ⟨hGt,by omega⟩
   have hwr1:IntKind.i64.wrap ((i:Int)+1)=(i:Int)+1:=by rw[IntKind.wrap_i64];omega
   have hG9:=hid_of hgt
   clear lx ox lp hpf hgt
   go_wp2_with (first
    | (go_at_call 35;refine(hA'.out _ hbw).mono ?_;rintro e w7 ⟨v,L,rfl,hL,hown,hall,hb7⟩
       have W7:Below w.heap.size w w7:=hbw.trans (hb7.mono hbw.size)
       obtain⟨g,cap,rfl,hge,hgl⟩:=hown.form (by omega)
       have hown':=hid_of hown
       have hall':=hid_of hall
       have hd36:Calls Tryz.prog 36 #[.slice (some ⟨g,0,none⟩) n cap,.int .i64 i,.int .i64 ((i:Int)+1)] w7 fun e w'=>e=.returned (.slice (some ⟨g,0,none⟩) (n - 1) cap)/\
         (∀k,k<n - 1->∀cs:List Value,cs.length=33->w7.rangeAt g ((if k<i then k else k+1)*33) cs->w'.rangeAt g (k*33) cs)/\(∀b,b≠g->w'.heap[b]?=w7.heap[b]?)/\(∀B,B<=g->B<=w7.heap.size->Below B w7 w'):=by
        obtain⟨hl2,h | ⟨g',cap',cur,hv,hb,hg,hn2,hm,hcs,ht⟩⟩:=hown'.out
        ·cases h.1
        ·cases hv
         obtain⟨m,rfl⟩:∃m,n=m+1:=⟨n - 1,by omega⟩
         refine zfw hg hcs hn2 (by unfold maxLen at hm;omega) (by omega) (fun u hu=>?_)
         rw[ht] at hu
         obtain⟨p,_,hp⟩:=List.mem_flatMap.1 hu
         exact Ent.one _ _ _ u hp
       clear hown hall)
    | (go_at_call 36;refine hd36.mono ?_;rintro e w8 ⟨rfl,hr8,hb8,hB8⟩))
   have hgw:w.heap.size<=g:=Nat.le_trans hws hge
   have B8:=hB8 wr.heap.size hge hb7.size
   have hr8':=hid_of hr8
   have hb8':=hid_of hb8
   clear hr8 hb8
   go_ret2
   refine⟨.inr ⟨g,cap,L,rfl,hG9.out,hL,?_,fun t ht p hp=>?_⟩,W7.trans ((hB8 w.heap.size hgw (Nat.le_trans hws hb7.size)))⟩
   ·have:=(hB8 w.heap.size hgw (Nat.le_trans hws hb7.size)).size
    have h2:=B8.size
    have h3:w7.heap.size<=w8.heap.size:=(hB8 0 (Nat.zero_le _) (Nat.zero_le _)).size
    omega
   ·obtain⟨h1,h2⟩:=hall'.out _ p hp
    refine⟨h1,?_,?_⟩
    ·refine hr8'.out t ht _ rfl ?_
     exact own_at hown'.out hp
    ·refine h2.keep (fun b hb=>hb8'.out b (fun e=>hb.2.2 (by rw[e];rfl))) (fun b hb=>?_)
     have h3:w7.heap.size<=w8.heap.size:=(hB8 0 (Nat.zero_le _) (Nat.zero_le _)).size
     exact Nat.lt_of_lt_of_le hb.2.1 h3
end Go.Proofs.YtfhjhnofkaiceaaGreatDoor
namespace Go.Proofs.YtfhjhnofkaiceaaGreatDoor
open Go Go.RowKit
set_option maxHeartbeats 1000000 in
set_option maxRecDepth 100000 in
theorem zf0 {w:World} {q:Option Addr} {n c:Nat} {k0:Ky}
  (h26:∀z,Below w.heap.size w z->Calls Tryz.prog 26 #[.slice q n c,.agg #[.string k0.1,.int .i64 k0.2]] z fun e w'=>e=.returned (.int .i64 (-1))/\Below z.heap.size z w'):
  Calls Tryz.prog 15 #[.slice q n c,.agg #[.string k0.1,.int .i64 k0.2]] w fun e w'=>e=.returned (.tuple #[.slice none 0 0,.int .i64 90])/\Below w.heap.size w w':=by
 have hb0:Below w.heap.size w (w.alloc (.cells #[.string k0.1,.int .i64 k0.2] 24)):=zaa _ _
 have hsa:(w.alloc (.cells #[.string k0.1,.int .i64 k0.2] 24)).heap.size=w.heap.size+1:=by simp
 go_enter Tryz.func15,Tryz.ntmps15
 go_wp2_with (go_at_call 26;refine(h26 _ hb0).mono ?_;rintro e w5 ⟨rfl,hb5⟩
              have W5:Below w.heap.size w w5:=hb0.trans (hb5.mono (by omega)))
 go_ret2
 exact⟨rfl,W5⟩
set_option maxHeartbeats 1000000 in
set_option maxRecDepth 100000 in
theorem zex {w:World} {q:Option Addr} {n c:Nat} {k0:Ky}
  (h8:∀z,Below w.heap.size w z->Calls Tryz.prog 8 #[.slice q n c,.agg #[.string k0.1,.int .i64 k0.2]] z fun e w'=>e=.returned (.tuple #[.int .i64 0,.bool false])/\Below z.heap.size z w'):
  Calls Tryz.prog 16 #[.slice q n c,.agg #[.string k0.1,.int .i64 k0.2]] w fun e w'=>e=.returned (.tuple #[.slice none 0 0,.int .i64 90])/\Below w.heap.size w w':=by
 have hb0:Below w.heap.size w (w.alloc (.cells #[.string k0.1,.int .i64 k0.2] 24)):=zaa _ _
 have hsa:(w.alloc (.cells #[.string k0.1,.int .i64 k0.2] 24)).heap.size=w.heap.size+1:=by simp
 go_enter Tryz.func16,Tryz.ntmps16
 go_wp2_with (go_at_call 8;refine(h8 _ hb0).mono ?_;rintro e w5 ⟨rfl,hb5⟩
              have W5:Below w.heap.size w w5:=hb0.trans (hb5.mono (by omega)))
 go_ret2
 exact⟨rfl,W5⟩
theorem zey {w:World} {q1 q2:Option Addr} {n:Nat} (c1 c2:Nat) {es:Nat->Ent} (h1:LbA w q1 n es) (h2:LbA w q2 n es):
  Calls Tryz.prog 17 #[.slice q1 n c1,.slice q2 n c2] w fun r w'=>r=.returned (.bool true)/\Below w.heap.size w w':=by
 have hn:=h1.1
 have pk:∀{q:Option Addr},LbA w q n es->∃(Ds:Nat->Cd) (ds:Nat->Sd),(n=0\/∃b o,q=some ⟨b,o,none⟩/\b<w.heap.size/\∀i,i<n->w.rangeAt b (o+i*33) ((es i).cells (Ds i) (ds i)))/\∀i,i<n->ClOk w (es i).C (Ds i)/\StOk w (es i).X (ds i):=by
  rintro q ⟨_,h0 | ⟨b,o,e,hlt,Ds,ds,hds⟩⟩
  ·exact⟨fun _=>⟨default,none,0,none,0⟩,default,.inl h0,fun i hi=>by omega⟩
  ·exact⟨Ds,ds,.inr ⟨b,o,e,hlt,fun i hi=>(hds i hi).1⟩,fun i hi=>(hds i hi).2⟩
 obtain⟨D1,d1,k1,k2⟩:=pk h1
 obtain⟨D2,d2,k3,k4⟩:=pk h2
 exact zc9 (fun i=>(es i).cells (D1 i) (d1 i)) (fun i=>(es i).cells (D2 i) (d2 i)) hn (fun _ _=>rfl) (fun _ _=>rfl) k1 k3
  (fun i hi z hz=>zes ((k2 i hi).1.below hz) ((k4 i hi).1.below hz) ((k2 i hi).2.below hz) ((k4 i hi).2.below hz))
set_option maxHeartbeats 2000000 in
set_option maxRecDepth 100000 in
theorem zb8 {w:World} {q:Option Addr} {n c m:Nat} {k0:Ky} {u:Int} {f:Nat->Ent}
  (h15:∀z,Below w.heap.size w z->Calls Tryz.prog 15 #[.slice q n c,.agg #[.string k0.1,.int .i64 k0.2]] z fun e w'=>∃qa ca,e=.returned (.tuple #[.slice qa m ca,.int .i64 u])/\LbA w' qa m f/\Below z.heap.size z w')
  (h16:∀z,Below w.heap.size w z->Calls Tryz.prog 16 #[.slice q n c,.agg #[.string k0.1,.int .i64 k0.2]] z fun e w'=>∃qb cb,e=.returned (.tuple #[.slice qb m cb,.int .i64 u])/\LbA w' qb m f/\Below z.heap.size z w')
  (hA:∀z,Below w.heap.size w z->Calls Tryz.prog 14 #[] z fun e w'=>e=.returned (.bool true)/\Below z.heap.size z w'):
  Calls Tryz.prog 4 #[.slice q n c,.agg #[.string k0.1,.int .i64 k0.2]] w fun e w'=>e=.returned (.bool true)/\Below w.heap.size w w':=by
 have W1:Below w.heap.size w (w.alloc (.cells #[.string k0.1,.int .i64 k0.2] 24)):=zaa _ _
 have e1:(w.alloc (.cells #[.string k0.1,.int .i64 k0.2] 24)).cell? ⟨w.heap.size,0,none⟩=some (.string k0.1):=by simp
 have e2:(w.alloc (.cells #[.string k0.1,.int .i64 k0.2] 24)).cell? ⟨w.heap.size,1,none⟩=some (.int .i64 k0.2):=by simp
 have ez:w.heap.size<(w.alloc (.cells #[.string k0.1,.int .i64 k0.2] 24)).heap.size:=by simp
 go_enter Tryz.func4,Tryz.ntmps4
 go_wp2_with (first
  | (go_at_call 15;refine(h15 _ W1).mono ?_;rintro x w2 ⟨qa,ca,rfl,hLa,hb2⟩
     have W2:=W1.trans (hb2.mono W1.size)
     have hLa':=hid_of hLa
     have d1:w2.cell? ⟨w.heap.size,0,none⟩=some (.string k0.1):=(hb2.cell ez).trans e1
     have d2:w2.cell? ⟨w.heap.size,1,none⟩=some (.int .i64 k0.2):=(hb2.cell ez).trans e2
     clear hLa)
  | (go_at_call 16;refine(h16 _ W2).mono ?_;rintro x w3 ⟨qb,cb,rfl,hLb,hb3⟩
     have W3:=W2.trans (hb3.mono W2.size)
     have h17:=hid_of (zey ca cb (hLa'.out.below hb3) hLb)
     clear hLb)
  | (go_at_call 17;refine h17.out.mono ?_;rintro x w4 ⟨rfl,hb4⟩
     have W4:=W3.trans (hb4.mono W3.size))
  | (go_at_call 14;refine(hA _ W4).mono ?_;rintro x w5 ⟨rfl,hb5⟩))
 go_ret
 exact⟨rfl,W4.trans (hb5.mono W4.size)⟩
def LbGood (n:Nat) (es:Nat->Ent):Prop:=∀i,i<n->ClSmall (es i).C/\StSmall (es i).X/\KyOk (es i).k/\(es i).X.keys.length<=1048576
theorem zb0 (w:World) (es:Nat->Ent):LbA w none 0 es:=⟨by omega,.inl rfl⟩
theorem zdf {w:World} {q:Option Addr} {n:Nat} (c:Nat) {es:Nat->Ent} (h:LbA w q n es) (hg:LbGood n es) (k0:Ky)
  (hA:∀z,Below w.heap.size w z->Calls Tryz.prog 14 #[] z fun e w'=>e=.returned (.bool true)/\Below z.heap.size z w'):
  Calls Tryz.prog 4 #[.slice q n c,.agg #[.string k0.1,.int .i64 k0.2]] w fun e w'=>e=.returned (.bool true)/\Below w.heap.size w w':=by
 have hn:=h.1
 have pk:∃(Ds:Nat->Cd) (ds:Nat->Sd),(n=0\/∃b o,q=some ⟨b,o,none⟩/\b<w.heap.size/\∀i,i<n->w.rangeAt b (o+i*33) ((es i).cells (Ds i) (ds i)))/\∀i,i<n->ClOk w (es i).C (Ds i)/\StOk w (es i).X (ds i):=by
  rcases h.2 with h0 | ⟨b,o,e,hlt,Ds,ds,hds⟩
  ·exact⟨fun _=>⟨default,none,0,none,0⟩,default,.inl h0,fun i hi=>by omega⟩
  ·exact⟨Ds,ds,.inr ⟨b,o,e,hlt,fun i hi=>(hds i hi).1⟩,fun i hi=>(hds i hi).2⟩
 obtain⟨Ds,ds,k1,k2⟩:=pk
 obtain⟨L,hL⟩:∃L:List En,L=(List.range n).map fun j=>(⟨(es j).k,(es j).C.cells (Ds j)++(ds j).cells⟩:En):=⟨_,rfl⟩
 have hget:∀i e,L[i]?=some e->i<n/\e=⟨(es i).k,(es i).C.cells (Ds i)++(ds i).cells⟩:=by
  intro i e he
  rw[hL,List.getElem?_map,Option.map_eq_some_iff] at he
  obtain⟨j,hj,rfl⟩:=he
  obtain⟨hi,rfl⟩:=List.getElem?_eq_some_iff.1 hj
  rw[List.getElem_range]
  exact⟨by simpa using hi,rfl⟩
 have hlib:LibOk w q n L:=by
  refine⟨by rw[hL];simp,hn,fun e he=>?_,k1.imp id ?_⟩
  ·obtain⟨i,hie⟩:=List.getElem?_of_mem he
   obtain⟨hi,rfl⟩:=hget i e hie
   exact⟨rfl,fun u hu=>Ent.one (es i) (Ds i) (ds i) u (List.mem_cons_of_mem _ (List.mem_cons_of_mem _ hu)),(hg i hi).2.2.1⟩
  ·rintro⟨b,o,e,hlt,hc⟩
   refine⟨b,o,e,hlt,fun i e he=>?_⟩
   obtain⟨hi,rfl⟩:=hget i e he
   exact hc i hi
 have hLn:(L.map (·.k)).length=n:=by rw[List.length_map,hlib.1]
 cases hix:ixK (L.map (·.k)) k0 with
 | none=>
  refine zb8 (m:=0) (u:=90) (f:=es) (fun z hz=>?_) (fun z hz=>?_) hA
  ·refine(zf0 (fun z' hz'=>?_)).mono ?_
   ·have hb:=hz.trans (hz'.mono hz.size)
    have:=zd2 c (hlib.below hb) k0
    unfold ixI at this
    rw[hix] at this
    exact this
   ·rintro e w' ⟨rfl,hb⟩
    exact⟨none,0,rfl,zb0 _ _,hb⟩
  ·refine(zex (fun z' hz'=>?_)).mono ?_
   ·have hb:=hz.trans (hz'.mono hz.size)
    have:=zd3 c (hlib.below hb) k0
    unfold fndV at this
    rw[hix] at this
    exact this
   ·rintro e w' ⟨rfl,hb⟩
    exact⟨none,0,rfl,zb0 _ _,hb⟩
 | some i=>
  have hi:i<n:=by
   have:=zft hix
   rw[<-hLn]
   exact(List.getElem?_eq_some_iff.1 this).1
  have k1':∃b o,q=some ⟨b,o,none⟩/\b<w.heap.size/\∀i,i<n->w.rangeAt b (o+i*33) ((es i).cells (Ds i) (ds i)):=by
   rcases k1 with h0 | h1
   ·omega
   ·exact h1
  obtain⟨P,hP⟩:∃P:Nat->Bool,P=fun j=>decide (k0∈foldK [] (es j).X.keys):=⟨_,rfl⟩
  obtain⟨G,hG⟩:∃G:Bool,G=true↔∀j,j<n->j≠i->P j=false:=by
   by_cases hh:∀j,j<n->j≠i->P j=false
   ·exact⟨true,fun _=>hh,fun _=>rfl⟩
   ·exact⟨false,⟨fun h=>absurd h (by decide),fun h=>(hh h).elim⟩⟩
  obtain⟨lat,hlat⟩:∃lat,lat=latK (L.map (·.k)) k0.1:=⟨_,rfl⟩
  have hus:∀j,j<n->(foldK [] (es j).X.keys).length<=2097152:=by
   intro j hj
   have:=zbi (es j).X.keys []
   have h2:=(hg j hj).2.2.2
   simp only[List.length_nil,Nat.zero_add] at this
   omega
  have hpf:∀j,j<n->∀(z:World) (g:Nat),z.rangeAt g 0 ((es j).cells (Ds j) (ds j))->z.rangeAt g 12 (ds j).cells:=by
   intro j hj z g hr
   have:=zap hr ([.string (es j).k.1,.int .i64 (es j).k.2]++(es j).C.cells (Ds j)) [] (by rw[List.append_nil];rfl)
   exact this
  have hS:LbSmall n es:=fun j hj=>⟨(hg j hj).1,(hg j hj).2.1⟩
  have prog:∀z,Below w.heap.size w z->Calls Tryz.prog 15 #[.slice q n c,.agg #[.string k0.1,.int .i64 k0.2]] z fun e w'=>DrP es i n (G=true/\¬k0.2<lat) e w'/\Below z.heap.size z w':=by
   intro z hz
   refine zfz (lat:=lat) (G:=G) es Iff.rfl P (fun j=>(es j).cells (Ds j) (ds j)) (fun j=>(ds j).cells) hn hi (fun _ _=>rfl) (fun j _=>Ent.one _ _ _) (fun _ _=>rfl) hpf ?_ ?_ hG ?_ ?_ ?_
   ·obtain⟨b,o,e,hlt,hc⟩:=k1'
    exact⟨b,o,e,Nat.lt_of_lt_of_le hlt hz.size,fun j hj=>rangeAt_below (hc j hj) hz hlt⟩
   ·intro j hj z' hz'
    have hb:=hz.trans (hz'.mono hz.size)
    refine(uses_ok ((k2 j hj).2.below hb) (hg j hj).2.2.2).mono ?_
    rintro e w' ⟨q2,c2,rfl,hks,hb2⟩
    refine⟨q2,_,c2,rfl,hb2,fun z'' hz''=>?_⟩
    rw[hP]
    exact zdw (hks.below hz'') (hus j hj) k0
   ·intro z' hz'
    have hb:=hz.trans (hz'.mono hz.size)
    have:=zd2 c (hlib.below hb) k0
    unfold ixI at this
    rw[hix] at this
    exact this
   ·intro z' hz'
    have hb:=hz.trans (hz'.mono hz.size)
    rw[hlat]
    exact zel c (hlib.below hb) k0.1
   ·intro z' hz'
    have hb:=hz.trans (hz'.mono hz.size)
    exact all_ok c (h.below hb) hS
  have ref:∀z,Below w.heap.size w z->Calls Tryz.prog 16 #[.slice q n c,.agg #[.string k0.1,.int .i64 k0.2]] z fun e w'=>RdP (z.heap.size+1) (fun j=>(es j).cells (Ds j) (ds j)) i n (G=true/\¬k0.2<lat) e w'/\Below z.heap.size z w':=by
   intro z hz
   refine zew (lat:=lat) (G:=G) Iff.rfl P (fun j=>(es j).cells (Ds j) (ds j)) (fun j=>(ds j).cells) hn hi (fun _ _=>rfl) (fun j _=>Ent.one _ _ _) (fun _ _=>rfl) hpf ?_ ?_ hG ?_ ?_
   ·obtain⟨b,o,e,hlt,hc⟩:=k1'
    exact⟨b,o,e,Nat.lt_of_lt_of_le hlt hz.size,fun j hj=>rangeAt_below (hc j hj) hz hlt⟩
   ·intro j hj z' hz'
    have hb:=hz.trans (hz'.mono hz.size)
    refine(rUses_ok ((k2 j hj).2.below hb) (hg j hj).2.2.2).mono ?_
    rintro e w' ⟨q2,c2,rfl,hks,hb2⟩
    refine⟨q2,_,c2,rfl,hb2,fun z'' hz''=>?_⟩
    rw[hP]
    exact in_ok (hks.below hz'') (hus j hj) k0
   ·intro z' hz'
    have hb:=hz.trans (hz'.mono hz.size)
    have:=zd3 c (hlib.below hb) k0
    unfold fndV at this
    rw[hix] at this
    exact this
   ·intro z' hz'
    have hb:=hz.trans (hz'.mono hz.size)
    rw[hlat]
    exact zdp c (hlib.below hb) k0.1
  by_cases hgd:G=true/\¬k0.2<lat
  ·refine zb8 (m:=n - 1) (u:=0) (f:=fun t=>es (skip i t)) (fun z hz=>?_) (fun z hz=>?_) hA
   ·refine(prog z hz).mono ?_
    rintro e w' ⟨⟨_,hng⟩ | ⟨g,cap,M,rfl,_,hM,hgl,hE⟩,hb⟩
    ·exact(hng hgd).elim
    ·refine⟨some ⟨g,0,none⟩,cap,rfl,⟨by omega,.inr ⟨g,0,rfl,hgl,fun t=>(M.getD (skip i t) (es 0,⟨default,none,0,none,0⟩,default)).2.1,fun t=>(M.getD (skip i t) (es 0,⟨default,none,0,none,0⟩,default)).2.2,fun t ht=>?_⟩⟩,hb⟩
     have hsk:skip i t<M.length:=by
      unfold skip
      split<;>omega
     have hgm:M[skip i t]?=some (M.getD (skip i t) (es 0,⟨default,none,0,none,0⟩,default)):=by simp[List.getD,hsk]
     obtain⟨a1,a2,a3⟩:=hE t ht _ hgm
     refine⟨?_,?_,?_⟩
     ·have a2':w'.rangeAt g (0+t*33) (entC (M.getD (skip i t) (es 0,⟨default,none,0,none,0⟩,default))):=by rw[Nat.zero_add];exact a2
      show w'.rangeAt g (0+t*33) ((es (skip i t)).cells (M.getD (skip i t) (es 0,⟨default,none,0,none,0⟩,default)).2.1 (M.getD (skip i t) (es 0,⟨default,none,0,none,0⟩,default)).2.2)
      rw[<-a1]
      exact a2'
     ·show ClOk w' (es (skip i t)).C (M.getD (skip i t) (es 0,⟨default,none,0,none,0⟩,default)).2.1
      rw[<-a1]
      exact a3.1
     ·show StOk w' (es (skip i t)).X (M.getD (skip i t) (es 0,⟨default,none,0,none,0⟩,default)).2.2
      rw[<-a1]
      exact a3.2.ok (fun _ hb=>hb)
   ·refine(ref z hz).mono ?_
    rintro e w' ⟨⟨_,hng⟩ | ⟨v,rfl,_,hown⟩,hb⟩
    ·exact(hng hgd).elim
    ·have hbw:=hz.trans (hb.mono hz.size)
     rcases hown with⟨hl,⟨rfl,h0⟩ | ⟨g,cap,cur,rfl,hge,hgg,hnc,hcm,hcs,ht⟩⟩
     ·rw[h0]
      exact⟨none,0,rfl,⟨by omega,.inl rfl⟩,hb⟩
     ·refine⟨some ⟨g,0,none⟩,cap,rfl,⟨by omega,.inr ⟨g,0,rfl,(Array.getElem?_eq_some_iff.1 hgg).1,fun t=>Ds (skip i t),fun t=>ds (skip i t),fun t ht2=>?_⟩⟩,hb⟩
      have hsk:skip i t<n:=by
       unfold skip
       split<;>omega
      have hown2:w'.ownsRow (z.heap.size+1) 55 33 (.slice (some ⟨g,0,none⟩) (n - 1) cap) (n - 1) ((List.range (n - 1)).flatMap fun t=>(es (skip i t)).cells (Ds (skip i t)) (ds (skip i t))):=⟨hl,.inr ⟨g,cap,cur,rfl,hge,hgg,hnc,hcm,hcs,ht⟩⟩
      have hr:=zam (s:=33) (f:=fun t=>(es (skip i t)).cells (Ds (skip i t)) (ds (skip i t))) (fun _=>rfl) hown2 (i:=t) (a:=t) (by rw[List.getElem?_range ht2])
      exact⟨hr,(k2 _ hsk).1.below hbw,(k2 _ hsk).2.below hbw⟩
  ·refine zb8 (m:=0) (u:=91) (f:=es) (fun z hz=>?_) (fun z hz=>?_) hA
   ·refine(prog z hz).mono ?_
    rintro e w' ⟨⟨rfl,_⟩ | ⟨g,cap,M,_,hgd2,_⟩,hb⟩
    ·exact⟨none,0,rfl,zb0 _ _,hb⟩
    ·exact(hgd hgd2).elim
   ·refine(ref z hz).mono ?_
    rintro e w' ⟨⟨rfl,_⟩ | ⟨v,_,hgd2,_⟩,hb⟩
    ·exact⟨none,0,rfl,zb0 _ _,hb⟩
    ·exact(hgd hgd2).elim
end Go.Proofs.YtfhjhnofkaiceaaGreatDoor
namespace Go.Proofs.YtfhjhnofkaiceaaGreatDoor
open Go Go.RowKit
instance:Inhabited Cl:=⟨⟨.non,false,0,default,0,default⟩⟩
instance:Inhabited Cd:=⟨⟨default,none,0,none,0⟩⟩
instance:Inhabited Ent:=⟨⟨(⟨#[]⟩,0),default,.non⟩⟩
section
variable {H:Type} {enc:TypeId × Value->H} {w:World} {spare:Nat->Bool} {held:Bool} {B:DataW H->Nat}
theorem zdy (hB:Bk B) (hBs:Bs B) {fuel:Nat} {cs:List Value} {x:DataW H × List MemPlace} (hx:B x.1<=1048576) (h:DataW.trod enc Tryz.prog w 0 spare held fuel 55 cs=some x):
  ∃(e:Ent) (D:Cd) (d:Sd),cs=e.cells D d/\ClOk w e.C D/\StOk w e.X d/\(ClSmall e.C/\StSmall e.X/\KyOk e.k/\e.X.keys.length<=1048576):=by
 obtain⟨xs,n,hn,rfl,hl,hxl,hf⟩:=DataW.trod_struct Tryz.underlying55 h
 rw[c55] at hl
 have hxl':xs.length=4:=hxl
 clear hxl
 obtain⟨a0,cs0r,rfl,hl0⟩:=list_cons (n:=32) hl
 obtain⟨a1,r,rfl,hr⟩:=list_cons (n:=31) hl0
 obtain⟨y0,xs0r,rfl,hxl'0⟩:=list_cons (n:=3) hxl'
 obtain⟨y1,xs1r,rfl,hxl'1⟩:=list_cons (n:=2) hxl'0
 obtain⟨y2,xs2r,rfl,hxl'2⟩:=list_cons (n:=1) hxl'1
 obtain⟨y3,xs3r,rfl,hxl'3⟩:=list_cons (n:=0) hxl'2
 obtain rfl:=List.length_eq_zero_iff.1 hxl'3
 have h0:DataW.trod enc Tryz.prog w 0 spare held n 9 [a0]=some y0:=by have:=hf 0 _ rfl;simpa [c9] using this
 have h1:DataW.trod enc Tryz.prog w 0 spare held n 3 [a1]=some y1:=by have:=hf 1 _ rfl;simpa [c3] using this
 have h2:DataW.trod enc Tryz.prog w 0 spare held n 48 (r.take 10)=some y2:=by have:=hf 2 _ rfl;simpa [c48] using this
 have h3:DataW.trod enc Tryz.prog w 0 spare held n 53 (r.drop 10)=some y3:=by
  have h:DataW.trod enc Tryz.prog w 0 spare held n 53 ((r.drop 10).take (Tryz.prog.cellsOf 53))=some y3:=hf 3 _ rfl
  rwa [List.take_of_length_le (by rw[c32,List.length_drop];omega)] at h
 have b2:B y2.1<=1048576:=Nat.le_trans (hB.ag _ _ (by simp)) hx
 have b3:B y3.1<=1048576:=Nat.le_trans (hB.ag _ _ (by simp)) hx
 obtain⟨s,e0,_,w0⟩:=DataW.trod_string Tryz.underlying9 h0
 obtain⟨v,e1,_,w1⟩:=DataW.trod_int Tryz.underlying3 h1
 simp only[List.cons.injEq,and_true] at e0 e1
 subst e0 e1
 obtain⟨C,D,e2,hC,hCs⟩:=zdu hB b2 h2
 obtain⟨X,d,e3,hX,hXs⟩:=zep hB n _ y3 b3 h3
 have hkl:=keys_le hBs X d n y3 hX (e3 ▸ h3)
 refine⟨⟨(s,v),C,X⟩,D,d,?_,hC,hX,hCs,hXs,⟨w0,w1⟩,Nat.le_trans hkl b3⟩
 show _=Value.string s::Value.int .i64 v::(C.cells D++d.cells)
 rw[<-e2,<-e3,List.take_append_drop]
theorem zf1 (hB:Bk B) (hBs:Bs B) {fuel:Nat} {cs:List Value} {x:DataW H × List MemPlace} (hx:B x.1<=1048576) (h:DataW.trod enc Tryz.prog w 0 spare held fuel 22 cs=some x):
  ∃q n c es,cs=[.slice q n c]/\LbA w q n es/\LbGood n es:=by
 obtain⟨q,n,c,rfl,_,hbn,hel⟩:=open_slice Tryz.underlying22 c55 (by decide) h
 have hn:n<=1048576:=Nat.le_trans (hbn B hB) hx
 rcases hel with rfl | ⟨b,o,rfl,hlt,hel⟩
 ·exact⟨q,0,c,default,rfl,⟨by omega,.inl rfl⟩,fun i hi=>by omega⟩
 ·have hp:∀i,i<n->∃p:Ent × Cd × Sd,(w.rangeAt b (o+i*33) (p.1.cells p.2.1 p.2.2)/\ClOk w p.1.C p.2.1/\StOk w p.1.X p.2.2)/\(ClSmall p.1.C/\StSmall p.1.X/\KyOk p.1.k/\p.1.X.keys.length<=1048576):=by
   intro i hi
   obtain⟨ces,y,m1,hm1,hr,hlc,ht,hby⟩:=hel i hi
   obtain⟨e,D,d,rfl,hC,hX,hg⟩:=zdy hB hBs (Nat.le_trans (hby B hB) hx) ht
   exact⟨(e,D,d),⟨hr,hC,hX⟩,hg⟩
  obtain⟨F,hF⟩:=pick hp
  exact⟨_,n,c,fun i=>(F i).1,rfl,⟨hn,.inr ⟨b,o,rfl,hlt,fun i=>(F i).2.1,fun i=>(F i).2.2,fun i hi=>(hF i hi).1⟩⟩,fun i hi=>(hF i hi).2⟩
end
end Go.Proofs.YtfhjhnofkaiceaaGreatDoor
