import Derived.Shelf.SlIter.Nil
import Derived.Shelf.SortM.Plain
import Derived.Shelf.SortM.SortNone
import Derived.RangeFuncNested
import Derived.RangeFuncBound
import Derived.RangeFuncCalls
import Derived.RangeFuncLeaves
import Derived.RangeFuncWrites
import Derived.Shelf.Abstract
import Derived.Shelf.AbstractIn
import Derived.OwnWalkIn
import Derived.TacticsInMore
import Derived.LoopNIn
import Derived.LoopIn
import Derived.Maps.OwnIn
import Derived.Test.YtaonejnicgbifaaGreatDoorQk18
namespace Go.Proofs.YtaonejnicgbifaaGreatDoor
open Go Go.RowKit
set_option maxRecDepth 100000
set_option maxHeartbeats 16000000
theorem zjp {w:World} (b o n c:Nat) (L:List En) (hL:L.length=n) (hn:n<=1048576) (eI:∀e∈L,e.Ok) (hb:b<w.heap.size) (hx:∀i e,L[i]?=some e->w.rangeAt b (o+i*33) e.cells) (k0:Ky):
  Calls Tryz.prog 12 #[.slice (some ⟨b,o,none⟩) n c,.agg #[.string k0.1,.int .i64 k0.2]] w fun x w'=>x=.returned (fndV (L.map (·.k)) k0)/\Below w.heap.size w w':=by
 have hx':Hid (∀i e,L[i]?=some e->w.rangeAt b (o+i*33) e.cells):=hx
 have eJ:Hid (∀e∈L,e.Ok):=eI
 obtain⟨dd,hu,hd⟩:=zk3
 have hHu:=zac hu
 clear hx eI hu
 obtain⟨dk,hku,hkd⟩:=ky_row
 have hHk:=zac hku
 have hkr:=zbh w (kcells k0) 24
 have eP:Hid ((w.alloc (.cells #[.string k0.1,.int .i64 k0.2] 24)).rangeAt w.heap.size 0 (kcells k0)):=hkr
 clear hku hkr
 go_enter Tryz.func12,Tryz.ntmps12
 go_wp2_with fail
 have hb1:Below w.heap.size w (w.alloc (.cells #[.string k0.1,.int .i64 k0.2] 24)):=zci _ _
 go_loopw [10] (fun i wr=>∃k:Nat,k<=n/\i=.int .i64 k/\(∀j a,j<k->(L.map (·.k))[j]?=some a->¬a=k0)/\Below w.heap.size w wr/\w.heap.size+1<=wr.heap.size/\wr.rangeAt w.heap.size 0 (kcells k0)) (fun i _=>n - (intOf i).toNat)
 case atStart=>exact⟨0,Nat.zero_le _,rfl,fun j a hj=>by omega,hb1,by simp,eP.out⟩
 case round=>
  obtain⟨k,hk,rfl,aE,hbw,hsz,hkk⟩:=hrel
  have aN:=zac aE
  have jU:=zac hkk
  clear aE hkk hb1 eP
  by_cases hlt:k<n
  ·have aA:(k:Int)<(n:Int):=by omega
   obtain⟨e,he⟩:∃e,L[k]?=some e:=⟨_,List.getElem?_eq_getElem (by omega)⟩
   have heL:=List.mem_of_getElem? he
   have hek:=eJ.out e heL
   have hx:=zad (hx'.out k e he) hbw hb
   have lx:=hek.len'
   have ox':Hid (e.cells.toArray.all (·.oneCell')=true):=hek.one'
   have hws:=hbw.size
   have aw:=fun z=>key27_ok e hek z
   have hel:Hid ((L.map (·.k))[k]?=some e.k):=by show(L.map (·.k))[k]?=some e.k;rw[List.getElem?_map,he];rfl
   have hq:(e.k.1.toList==k0.1.toList&&e.k.2==k0.2)=decide (e.k=k0):=(ky_eq _ _).symm
   clear he heL hek
   generalize e.k=ek at*
   generalize e.cells=cx at*
   have D0:Hid ((wr.alloc (.cells cx.toArray 48)).rangeAt wr.heap.size 0 cx):=zbh _ _ _
   have B0:Hid ((wr.alloc (.cells cx.toArray 48)).rangeAt w.heap.size 0 (kcells k0)):=World.rangeAt_alloc jU.out _
   have hb2:Below w.heap.size w (wr.alloc (.cells cx.toArray 48)):=hbw.alloc hws _
   have hz2:(wr.alloc (.cells cx.toArray 48)).heap.size=wr.heap.size+1:=by simp
   generalize heq:decide (ek=k0)=eq at*
   have iE:Hid (decide (ek=k0)=eq):=heq
   clear heq
   go_wp2_with (first
    | (with_reducible refine wpList_load_mid (op:=⟨some 14,_,_,_,_,_⟩) ?_ 48 (.tmp 13) ?_ (b) (o+k*33) ?_ cx dd ?_ hHu.out hd ?_ ?_
       rotate_left 1
       ·with_reducible rfl
       ·kernel_rfl
       ·exact hx
       ·(rw[lx];exact zdn)
       rotate_left 1
       ·rfl)
    | (with_reducible refine zdz ?_ 48 (.tmp 7) (.tmp 14) ?_ cx.toArray wr.heap.size rfl ?_ ?_ ?_ ?_ ox'.out ?_
       rotate_left 1
       ·with_reducible rfl
       ·rfl
       ·rfl
       ·simp[lx]
       ·(simp only[List.size_toArray,lx];exact zdn)
       rotate_left 1
       ·rfl))
   try simp only[Act.put]
   refine wp_region_held_drew (S:=fun z=>z.rangeAt wr.heap.size 0 cx/\z.rangeAt w.heap.size 0 (kcells k0)) (by kernel_rfl) (by exact⟨D0.out,B0.out⟩) (fun ah=>?_)
   refine wpAnyH_take (i:=0) (oi:=?op0x1) (v:=.agg cx.toArray) ?ta0x1 ?tb0x1 ?tc0x1 ?td0x1 ?tq0x1 ?ty0x1 ah ?_
   case ta0x1=>rfl
   case tb0x1=>kernel_rfl
   case tc0x1=>kernel_rfl
   case td0x1=>kernel_rfl
   case tq0x1=>exact fun _ _ _ h=>h
   case ty0x1=>
    refine yieldsIf_load_mid ?tw0x1 48 (.tmp 7) ?to0x1 wr.heap.size 0 ?tx0x1 cx dd (fun z hz=>hz.1) hHu.out hd (by rw[lx];exact zdn)
    case tw0x1=>kernel_rfl
    case to0x1=>rfl
    case tx0x1=>kernel_rfl
   simp only[pz]
   refine wpAnyH_take (i:=2) (oi:=?op2x2) (v:=.agg (kcells k0).toArray) ?ta2x2 ?tb2x2 ?tc2x2 ?td2x2 ?tq2x2 ?ty2x2 ah ?_
   case ta2x2=>rfl
   case tb2x2=>kernel_rfl
   case tc2x2=>kernel_rfl
   case td2x2=>kernel_rfl
   case tq2x2=>exact fun _ _ _ h=>h
   case ty2x2=>
    refine yieldsIf_load_mid ?tw2x2 24 (.tmp 3) ?to2x2 w.heap.size 0 ?tx2x2 (kcells k0) dk (fun z hz=>hz.2) hHk.out hkd zk4
    case tw2x2=>kernel_rfl
    case to2x2=>rfl
    case tx2x2=>kernel_rfl
   simp only[pz]
   refine wpAnyH_ready (rs:=[1]) (by kernel_rfl) (by simp) ?_
   refine AllReadyH.cons rfl (fun K' hKK=>?_) AllReadyH.nil
   go_simp
   refine(aw _).mono ?_
   rintro x w2 ⟨rfl,hb3⟩
   have hs3:=hb3.size
   have W2:Below w.heap.size w w2:=hb2.drew.trans (hb3.mono (by show w.heap.size<=(wr.alloc (.cells cx.toArray 48)).heap.size;omega))
   have B2:w2.rangeAt w.heap.size 0 (kcells k0):=zad (w:=(wr.alloc (.cells cx.toArray 48)).drew) B0.out hb3 (by show w.heap.size<(wr.alloc (.cells cx.toArray 48)).heap.size;omega)
   have Z2:w.heap.size+1<=w2.heap.size:=Nat.le_trans (by show w.heap.size+1<=(wr.alloc (.cells cx.toArray 48)).heap.size;omega) hs3
   refine hKK.out _ _ ⟨zad (w:=(wr.alloc (.cells cx.toArray 48)).drew) D0.out hb3 (by show wr.heap.size<(wr.alloc (.cells cx.toArray 48)).heap.size;omega),B2⟩ (fun al=>?_)
   clear hKK K'
   refine wpAnyH_take (i:=3) (oi:=?op3x3) (v:=.bool eq) ?ta3x3 ?tb3x3 ?tc3x3 ?td3x3 ?tq3x3 ?ty3x3 al ?_
   case ta3x3=>rfl
   case tb3x3=>kernel_rfl
   case tc3x3=>kernel_rfl
   case td3x3=>kernel_rfl
   case tq3x3=>exact fun _ _ _ h=>h
   case ty3x3=>
    refine Or.inl ⟨by rfl,?_⟩
    intro z hSz
    have u3:=Tryz.underlying3
    have u9:=Tryz.underlying9
    simp only[kcells]
    go_simp
    rw[<-hq]
    by_cases h1:ek.1.toList=k0.1.toList<;>by_cases h2:ek.2=k0.2<;>simp[h1,h2]
   simp only[pz]
   refine wpAnyH_done (by kernel_rfl) ?_ _
   clear D0 B0 hb2 hz2 hb3 hs3 aw hq
   have B2':=zac B2
   clear B2
   cases eq with
   | true=>
    go_wp2_with fail
    go_ret2
    have hs:ixK (L.map (·.k)) k0=some k:=zid (by rw[<-of_decide_eq_true iE.out];exact hel.out) aN.out
    refine⟨?_,W2⟩
    unfold fndV
    rw[hs]
    rfl
   | false=>
    go_wp2_with fail
    go_roundw
    case rel=>
     refine⟨k+1,by omega,by go_num,fun j a hj ha=>?_,W2,Z2,B2'.out⟩
     rcases Nat.lt_or_ge j k with h | h
     ·exact aN.out j a h ha
     ·obtain rfl:j=k:=by omega
      rw[hel.out] at ha
      cases ha
      exact of_decide_eq_false iE.out
    case measure=>simp[intOf];omega
  ·obtain rfl:k=n:=by omega
   go_wp2_with fail
   go_ret2
   have hs:ixK (L.map (·.k)) k0=none:=zie fun j a ha=>aN.out j a (by
    have:=(List.getElem?_eq_some_iff.1 ha).1
    simp at this
    omega) ha
   refine⟨?_,hbw⟩
   unfold fndV
   rw[hs]
   rfl
theorem zjq {w:World} (q:Option Addr) (c:Nat) (k0:Ky):
  Calls Tryz.prog 12 #[.slice q 0 c,.agg #[.string k0.1,.int .i64 k0.2]] w fun x w'=>x=.returned (.tuple #[.int .i64 0,.bool false])/\Below w.heap.size w w':=by
 go_enter Tryz.func12,Tryz.ntmps12
 go_wp2_with fail
 refine wp_loop_once ?_
 go_wp2_with fail
 go_ret2
 exact⟨rfl,zci _ _⟩
theorem rfind_ok {w:World} {q:Option Addr} {n:Nat} (c:Nat) {L:List En} (h:LibOk w q n L) (k0:Ky):
  Calls Tryz.prog 12 #[.slice q n c,.agg #[.string k0.1,.int .i64 k0.2]] w fun x w'=>x=.returned (fndV (L.map (·.k)) k0)/\Below w.heap.size w w':=by
 obtain⟨h1,h2,h3,h4⟩:=h
 rcases h4 with rfl | ⟨b,o,rfl,hlt,hc⟩
 ·obtain rfl:L=[]:=List.eq_nil_of_length_eq_zero h1
  exact zjq q c k0
 ·exact zjp b o n c L h1 h2 h3 hlt hc k0
end Go.Proofs.YtaonejnicgbifaaGreatDoor
namespace Go.Proofs.YtaonejnicgbifaaGreatDoor
open Go Go.RowKit Go.Maps Go.Sort Go.Shelf
set_option maxRecDepth 100000
set_option maxHeartbeats 16000000
def keys81_ren:Go.Shelf.Ren:=⟨fun | 7=>81 | 10=>115 | n=>n,fun | 23=>132 | 26=>9 | 3=>4 | 28=>137 | 0=>0 | 27=>136 | 33=>88 | 4=>4 | n=>n,fun | n=>n⟩
theorem keys81:Go.Proofs.SlLaysZ.n7 Tryz.prog keys81_ren:={
 mixed:=by kernel_rfl
 f7:=⟨Tryz.f81.name,by decide,Tryz.func81.trans (congrArg some (by kernel_rfl))⟩
 f10:=⟨Tryz.f115.name,by decide,Tryz.func115.trans (congrArg some (by kernel_rfl))⟩
 t0:=Tryz.underlying0
 a0:=Tryz.isAgg0
 z0:=Tryz.sizeOf0
 v0:=Tryz.zeroValue0
 t4:=Tryz.underlying4
 a4:=Tryz.isAgg4
 z4:=Tryz.sizeOf4
 v4:=Tryz.zeroValue4
 t23:=Tryz.underlying132
 a23:=Tryz.isAgg132
 z23:=Tryz.sizeOf132
 v23:=Tryz.zeroValue132
 t26:=Tryz.underlying9
 a26:=Tryz.isAgg9
 z26:=Tryz.sizeOf9
 v26:=Tryz.zeroValue9
 t27:=Tryz.underlying136
 a27:=Tryz.isAgg136
 z27:=Tryz.sizeOf136
 v27:=Tryz.zeroValue136
 t28:=Tryz.underlying137
 a28:=Tryz.isAgg137
 z28:=Tryz.sizeOf137
 v28:=Tryz.zeroValue137
 t33:=Tryz.underlying88
 a33:=Tryz.isAgg88
 z33:=Tryz.sizeOf88
 v33:=Tryz.zeroValue88 }
def sorted80_ren:Go.Shelf.Ren:=⟨fun | 6=>80 | 8=>113 | 9=>114 | 11=>147 | 13=>149 | 12=>148 | 23=>182 | 24=>183 | 14=>173 | 15=>174 | 16=>175 | 17=>176 | 18=>177 | 19=>178 | 20=>179 | 21=>180 | 22=>181 | 25=>197 | 26=>198 | 27=>199 | 28=>200 | 29=>201 | 30=>202 | 31=>224 | n=>n,fun | 26=>9 | 28=>137 | 24=>99 | 0=>0 | 3=>3 | 37=>170 | 48=>150 | 50=>120 | 4=>4 | 40=>223 | 39=>222 | 45=>40 | 5=>5 | 9=>9 | 51=>238 | 55=>242 | 57=>246 | 58=>247 | 33=>88 | n=>n,fun | n=>n⟩
theorem sorted80:Go.Proofs.SlLaysZ.n6 Tryz.prog sorted80_ren:={
 mixed:=by kernel_rfl
 f6:=⟨Tryz.f80.name,by decide,Tryz.func80.trans (congrArg some (by kernel_rfl))⟩
 f8:=⟨Tryz.f113.name,by decide,Tryz.func113.trans (congrArg some (by kernel_rfl))⟩
 f11:=⟨Tryz.f147.name,by decide,Tryz.func147.trans (congrArg some (by kernel_rfl))⟩
 t0:=Tryz.underlying0
 a0:=Tryz.isAgg0
 z0:=Tryz.sizeOf0
 v0:=Tryz.zeroValue0
 t24:=Tryz.underlying99
 a24:=Tryz.isAgg99
 z24:=Tryz.sizeOf99
 v24:=Tryz.zeroValue99
 t26:=Tryz.underlying9
 a26:=Tryz.isAgg9
 z26:=Tryz.sizeOf9
 v26:=Tryz.zeroValue9
 t28:=Tryz.underlying137
 a28:=Tryz.isAgg137
 z28:=Tryz.sizeOf137
 v28:=Tryz.zeroValue137
 i26:=by kernel_rfl }
def sort114_ren:Go.Shelf.Ren:=⟨fun | 6=>114 | 8=>149 | 9=>148 | 19=>182 | 20=>183 | 21=>173 | 22=>174 | 23=>175 | 24=>176 | 25=>177 | 26=>178 | 27=>179 | 28=>180 | 29=>181 | 36=>197 | 31=>198 | 32=>199 | 37=>200 | 38=>201 | 39=>202 | 41=>224 | n=>n,fun | 27=>99 | 29=>9 | 3=>3 | 32=>170 | 26=>99 | 0=>0 | 44=>150 | 46=>120 | 4=>4 | 36=>223 | 35=>222 | 41=>40 | 5=>5 | 9=>9 | 53=>238 | 57=>242 | 63=>246 | 64=>247 | n=>n,fun | n=>n⟩
theorem zld:Go.Proofs.SlLaysM.n6 Tryz.prog sort114_ren:={
 mixed:=by kernel_rfl
 f6:=⟨Tryz.f114.name,by decide,Tryz.func114.trans (congrArg some (by kernel_rfl))⟩
 f8:=Tryz.func149.trans (congrArg some (by kernel_rfl))
 f9:=⟨Tryz.f148.name,by decide,Tryz.func148.trans (congrArg some (by kernel_rfl))⟩
 f19:=Tryz.func182.trans (congrArg some (by kernel_rfl))
 f20:=Tryz.func183.trans (congrArg some (by kernel_rfl))
 f21:=⟨Tryz.f173.name,by decide,Tryz.func173.trans (congrArg some (by kernel_rfl))⟩
 f22:=⟨Tryz.f174.name,by decide,Tryz.func174.trans (congrArg some (by kernel_rfl))⟩
 f23:=⟨Tryz.f175.name,by decide,Tryz.func175.trans (congrArg some (by kernel_rfl))⟩
 f24:=⟨Tryz.f176.name,by decide,Tryz.func176.trans (congrArg some (by kernel_rfl))⟩
 f25:=⟨Tryz.f177.name,by decide,Tryz.func177.trans (congrArg some (by kernel_rfl))⟩
 f26:=⟨Tryz.f178.name,by decide,Tryz.func178.trans (congrArg some (by kernel_rfl))⟩
 f27:=⟨Tryz.f179.name,by decide,Tryz.func179.trans (congrArg some (by kernel_rfl))⟩
 f28:=⟨Tryz.f180.name,by decide,Tryz.func180.trans (congrArg some (by kernel_rfl))⟩
 f29:=⟨Tryz.f181.name,by decide,Tryz.func181.trans (congrArg some (by kernel_rfl))⟩
 f31:=Tryz.func198.trans (congrArg some (by kernel_rfl))
 f32:=Tryz.func199.trans (congrArg some (by kernel_rfl))
 f36:=⟨Tryz.f197.name,by decide,Tryz.func197.trans (congrArg some (by kernel_rfl))⟩
 f37:=⟨Tryz.f200.name,by decide,Tryz.func200.trans (congrArg some (by kernel_rfl))⟩
 f38:=⟨Tryz.f201.name,by decide,Tryz.func201.trans (congrArg some (by kernel_rfl))⟩
 f39:=⟨Tryz.f202.name,by decide,Tryz.func202.trans (congrArg some (by kernel_rfl))⟩
 f41:=⟨Tryz.f224.name,by decide,Tryz.func224.trans (congrArg some (by kernel_rfl))⟩
 t0:=Tryz.underlying0
 a0:=Tryz.isAgg0
 z0:=Tryz.sizeOf0
 v0:=Tryz.zeroValue0
 t3:=Tryz.underlying3
 a3:=Tryz.isAgg3
 z3:=Tryz.sizeOf3
 v3:=Tryz.zeroValue3
 t4:=Tryz.underlying4
 a4:=Tryz.isAgg4
 z4:=Tryz.sizeOf4
 v4:=Tryz.zeroValue4
 t5:=Tryz.underlying5
 a5:=Tryz.isAgg5
 z5:=Tryz.sizeOf5
 v5:=Tryz.zeroValue5
 t9:=Tryz.underlying9
 a9:=Tryz.isAgg9
 z9:=Tryz.sizeOf9
 v9:=Tryz.zeroValue9
 t26:=Tryz.underlying99
 a26:=Tryz.isAgg99
 z26:=Tryz.sizeOf99
 v26:=Tryz.zeroValue99
 t27:=Tryz.underlying99
 a27:=Tryz.isAgg99
 z27:=Tryz.sizeOf99
 v27:=Tryz.zeroValue99
 t29:=Tryz.underlying9
 a29:=Tryz.isAgg9
 z29:=Tryz.sizeOf9
 v29:=Tryz.zeroValue9
 t32:=Tryz.underlying170
 a32:=Tryz.isAgg170
 z32:=Tryz.sizeOf170
 v32:=Tryz.zeroValue170
 t35:=Tryz.underlying222
 a35:=Tryz.isAgg222
 z35:=Tryz.sizeOf222
 v35:=Tryz.zeroValue222
 t36:=Tryz.underlying223
 a36:=Tryz.isAgg223
 z36:=Tryz.sizeOf223
 v36:=Tryz.zeroValue223
 t41:=Tryz.underlying40
 a41:=Tryz.isAgg40
 z41:=Tryz.sizeOf40
 v41:=Tryz.zeroValue40
 t44:=Tryz.underlying150
 a44:=Tryz.isAgg150
 z44:=Tryz.sizeOf150
 v44:=Tryz.zeroValue150
 t46:=Tryz.underlying120
 a46:=Tryz.isAgg120
 z46:=Tryz.sizeOf120
 v46:=Tryz.zeroValue120
 t53:=Tryz.underlying238
 a53:=Tryz.isAgg238
 z53:=Tryz.sizeOf238
 v53:=Tryz.zeroValue238
 t57:=Tryz.underlying242
 a57:=Tryz.isAgg242
 z57:=Tryz.sizeOf242
 v57:=Tryz.zeroValue242
 t63:=Tryz.underlying246
 a63:=Tryz.isAgg246
 z63:=Tryz.sizeOf246
 v63:=Tryz.zeroValue246
 t64:=Tryz.underlying247
 a64:=Tryz.isAgg247
 z64:=Tryz.sizeOf247
 v64:=Tryz.zeroValue247 }
theorem sorts80 (m:Nat):AnyZ.SortsIn Tryz.prog sorted80_ren Fence.wide m:=
 ⟨fun blk off cap ss W hH aP hsz=>callsIn_wide.2 (AnyM.slices_Sort_string zld blk off cap ss W hH aP hsz),
  fun p cap W=>callsIn_wide.2 (AnyM.slices_Sort_string_none zld p cap W)⟩
theorem zgo (mb:Option Nat) (W:World):CallsIn Fence.wide 5 Tryz.prog 81 #[.map mb] W fun e w'=>e=.returned (.func (.func 115) #[] #[.pointer (some ⟨W.heap.size,0,none⟩)])/\w'=W.alloc (.cells #[.map mb] 132):=
 AnyZ.keys_in keys81 Fence.wide 5 trivial rfl mb W
theorem zb7 {H:Type} (b nn:Nat) (D0:DataW H) (R:Value->Option (DataW H × List MemPlace)) (w:World) (aB:w.ownsMap Tryz.prog 9 R b nn D0) (jV:Maps.size D0<=maxLen) (gA:Maps.size D0*16<=140737488355328):
  CallsIn Fence.wide 5 Tryz.prog 80 #[.func (.func 115) #[] #[.pointer (some ⟨w.heap.size,0,none⟩)]] (w.alloc (.cells #[.map (some b)] 132)) fun e w'=>∃(v:Value) (ss:List (List UInt8)),e=.returned v/\ss.Perm (strKeys D0)/\
   w'.ownsRow (w.alloc (.cells #[.map (some b)] 132)).heap.size 9 1 v ss.length ((ss.mergeSort (fun x y=>decide (x<=y))).map encStr)/\(v=.slice none 0 0↔ss=[])/\Below (w.alloc (.cells #[.map (some b)] 132)).heap.size (w.alloc (.cells #[.map (some b)] 132)) w':=by
 have hbl:=aB.lt
 have jW:SeqGives Fence.wide 2 Tryz.prog 115 #[.pointer (some ⟨w.heap.size,0,none⟩)] encStr (fun ss=>ss.Perm (strKeys D0)) (Maps.size D0) (w.alloc (.cells #[.map (some b)] 132)):=
  AnyZ.keys_gives (ρ:=keys81_ren) { keys81 with } Fence.wide _ trivial rfl (by omega) w.heap.size b nn D0 _ (by simp) (by simp) (by
   obtain⟨es,clock,hb,Ft,hs,hD⟩:=aB
   exact⟨es,clock,(Below.heap_alloc _ _ b hbl).trans hb,Ft,hs,hD⟩)
 exact AnyZ.sorted_in sorted80 Fence.wide 5 trivial trivial trivial trivial rfl (by omega) (sorts80 _) (enters_of Tryz.func114 (by kernel_rfl) rfl) 115 #[.pointer (some ⟨w.heap.size,0,none⟩)] trivial (enters_of Tryz.func115 (by kernel_rfl) rfl) _ _ jV gA _ jW
end Go.Proofs.YtaonejnicgbifaaGreatDoor
namespace Go.Proofs.YtaonejnicgbifaaGreatDoor
open Go Go.RowKit Go.Maps Go.Shelf
set_option maxRecDepth 100000
set_option maxHeartbeats 16000000
attribute [local go_sem] Oper.semAt_some
def Ex.nds:Ex->List (Int × ByteArray)
 | .non=>[]
 | .mk k _ _ _ _ m c ar=>(k,m)::(List.range c).flatMap fun i=>(ar i).nds
theorem Ex.nds_mk (k f:Int) (ng:Bool) (nu de:List Int) (m:ByteArray) (c:Nat) (ar:Nat->Ex):(Ex.mk k f ng nu de m c ar).nds=(k,m)::(List.range c).flatMap fun i=>(ar i).nds:=by rw[Ex.nds]
theorem zhq {k f:Int} {ng:Bool} {X Y:Int} {m:ByteArray} {n:Nat} (h:nodeOk k f ng X Y m n=true):m.size<=8:=by
 unfold nodeOk at h
 rw[Bool.and_eq_true] at h
 replace h:=h.2
 split at h
 ·simp only[Bool.and_eq_true,decide_eq_true_eq] at h
  omega
 ·rw[Bool.and_eq_true] at h
  replace h:=h.2
  split at h
  ·unfold nameB at h
   simp only[Bool.and_eq_true,decide_eq_true_eq] at h
   exact h.1
  ·simp only[decide_eq_true_eq] at h
   omega
theorem zfl {α:Type} {P:Nat->Nat->Option Nat} {L:Nat->List α} {G:Nat->Prop} (hP:∀i a a',P i a=some a'->a'=a+(L i).length/\G i):
  ∀{c n a:Nat},cntF P c n=some a->a=n+((List.range c).flatMap L).length/\∀i,i<c->G i
 | 0,n,a,h=>by
  simp only[cntF,Option.some.injEq] at h
  exact⟨by simp[h],fun i hi=>by omega⟩
 | c+1,n,a,h=>by
  unfold cntF at h
  cases hq:cntF P c n with
  | none=>rw[hq] at h;cases h
  | some x=>
   rw[hq] at h
   obtain⟨h1,h2⟩:=zfl hP hq
   obtain⟨h3,h4⟩:=hP _ _ _ h
   refine⟨by simp only[List.range_succ,List.flatMap_append,List.length_append,List.flatMap_cons,List.flatMap_nil,List.append_nil];omega,fun i hi=>?_⟩
   rcases Nat.lt_or_ge i c with hi' | hi'
   ·exact h2 i hi'
   ·obtain rfl:i=c:=by omega
    exact h4
theorem zhr:∀(x:Ex) (d n a:Nat),x.cnt d n=some a->a=n+x.nds.length/\∀p∈x.nds,p.2.size<=8:=by
 intro x
 induction x with
 | non=>intro d n a h;cases h
 | mk k f ng nu de m c ar ih=>
  intro d n a h
  unfold Ex.cnt at h
  split at h
  ·rename_i hc
   obtain⟨h1,h2⟩:=zfl (L:=fun i=>(ar i).nds) (G:=fun i=>∀p∈(ar i).nds,p.2.size<=8) (fun i a a' h=>ih i _ _ _ h) h
   refine⟨by rw[Ex.nds_mk,List.length_cons];omega,fun p hp=>?_⟩
   rw[Ex.nds_mk] at hp
   rcases List.mem_cons.1 hp with rfl | hp
   ·exact zhq hc.2.2
   ·obtain⟨i,hi,hp⟩:=List.mem_flatMap.1 hp
    exact h2 i (List.mem_range.1 hi) p hp
  ·cases h
theorem zik {α:Type} (L:Nat->List α) {j c:Nat} (h:j<c):((List.range j).flatMap L).length+(L j).length<=((List.range c).flatMap L).length:=by
 induction c with
 | zero=>omega
 | succ c ih=>
  simp only[List.range_succ,List.flatMap_append,List.length_append,List.flatMap_cons,List.flatMap_nil,List.append_nil]
  rcases Nat.lt_or_ge j c with h' | h'
  ·have:=ih h'
   omega
  ·obtain rfl:j=c:=by omega
   omega
theorem zgp {F:Fence} (hd:F.depth=none) (k:Nat):F.room k:=fun d h=>by rw[hd] at h;cases h
theorem RoundIn.anyDepth {F:Fence} (hd:F.depth=none) {m m':Nat} {P:Program} {l:Nat} {f:FuncId} {tmps:Array Value} {assign body:Code} {w:World} {R:Ending->World->Prop}
 (h:RoundIn F m P l f tmps assign body w R):RoundIn F m' P l f tmps assign body w R:=⟨h.1,fun c cs _=>h.2 c cs (zgp hd _)⟩
theorem YieldAt.anyDepth {F:Fence} (hd:F.depth=none) {m:Nat} (m':Nat) {P:Program} {l:Nat} {args:Array Value} {W:World} {R:Ending->World->Prop} (h:YieldAt F m P l args W R):YieldAt F m' P l args W R:=by
 obtain⟨fn,tmps,assign,body,hy,hR⟩:=h
 exact⟨fn,tmps,assign,body,hy,RoundIn.anyDepth hd hR⟩
structure KeepsCells (W W':World):Prop where
 size:W.heap.size<=W'.heap.size
 same:∀(k:Nat) (o:Obj),W.heap[k]?=some o->o.isCells=true->W'.heap[k]?=some o
theorem KeepsCells.refl (W:World):KeepsCells W W:=⟨Nat.le_refl _,fun _ _ h _=>h⟩
theorem KeepsCells.trans {A B C:World} (h:KeepsCells A B) (k:KeepsCells B C):KeepsCells A C:=⟨Nat.le_trans h.size k.size,fun i o hi ho=>k.same i o (h.same i o hi ho) ho⟩
theorem KeepsCells.alloc (W:World) (o:Obj):KeepsCells W (W.alloc o):=⟨by simp,fun k o' h _=>(Below.heap_alloc _ _ _ (Array.getElem?_eq_some_iff.1 h).1).trans h⟩
theorem KeepsCells.blk {W W':World} (h:KeepsCells W W') {N:Nat} {t:TypeId} {cs:Array Value} (hN:BlkI W N t cs):BlkI W' N t cs:=h.same _ _ hN rfl
def KpN (n₀:Nat) (W W':World):Prop:=Below n₀ W W'/\KeepsCells W W'
theorem zle {n₀:Nat} {A B C:World} (h:KpN n₀ A B) (k:KpN n₀ B C):KpN n₀ A C:=⟨h.1.trans k.1,h.2.trans k.2⟩
theorem KpN.refl (n₀:Nat) (W:World):KpN n₀ W W:=⟨Below.refl _ _,KeepsCells.refl _⟩
theorem KpN.alloc {n₀:Nat} {A B:World} (h:KpN n₀ A B) (hn:n₀<=B.heap.size) (o:Obj):KpN n₀ A (B.alloc o):=⟨h.1.alloc hn o,h.2.trans (KeepsCells.alloc _ _)⟩
abbrev Nv:={ d:Nd // d.m.size<=8 }
def Nv.key (x:Nv):Int × ByteArray:=(x.1.k,x.1.m)
theorem each_in (F:Fence) (hd:F.depth=none) (eQ:F.fn 112) (hro:F.round=none) (l N:Nat) (w0:World) (J Jx:List Nv->World->Prop) (hJa:∀pre W o,J pre W->J pre (W.alloc o))
  (hY:∀m pre (x:Nv) W,J pre W->pre.length<N->YieldAt F m Tryz.prog l #[x.1.val] W fun e W'=>
    (e=.returned (.bool true)/\J (pre++[x]) W'/\KpN w0.heap.size W W')\/(e=.returned (.bool false)/\Jx (pre++[x]) W')) (x:Ex):
  ∀(n:Nat) (d:Nd) (pre:List Nv) (W:World),ExOk w0 x d->(∀p∈x.nds,p.2.size<=8)->Below w0.heap.size w0 W->J pre W->pre.length+x.nds.length<=N->
   CallsIn F n Tryz.prog 112 #[d.val,.func (.yield l) #[] #[]] W fun e W'=>
    (e=.returned (.bool true)/\(∃q:List Nv,q.map Nv.key=x.nds/\J (pre++q) W')/\KpN w0.heap.size W W')\/(e=.returned (.bool false)/\∃q:List Nv,Jx (pre++q) W'):=by
 induction x with
 | non=>intro n d pre W h;exact h.elim
 | mk k f ng nu de m c ar ih=>
  intro n d pre W hx hsz hbw hJ hN
  have hdd:∀k:Nat,(F.depth.isSome=true->1<=k):=fun k h=>by rw[hd] at h;cases h
  have aj:(Ex.mk k f ng nu de m c ar).nds.length=1+((List.range c).flatMap fun i=>(ar i).nds).length:=by rw[Ex.nds_mk,List.length_cons];omega
  have hx0:=hx
  obtain⟨k',f',ng',aq,an,ac,cq,cn',cc,m',sq,sn,sc⟩:=d
  unfold ExOk at hx
  obtain⟨⟨rfl,rfl,rfl,rfl,rfl⟩,-,-,-,-,hn,hk⟩:=hx
  simp only at hk hn
  have hm8:m'.size<=8:=hsz (k',m') (by rw[Ex.nds_mk];exact List.mem_cons_self)
  obtain⟨X,hX⟩:∃X:Nv,X=⟨⟨k',f',ng',aq,an,ac,cq,cn',cc,m',sq,sn,sc⟩,hm8⟩:=⟨_,rfl⟩
  have hXk:Nv.key X=(k',m'):=by rw[hX];rfl
  have hXv:X.1.val=.agg (mA k' f' ng' aq an ac cq cn' cc m' sq sn sc):=by rw[hX];rfl
  clear hX
  have hW:w0.heap.size<=W.heap.size:=hbw.size
  have hKb:KpN w0.heap.size W (W.alloc (.cells (mA k' f' ng' aq an ac cq cn' cc m' sq sn sc) 30)):=(KpN.refl _ _).alloc hW _
  have aP:BlkI (W.alloc (.cells (mA k' f' ng' aq an ac cq cn' cc m' sq sn sc) 30)) W.heap.size 30 (mA k' f' ng' aq an ac cq cn' cc m' sq sn sc):=heap_alloc_new _ _
  have hy:=hY (n - 1) pre X _ (hJa pre W (.cells (mA k' f' ng' aq an ac cq cn' cc m' sq sn sc) 30) hJ) (by omega)
  rw[hXv] at hy
  have hy2:YieldAt F (n - 1) Tryz.prog l #[.agg (mA k' f' ng' aq an ac cq cn' cc m' sq sn sc)] (W.alloc (.cells (mA k' f' ng' aq an ac cq cn' cc m' sq sn sc) 30)) fun e W2=>
    (e=.returned (.bool true)/\J (pre++[X]) W2/\KpN w0.heap.size W W2/\Below w0.heap.size w0 W2/\W2.cell? ⟨W.heap.size,6,none⟩=some (.slice sq sn sc))\/(e=.returned (.bool false)/\Jx (pre++[X]) W2):=
   YieldAt.mono hy fun e W2 h=>h.elim (fun⟨he,hj,hk2⟩=>.inl ⟨he,hj,zle hKb hk2,hbw.trans ((zle hKb hk2).1),(hk2.2.blk aP).cell 6⟩) .inr
  clear hy aP
  obtain⟨fn,tmps,assign,body,hy,hR⟩:=hy2
  simp only[Nd.val]
  refine callsIn_of_wp Tryz.func112 rfl eQ ?_ hro
  simp only[Tryz.ntmps112,List.size_toArray,List.length_cons,List.length_nil,Nat.reduceAdd,Nat.reduceSub,Array.replicate_succ,Array.replicate_zero,List.push_toArray,List.append_toArray,List.nil_append,List.cons_append]
  gi_wp2_with ((try refine⟨hdd _,?_⟩);refine hR.mono ?_;clear hR;rintro e W2 (⟨rfl,hJ2,hk2,dJ,c6⟩ | ⟨rfl,hx2⟩))
  ·gi_loopw [14] (fun i wr=>∃j:Nat,j<=sn/\i=.int .i64 j/\(∃q:List Nv,q.map Nv.key=((List.range j).flatMap fun i=>(ar i).nds)/\J (pre++[X]++q) wr)/\KpN w0.heap.size W wr/\Below w0.heap.size w0 wr) (fun i _=>sn - (intOf i).toNat)
   case atStart=>exact⟨0,Nat.zero_le _,rfl,⟨[],rfl,by simpa using hJ2⟩,hk2,dJ⟩
   case round=>
    obtain⟨j,hj,rfl,⟨q,hq,hJq⟩,hkr,hbr⟩:=hrel
    have iF:Hid (J (pre++[X]++q) wr):=hJq
    have hq':=zac hq
    have eP:Hid (KpN w0.heap.size W wr):=hkr
    have gC:Hid (Below w0.heap.size w0 wr):=hbr
    clear hq hJq hkr hbr hJ2 hk2 dJ c6
    by_cases hlt:j<sn
    ·have aA:(j:Int)<(sn:Int):=by omega
     rcases hk with h0 | ⟨b,o,rfl,hb0,ds,hds⟩
     ·omega
     have hql:=congrArg List.length hq'.out
     rw[List.length_map] at hql
     have hll:=zik (fun i=>(ar i).nds) hlt
     obtain⟨x0,x1,x2,x3,x4,x5,x6⟩:=(hds j hlt).1.below gC.out hb0
     have hwr:w0.heap.size<=wr.heap.size:=gC.out.size
     have ihj:=ih j (n - 1) (ds j) (pre++[X]++q) (wr.alloc (.cells (nA (ds j)) 30)) (hds j hlt).2
      (fun p hp=>hsz p (by rw[Ex.nds_mk];exact List.mem_cons_of_mem _ (List.mem_flatMap.2 ⟨j,List.mem_range.2 hlt,hp⟩))) (gC.out.alloc hwr _) (hJa _ _ _ iF.out) (by simp only[List.length_append,List.length_cons,List.length_nil];omega)
     simp only[Nd.val] at ihj
     have hk4:Hid (KpN w0.heap.size W (wr.alloc (.cells (nA (ds j)) 30))):=eP.out.alloc hwr _
     clear hy hll hql
     gi_wp2_with ((try refine⟨hdd _,?_⟩);gi_at_call 112;refine ihj.mono ?_;clear ihj;rintro e W3 (⟨rfl,⟨q3,hq3,hJ3⟩,hk3⟩ | ⟨rfl,q3,hx3⟩))
     ·go_roundw
      case rel=>
       refine⟨j+1,by omega,by go_num,⟨q++q3,?_,by simpa [List.append_assoc] using hJ3⟩,zle hk4.out hk3,hbw.trans (zle hk4.out hk3).1⟩
       rw[List.map_append,hq'.out,hq3,List.range_succ,List.flatMap_append]
       simp
      case measure=>simp[intOf];omega
     ·go_ret
      exact .inr ⟨rfl,[X]++q++q3,by simpa [List.append_assoc] using hx3⟩
    ·obtain rfl:j=sn:=by omega
     gi_wp2
     go_ret
     exact .inl ⟨rfl,⟨X::q,by rw[List.map_cons,hXk,hq'.out,Ex.nds_mk],by simpa using iF.out⟩,eP.out⟩
  ·go_ret
   exact .inr ⟨rfl,[X],hx2⟩
theorem zlf (F:Fence) (hd:F.depth=none) (n:Nat) (gD:F.fn 111) (eQ:F.fn 112) (hro:F.round=none) (l Bn:Nat) (w0:World) (x:Ex) (d:Nd) (J Jx:List Nv->World->Prop) (hJa:∀pre W o,J pre W->J pre (W.alloc o))
  (hY:∀pre (x':Nv) W,J pre W->pre.length<x.nds.length->YieldAt F (n - 1) Tryz.prog l #[x'.1.val] W fun e W'=>
    (e=.returned (.bool true)/\J (pre++[x']) W'/\KpN w0.heap.size W W')\/(e=.returned (.bool false)/\Jx (pre++[x']) W'))
  (W:World) (hB:BlkI W Bn 30 (nA d)) (hx:ExOk w0 x d) (hsz:∀p∈x.nds,p.2.size<=8) (hbw:Below w0.heap.size w0 W) (h0:J [] W):
  CallsIn F n Tryz.prog 111 #[.func (.yield l) #[] #[],.pointer (some ⟨Bn,0,none⟩)] W fun e W'=>(∃v,e=.returned v)/\
   ((∃ys:List Nv,ys.map Nv.key=x.nds/\J ys W')\/(∃pre:List Nv,True/\Jx pre W')):=by
 have hdd:∀k:Nat,(F.depth.isSome=true->1<=k):=fun k h=>by rw[hd] at h;cases h
 have hp:=each_in F hd eQ hro l x.nds.length w0 J Jx hJa (fun m pre x' W hj hl=>YieldAt.anyDepth hd m (hY pre x' W hj hl)) x (n - 1) d [] W hx hsz hbw h0 (by simp)
 simp only[Nd.val] at hp
 obtain⟨x0,x1,x2,x3,x4,x5,x6⟩:=hB.c7
 clear hB hY
 refine callsIn_of_wp Tryz.func111 rfl gD ?_ hro
 simp only[Tryz.ntmps111,List.size_toArray,List.length_cons,List.length_nil,Nat.reduceAdd,Nat.reduceSub,Array.replicate_succ,Array.replicate_zero,List.push_toArray,List.append_toArray,List.nil_append,List.cons_append]
 gi_wp2_with ((try refine⟨hdd _,?_⟩);gi_at_call 112;refine hp.mono ?_;clear hp;rintro e W1 (⟨rfl,⟨q,hq,hJ1⟩,_⟩ | ⟨rfl,q,hx⟩))
 ·go_end0
  exact⟨⟨_,rfl⟩,.inl ⟨q,hq,by simpa using hJ1⟩⟩
 ·go_end0
  exact⟨⟨_,rfl⟩,.inr ⟨q,trivial,by simpa using hx⟩⟩
theorem nodes_in (F:Fence) (n:Nat) (h79:F.fn 79) (hro:F.round=none) (d:Nd) (w:World):
  CallsIn F n Tryz.prog 79 #[d.val] w fun e w'=>e=.returned (.func (.func 111) #[] #[.pointer (some ⟨w.heap.size,0,none⟩)])/\w'=w.alloc (.cells (nA d) 30):=by
 simp only[Nd.val]
 refine callsIn_of_wp Tryz.func79 rfl h79 ?_ hro
 simp only[Tryz.ntmps79,List.size_toArray,List.length_cons,List.length_nil,Nat.reduceAdd,Nat.reduceSub,Array.replicate_succ,Array.replicate_zero,List.push_toArray,List.append_toArray,List.nil_append,List.cons_append]
 gi_wp2
 go_ret
 exact⟨rfl,rfl⟩
theorem zhs (F:Fence) (hd:F.depth=none) (n:Nat) (gD:F.fn 111) (eQ:F.fn 112) (hro:F.round=none) (Bn:Nat) (w0 w:World) (x:Ex) (d:Nd)
  (hB:BlkI w Bn 30 (nA d)) (hx:ExOk w0 x d) (hsz:∀p∈x.nds,p.2.size<=8) (hbw:Below w0.heap.size w0 w):
  SeqStopsK F n Tryz.prog 111 #[.pointer (some ⟨Bn,0,none⟩)] (fun x':Nv=>#[x'.1.val]) (KpN w0.heap.size) (fun ys=>ys.map Nv.key=x.nds) (fun _=>True) x.nds.length w:=fun l J Jx W hW hJ _ hY h0=>
 zlf F hd n gD eQ hro l Bn w0 x d J Jx (fun pre W o hj=>hJ pre W _ none hj (World.grownBy_alloc W o none) (fun r e=>by cases e)) hY W (hB.below hW) hx hsz (hbw.trans (hW.mono hbw.size)) h0
end Go.Proofs.YtaonejnicgbifaaGreatDoor
