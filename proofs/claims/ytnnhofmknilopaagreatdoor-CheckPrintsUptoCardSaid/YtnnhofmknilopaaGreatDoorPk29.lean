import Derived.Test.YtnnhofmknilopaaGreatDoorPk28
namespace Go.Proofs.YtnnhofmknilopaaGreatDoor
open Go Go.RowKit
set_option maxRecDepth 100000
set_option maxHeartbeats 16000000
def lnO (pre:List UInt8) (F:Nat->Option (List UInt8)):Nat->Option (List UInt8)
 | 0=>some pre
 | c+1=>(lnO pre F c).bind fun a=>(F c).map fun t=>a++32::t
def lnT (pre:List UInt8) (G:Nat->List UInt8):Nat->List UInt8
 | 0=>pre
 | c+1=>lnT pre G c++32::G c
theorem zf7 {pre:List UInt8} {F:Nat->Option (List UInt8)} {i c:Nat} (hi:i<c) (h:F i=none):lnO pre F c=none:=by
 induction c with
 | zero=>omega
 | succ c ih=>
  unfold lnO
  rcases Nat.lt_or_ge i c with h1 | h1
  ·rw[ih h1];rfl
  ·have:i=c:=by omega
   subst this
   rw[h]
   cases lnO pre F i<;>rfl
theorem zen {pre:List UInt8} {F:Nat->Option (List UInt8)} {G:Nat->List UInt8}:∀{n:Nat},(∀i,i<n->F i=some (G i))->lnO pre F n=some (lnT pre G n)
 | 0,_=>rfl
 | n+1,h=>by
  unfold lnO lnT
  rw[zen (n:=n) fun i hi=>h i (by omega),h n (by omega)]
  rfl
theorem zf8 {pre:List UInt8} {G:Nat->List UInt8} {L:Nat}:∀{n:Nat},(∀i,i<n->(G i).length<=L)->(lnT pre G n).length<=pre.length+(L+1)*n
 | 0,_=>by simp[lnT]
 | n+1,h=>by
  have h1:=zf8 (pre:=pre) (n:=n) fun i hi=>h i (by omega)
  have h2:=h n (by omega)
  unfold lnT
  rw[Nat.mul_add,Nat.mul_one]
  simp only[List.length_append,List.length_cons]
  omega
theorem zh2 (A N:List UInt8) (G:Nat->List UInt8):∀n,Lib.join ([A,N]++(List.range n).map G) [32]=lnT (A++32::N) G n
 | 0=>by simp[lnT,Lib.join_cons,Lib.joinTail]
 | n+1=>by
  rw[List.range_succ,List.map_append,List.map_singleton,<-List.append_assoc,zhp,zh2 A N G n,if_neg (by simp)]
  simp[lnT]
theorem zdk {w:World} {N:Nat} {d:Sd} (h:w.heap[N]?=some (.cells (sV d) 32 (0,0))):w.rangeAt N 0 d.cells:=fun j v hv=>by
 have h':w.heap[N]?=some (.cells d.cells.toArray 32 (0,0)):=h
 simp[World.cell?,h',hv]
theorem lit2 (w:World) (base:Nat) (hb:base<=w.heap.size) (a b:Value):(w.alloc (.cells #[a,b] 9)).ownsRow base 9 1 (.slice (some ⟨w.heap.size,0,none⟩) 2 2) 2 [a,b]:=
 World.ownsRow_lit w #[a,b] 2 hb (by decide) rfl
theorem lineP_ok {w:World} {d:Sd} {r:KR} {dep:Int} {F:Nat->Option (List UInt8)} (hr:r∈kR) (hru:d.s.ru=r.n) (hd0:0<=dep) (hd1:dep<=1000) (hTi:Ti w) (hnm:r.nm.length<=100) (hfl:r.fl.length<=4)
  (hF:∀z,Below w.heap.size w z->∀i,i<r.fl.length->Calls Tryz.prog 48 #[.agg d.cells.toArray,.int .u8 (r.fl.getD i 0).toNat] z (Rt z (resT (F i))))
  (hFl:∀i t,i<r.fl.length->F i=some t->t.length<=30000):
  Calls Tryz.prog 27 #[.agg (sV d),.int .i64 dep] w (Rt w (resT (lnO (Lib.itoa dep++32::r.nm) F r.fl.length))):=by
 obtain⟨i0,hi,hz0,hz1,hz2⟩:=info_parts (show(Tryz.prog.info? 9).map (fun i=>(i.zero,i.size,i.bytes))=some (some (.string ⟨#[]⟩),1,16) by kernel_rfl)
 obtain⟨dd,hu,hd⟩:=zay
 have hHu:=zab hu
 clear hu
 have b0:=zaa w (.cells (sV d) 32)
 have c0:Hid ((w.alloc (.cells (sV d) 32)).heap[w.heap.size]?=some (.cells (sV d) 32 (0,0))):=heap_alloc_new w _
 have hfd:=zgs hr (w.alloc (.cells (sV d) 32))
 rw[<-hru] at hfd
 unfold KR.val tx at hfd
 have b0':=zab b0
 have hF':=zab hF
 have dP:=zab hFl
 have bE:=zab hTi
 have hil:=zbn (n:=dep) (by show _<10000000000000000000;omega)
 have hit:=fun z hz=>zc5 dep (by omega) (by omega) z hz
 obtain⟨R,hR⟩:∃R,Hid (lnO (Lib.itoa dep++32::r.nm) F r.fl.length=R):=⟨_,rfl⟩
 rw[hR.out]
 obtain⟨I,hI⟩:∃I,Lib.itoa dep=I:=⟨_,rfl⟩
 rw[hI] at hil hit hR
 obtain⟨G,hG⟩:∃G:Nat->List UInt8,∀i,G i=(F i).getD []:=⟨_,fun _=>rfl⟩
 have hG':=zab hG
 clear b0 hF hFl hTi hru hG hI
 go_enter Tryz.func27,Tryz.ntmps27
 go_upto_region 2 with(go_at_call 20;refine hfd.mono ?_;rintro e w1 ⟨rfl,hb1⟩
                       have B1:=b0'.out.trans (hb1.mono b0'.out.size)
                       have c1:=zab ((hb1.block _ (Array.getElem?_eq_some_iff.1 c0.out).1).trans c0.out)
                       clear hfd hb1 c0)
 have m1:Hid ((w1.alloc (.cells #[.string ⟨r.nm.toArray⟩,.string ⟨r.fl.toArray⟩,.int .i64 r.k,.func (.func r.f) #[] #[]] 60)).heap[w1.heap.size]?=some (.cells #[.string ⟨r.nm.toArray⟩,.string ⟨r.fl.toArray⟩,.int .i64 r.k,.func (.func r.f) #[] #[]] 60 (0,0))):=heap_alloc_new w1 _
 have B2:=B1.trans ((zaa w1 (.cells #[.string ⟨r.nm.toArray⟩,.string ⟨r.fl.toArray⟩,.int .i64 r.k,.func (.func r.f) #[] #[]] 60)).mono B1.size)
 have c2:=zab (((zaa w1 (.cells #[.string ⟨r.nm.toArray⟩,.string ⟨r.fl.toArray⟩,.int .i64 r.k,.func (.func r.f) #[] #[]] 60)).block _ (Array.getElem?_eq_some_iff.1 c1.out).1).trans c1.out)
 have hIt:=hit _ (bE.out.below B2.drew)
 have B2':=zab B2
 have hN1:w.heap.size<w1.heap.size:=(Array.getElem?_eq_some_iff.1 c1.out).1
 obtain⟨y0,y1,y2,y3⟩:=zfz m1.out
 have hsz:(w1.alloc (.cells #[.string ⟨r.nm.toArray⟩,.string ⟨r.fl.toArray⟩,.int .i64 r.k,.func (.func r.f) #[] #[]] 60)).heap.size=w1.heap.size+1:=by simp
 clear B1 c1 B2 y1 y2 y3
 generalize (w1.alloc (.cells #[.string ⟨r.nm.toArray⟩,.string ⟨r.fl.toArray⟩,.int .i64 r.k,.func (.func r.f) #[] #[]] 60))=W at*
 generalize w1.heap.size=M at*
 go_region_held3 (fun z=>z.cell? ⟨M,0,none⟩=some (.string ⟨r.nm.toArray⟩))
  (first | exact y0 | exact y0' | exact((zaa w3 _).cell (by exact hM3)).trans y0')
  (first
    | (go_at_call 47;refine hIt.mono ?_;rintro e w3 ⟨rfl,hb3⟩
       have hs:W.drew.heap.size=M+1:=hsz
       have hM3:M<w3.heap.size:=by have:=hb3.size;omega
       have y0':w3.cell? ⟨M,0,none⟩=some (.string ⟨r.nm.toArray⟩):=(hb3.cell (by show M<_;omega)).trans y0))
 have B3:Hid (Below w.heap.size w w3):=B2'.out.drew.trans (hb3.mono B2'.out.drew.size)
 have c3:Hid (w3.heap[w.heap.size]?=some (.cells (sV d) 32 (0,0))):=(hb3.block _ (Array.getElem?_eq_some_iff.1 c2.out).1).trans c2.out
 have m3:Hid (w3.heap[M]?=some (.cells #[.string ⟨r.nm.toArray⟩,.string ⟨r.fl.toArray⟩,.int .i64 r.k,.func (.func r.f) #[] #[]] 60 (0,0))):=(hb3.block _ (Array.getElem?_eq_some_iff.1 m1.out).1).trans m1.out
 have fc:Hid (OwS (w3.alloc (.cells #[.string ⟨I.toArray⟩,.string ⟨r.nm.toArray⟩] 9)) w3.heap.size (.slice (some ⟨w3.heap.size,0,none⟩) 2 2) ([I,r.nm]++(List.range 0).map G)):=lit2 w3 w3.heap.size (Nat.le_refl _) _ _
 have B4:=zaa w3 (.cells #[.string ⟨I.toArray⟩,.string ⟨r.nm.toArray⟩] 9)
 have m4:=(B4.block _ (Array.getElem?_eq_some_iff.1 m3.out).1).trans m3.out
 obtain⟨z0,z1,z2,z3⟩:=zfz m4
 clear y0 y0' hb3 B2' c2 m1 hs hsz hIt
 go_wp2_with fail
 go_loopw [8,26] (fun s i wr=>∃(c n8:Nat) (q8:Option Addr) (c8:Nat),c<=r.fl.length/\i=.int .i64 c/\s=.slice q8 n8 c8/\Hid (n8=c+2)/\Hid (∀i,i<c->F i=some (G i))/\Hid (OwS wr w3.heap.size (.slice q8 n8 c8) ([I,r.nm]++(List.range c).map G))/\Below w3.heap.size w3 wr) (fun _ i _=>r.fl.length - (intOf i).toNat)
 case atStart=>exact⟨0,2,_,_,Nat.zero_le _,rfl,rfl,rfl,fun i hi=>absurd hi (Nat.not_lt_zero _),fc,B4⟩
 case round=>
  clear z0 z1 z2 z3 m4 B4 fc
  obtain⟨c,n8,q8,c8,hc,rfl,rfl,hn8,aB,hB,hbw⟩:=hrel
  have hws:=hbw.size
  have c5:=(hbw.block _ (Array.getElem?_eq_some_iff.1 c3.out).1).trans c3.out
  have m5:=(hbw.block _ (Array.getElem?_eq_some_iff.1 m3.out).1).trans m3.out
  have r5:wr.rangeAt w.heap.size 0 d.cells:=zdk c5
  obtain⟨z0,z1,z2,z3⟩:=zfz m5
  by_cases hlt:c<r.fl.length
  ·have bR:(c:Int)<(r.fl.length:Int):=by omega
   have hFc:=hF'.out wr.drew ((B3.out.trans (hbw.mono B3.out.size)).drew) c hlt
   have hNG:w.heap.size<w3.heap.size:=(Array.getElem?_eq_some_iff.1 c3.out).1
   have hMG:M<w3.heap.size:=(Array.getElem?_eq_some_iff.1 m3.out).1
   go_wp2_with fail
   have hS0:(fun z:World=>z.rangeAt w.heap.size 0 d.cells/\z.cell? ⟨M,1,none⟩=some (.string ⟨r.fl.toArray⟩)) wr.drew:=⟨r5,z1⟩
   refine wp_region_held_drew (S:=fun z:World=>z.rangeAt w.heap.size 0 d.cells/\z.cell? ⟨M,1,none⟩=some (.string ⟨r.fl.toArray⟩)) (by kernel_rfl) hS0 (fun aI=>?_)
   refine wpAnyH_take (i:=0) (oi:=?op2) (v:=.agg d.cells.toArray) ?ta2 ?tb2 ?tc2 ?td2 ?tq2 ?ty2 aI ?_
   case ta2=>rfl
   case tb2=>kernel_rfl
   case tc2=>kernel_rfl
   case td2=>kernel_rfl
   case tq2=>exact fun _ _ _ h=>h
   case ty2=>
    refine yieldsIf_load_mid ?tw2 32 (.tmp 2) ?to2 w.heap.size 0 ?tx2 d.cells dd (fun z hz=>hz.1) hHu.out hd zcd
    case tw2=>kernel_rfl
    case to2=>rfl
    case tx2=>kernel_rfl
   simp only[pz]
   refine tk 1 (.pointer (some ⟨M,1,none⟩)) rfl aI ?_
   simp only[pz]
   refine tk 2 (.string ⟨r.fl.toArray⟩) rfl aI ?_ (.inl ⟨by rfl,fun z hz=>by have h1:=hz.2;go_simp⟩)
   simp only[pz]
   refine tk 3 (.int .i64 c) rfl aI ?_
   simp only[pz]
   refine tk 4 (.int .u8 (r.fl.getD c 0).toNat) rfl aI ?_ (.inl ⟨by rfl,fun z hz=>by go_simp;rfl⟩)
   simp only[pz]
   refine rdy 5 rfl (fun K hK=>?_)
   go_simp
   rw[show r.fl.getD c 0=r.fl[c] from by simp[List.getD,hlt]] at hFc
   refine hFc.mono ?_
   rintro e w6 ⟨rfl,hb6⟩
   have c6:w6.heap[w.heap.size]?=some (.cells (sV d) 32 (0,0)):=(hb6.block _ (Array.getElem?_eq_some_iff.1 c5).1).trans c5
   have z6:w6.cell? ⟨M,1,none⟩=some (.string ⟨r.fl.toArray⟩):=(hb6.cell (by show M<wr.heap.size;omega)).trans z1
   refine hK.out _ _ ⟨zdk c6,z6⟩ (fun aK=>?_)
   have B6:Below w.heap.size w w6:=(B3.out.trans (hbw.mono B3.out.size)).drew.trans (hb6.mono (B3.out.trans (hbw.mono B3.out.size)).drew.size)
   have b6:Below w3.heap.size w3 w6:=hbw.drew.trans (hb6.mono hbw.drew.size)
   have hB6:=zab (hB.out.below ((zam (Below.refl wr.heap.size wr) 1).trans hb6))
   clear hK K aI r5 z0 z1 z2 z3 hB hFc hS0
   have hFc:=dP.out c
   cases hFv:F c with
   | none=>
    have hR0:R=none:=by rw[<-hR.out,zf7 hlt hFv]
    subst hR0
    simp only[resT,pz]
    refine tk 6 (.tuple #[.string ⟨#[]⟩,.int .i64 4]) rfl aK ?_
    simp only[pz]
    refine tk 7 (.string ⟨#[]⟩) rfl aK ?_
    simp only[pz]
    refine tk 8 (.int .i64 4) rfl aK ?_
    simp only[pz]
    refine tk 9 (.string ⟨#[]⟩) rfl aK ?_
    simp only[pz]
    refine tk 10 (.int .i64 4) rfl aK ?_
    simp only[pz]
    refine wpAnyH_done (by kernel_rfl) ?_ _
    go_wp2_with fail
    go_ret2
    exact⟨rfl,B6⟩
   | some T=>
    have hTl:=hFc T hlt hFv
    simp only[resT,pz]
    refine tk 6 (.tuple #[.string ⟨T.toArray⟩,.int .i64 0]) rfl aK ?_
    simp only[pz]
    refine tk 7 (.string ⟨T.toArray⟩) rfl aK ?_
    simp only[pz]
    refine tk 8 (.int .i64 0) rfl aK ?_
    simp only[pz]
    refine tk 9 (.string ⟨T.toArray⟩) rfl aK ?_
    simp only[pz]
    refine tk 10 (.int .i64 0) rfl aK ?_
    simp only[pz]
    refine wpAnyH_done (by kernel_rfl) ?_ _
    have af:=hB6.out.row (n:=n8) (by rw[hn8.out];simp)
    have hn8b:n8<=6:=by have:=hn8.out;omega
    have hs6:=b6.size
    have cF:=zab hFv
    clear hFv hFc
    go_wp2_with (at_builtin;refine wpList_append_own _ rfl _ _ 109 rfl w3.heap.size 9 i0 (.string ⟨#[]⟩) 1 16 Tryz.underlying109 hi hz0 hz1 hz2 rfl (by decide) _ _ _ rfl (af.alloc _) ⟨w6.heap.size,0,none⟩ 1 1 [.string ⟨T.toArray⟩] rfl rfl (World.news_of_block (heap_alloc_last w6 (.cells #[.string ⟨T.toArray⟩] 9))) (ziq _) (by unfold maxLen;omega) (by omega) (by simp;omega) ?_;intro v' w7 fd fB _;obtain⟨q',c',rfl⟩:=zbr fd)
    go_roundw
    case rel=>
     have hGv:G c=T:=by rw[hG'.out c,cF.out];rfl
     refine⟨c+1,n8+1,q',c',by omega,by go_num,rfl,by show n8+1=c+1+2;rw[hn8.out],?_,?_,(b6.alloc hs6 _).grown fB (by simp;omega) (fun k hk=>(af.lt k hk).1)⟩
     ·intro i hi
      rcases Nat.lt_or_ge i c with h1 | h1
      ·exact aB.out i h1
      ·have:i=c:=by omega
       subst this
       rw[cF.out,hGv]
     ·show OwS _ _ _ _
      rw[zea,hGv,<-List.append_assoc]
      exact OwS.snoc (n:=n8) fd (by rw[hn8.out];simp)
    case measure=>simp[intOf];omega
  ·obtain rfl:c=r.fl.length:=by omega
   have hGl:∀i,i<r.fl.length->(G i).length<=30000:=fun i hi=>dP.out i _ hi (aB.out i hi)
   have hlT:=zf8 (pre:=I++32::r.nm) hGl
   simp only[List.length_append,List.length_cons] at hlT
   have hj:=zir hB.out [32] (by simp;omega) (by rw[zh2];omega)
   rw[zh2] at hj
   have hR1:R=some (lnT (I++32::r.nm) G r.fl.length):=by rw[<-hR.out,zen aB.out]
   subst hR1
   go_wp2_with (go_at_call 49;refine hj.mono ?_;rintro e w8 ⟨rfl,hb8⟩)
   go_ret2
   have B8:Below w.heap.size w wr:=B3.out.trans (hbw.mono B3.out.size)
   exact⟨rfl,B8.trans (hb8.mono B8.size)⟩
theorem zkz {w:World} {N:Nat} {v0 v1 v2:Value} {t:TypeId} (h:w.heap[N]?=some (.cells #[v0,v1,v2] t (0,0))):
  w.cell? ⟨N,0,none⟩=some v0/\w.cell? ⟨N,1,none⟩=some v1/\w.cell? ⟨N,2,none⟩=some v2:=by
 simp[World.cell?,h]
theorem lineQ_ok {w:World} {d:Sd} {r:KR} {dep:Int} {F:Nat->Option (List UInt8)} (hr:r∈kQ) (hru:d.s.ru=r.n) (hd0:0<=dep) (hd1:dep<=1000) (hnm:r.nm.length<=100) (hfl:r.fl.length<=4)
  (hF:∀z,Below w.heap.size w z->∀i,i<r.fl.length->Calls Tryz.prog 58 #[.agg d.cells.toArray,.int .u8 (r.fl.getD i 0).toNat] z fun e w'=>(∃v,e=.returned v/\IsB (F i) v)/\Below z.heap.size z w')
  (hFl:∀i t,i<r.fl.length->F i=some t->t.length<=30000):
  Calls Tryz.prog 34 #[.agg (sV d),.int .i64 dep] w (Rt w (resB (lnO (Lib.itoa dep++32::r.nm) F r.fl.length))):=by
 obtain⟨dd,hu,hd⟩:=zay
 have hHu:=zab hu
 clear hu
 have b0:=zaa w (.cells (sV d) 32)
 have c0:Hid ((w.alloc (.cells (sV d) 32)).heap[w.heap.size]?=some (.cells (sV d) 32 (0,0))):=heap_alloc_new w _
 have hfd:=row_ok hr (w.alloc (.cells (sV d) 32))
 rw[<-hru] at hfd
 unfold tx at hfd
 have b0':=zab b0
 have hF':=zab hF
 have dP:=zab hFl
 have hil:=zbn (n:=dep) (by show _<10000000000000000000;omega)
 have hit:=fun z=>zb0 z dep (by omega) (by omega)
 obtain⟨R,hR⟩:∃R,Hid (lnO (Lib.itoa dep++32::r.nm) F r.fl.length=R):=⟨_,rfl⟩
 rw[hR.out]
 obtain⟨I,hI⟩:∃I,Lib.itoa dep=I:=⟨_,rfl⟩
 rw[hI] at hil hit hR
 obtain⟨G,hG⟩:∃G:Nat->List UInt8,∀i,G i=(F i).getD []:=⟨_,fun _=>rfl⟩
 have hG':=zab hG
 clear b0 hF hFl hru hG hI
 go_enter Tryz.func34,Tryz.ntmps34
 go_upto_region 2 with(go_at_call 56;refine hfd.mono ?_;rintro e w1 ⟨rfl,hb1⟩
                       have B1:=b0'.out.trans (hb1.mono b0'.out.size)
                       have c1:=zab ((hb1.block _ (Array.getElem?_eq_some_iff.1 c0.out).1).trans c0.out)
                       clear hfd hb1 c0)
 have m1:Hid ((w1.alloc (.cells #[.string ⟨r.nm.toArray⟩,.string ⟨r.fl.toArray⟩,.int .i64 r.k] 114)).heap[w1.heap.size]?=some (.cells #[.string ⟨r.nm.toArray⟩,.string ⟨r.fl.toArray⟩,.int .i64 r.k] 114 (0,0))):=heap_alloc_new w1 _
 have B2:=B1.trans ((zaa w1 (.cells #[.string ⟨r.nm.toArray⟩,.string ⟨r.fl.toArray⟩,.int .i64 r.k] 114)).mono B1.size)
 have c2:=zab (((zaa w1 (.cells #[.string ⟨r.nm.toArray⟩,.string ⟨r.fl.toArray⟩,.int .i64 r.k] 114)).block _ (Array.getElem?_eq_some_iff.1 c1.out).1).trans c1.out)
 have hIt:=hit (w1.alloc (.cells #[.string ⟨r.nm.toArray⟩,.string ⟨r.fl.toArray⟩,.int .i64 r.k] 114)).drew
 have B2':=zab B2
 have hN1:w.heap.size<w1.heap.size:=(Array.getElem?_eq_some_iff.1 c1.out).1
 obtain⟨y0,y1,y2⟩:=zkz m1.out
 have hsz:(w1.alloc (.cells #[.string ⟨r.nm.toArray⟩,.string ⟨r.fl.toArray⟩,.int .i64 r.k] 114)).heap.size=w1.heap.size+1:=by simp
 clear B1 c1 B2 y1 y2
 generalize (w1.alloc (.cells #[.string ⟨r.nm.toArray⟩,.string ⟨r.fl.toArray⟩,.int .i64 r.k] 114))=W at*
 generalize w1.heap.size=M at*
 have q1:¬9223372036854775807<I.length+1:=by omega
 have q2:¬9223372036854775807<I.length+1+r.nm.length:=by omega
 go_region_held3 (fun z=>z.cell? ⟨M,0,none⟩=some (.string ⟨r.nm.toArray⟩))
  (first | exact y0 | exact y0')
  (first
    | (go_at_call 57;refine hIt.mono ?_;rintro e w3 ⟨rfl,hb3⟩
       have hs:W.drew.heap.size=M+1:=hsz
       have hM3:M<w3.heap.size:=by have:=hb3.size;omega
       have y0':w3.cell? ⟨M,0,none⟩=some (.string ⟨r.nm.toArray⟩):=(hb3.cell (by show M<_;omega)).trans y0))
 have B3:Hid (Below w.heap.size w w3):=B2'.out.drew.trans (hb3.mono B2'.out.drew.size)
 have c3:Hid (w3.heap[w.heap.size]?=some (.cells (sV d) 32 (0,0))):=(hb3.block _ (Array.getElem?_eq_some_iff.1 c2.out).1).trans c2.out
 have m3:Hid (w3.heap[M]?=some (.cells #[.string ⟨r.nm.toArray⟩,.string ⟨r.fl.toArray⟩,.int .i64 r.k] 114 (0,0))):=(hb3.block _ (Array.getElem?_eq_some_iff.1 m1.out).1).trans m1.out
 obtain⟨z0,z1,z2⟩:=zkz m3.out
 clear y0 y0' hb3 B2' c2 m1 hs hsz hIt
 go_wp2_with fail
 go_loopw [7,23] (fun s i wr=>∃c:Nat,c<=r.fl.length/\i=.int .i64 c/\s=.string ⟨(lnT (I++32::r.nm) G c).toArray⟩/\Hid (∀i,i<c->F i=some (G i))/\Below w3.heap.size w3 wr) (fun _ i _=>r.fl.length - (intOf i).toNat)
 case atStart=>exact⟨0,Nat.zero_le _,rfl,zbf (by simp[lnT]),fun i hi=>absurd hi (Nat.not_lt_zero _),Below.refl _ _⟩
 case round=>
  clear z0 z1 z2
  obtain⟨c,hc,rfl,rfl,aB,hbw⟩:=hrel
  have hws:=hbw.size
  have c5:=(hbw.block _ (Array.getElem?_eq_some_iff.1 c3.out).1).trans c3.out
  have m5:=(hbw.block _ (Array.getElem?_eq_some_iff.1 m3.out).1).trans m3.out
  have r5:wr.rangeAt w.heap.size 0 d.cells:=zdk c5
  obtain⟨z0,z1,z2⟩:=zkz m5
  have hGl:∀i,i<c->(G i).length<=30000:=fun i hi=>dP.out i _ (by omega) (aB.out i hi)
  have hlT:=zf8 (pre:=I++32::r.nm) hGl
  simp only[List.length_append,List.length_cons] at hlT
  have hlT':(lnT (I++32::r.nm) G c).length<=200000:=by omega
  clear hGl hlT
  by_cases hlt:c<r.fl.length
  ·have bR:(c:Int)<(r.fl.length:Int):=by omega
   have hFc:=hF'.out wr.drew ((B3.out.trans (hbw.mono B3.out.size)).drew) c hlt
   have hNG:w.heap.size<w3.heap.size:=(Array.getElem?_eq_some_iff.1 c3.out).1
   have hMG:M<w3.heap.size:=(Array.getElem?_eq_some_iff.1 m3.out).1
   go_wp2_with fail
   have hS0:(fun z:World=>z.rangeAt w.heap.size 0 d.cells/\z.cell? ⟨M,1,none⟩=some (.string ⟨r.fl.toArray⟩)) wr.drew:=⟨r5,z1⟩
   refine wp_region_held_drew (S:=fun z:World=>z.rangeAt w.heap.size 0 d.cells/\z.cell? ⟨M,1,none⟩=some (.string ⟨r.fl.toArray⟩)) (by kernel_rfl) hS0 (fun aI=>?_)
   refine wpAnyH_take (i:=0) (oi:=?op2) (v:=.agg d.cells.toArray) ?ta2 ?tb2 ?tc2 ?td2 ?tq2 ?ty2 aI ?_
   case ta2=>rfl
   case tb2=>kernel_rfl
   case tc2=>kernel_rfl
   case td2=>kernel_rfl
   case tq2=>exact fun _ _ _ h=>h
   case ty2=>
    refine yieldsIf_load_mid ?tw2 32 (.tmp 2) ?to2 w.heap.size 0 ?tx2 d.cells dd (fun z hz=>hz.1) hHu.out hd zcd
    case tw2=>kernel_rfl
    case to2=>rfl
    case tx2=>kernel_rfl
   simp only[pz]
   refine tk 1 (.pointer (some ⟨M,1,none⟩)) rfl aI ?_
   simp only[pz]
   refine tk 2 (.string ⟨r.fl.toArray⟩) rfl aI ?_ (.inl ⟨by rfl,fun z hz=>by have h1:=hz.2;go_simp⟩)
   simp only[pz]
   refine tk 3 (.int .i64 c) rfl aI ?_
   simp only[pz]
   refine tk 4 (.int .u8 (r.fl.getD c 0).toNat) rfl aI ?_ (.inl ⟨by rfl,fun z hz=>by go_simp;rfl⟩)
   simp only[pz]
   refine rdy 5 rfl (fun K hK=>?_)
   go_simp
   rw[show r.fl.getD c 0=r.fl[c] from by simp[List.getD,hlt]] at hFc
   refine hFc.mono ?_
   rintro e w6 ⟨⟨v6,rfl,hv6⟩,hb6⟩
   have c6:w6.heap[w.heap.size]?=some (.cells (sV d) 32 (0,0)):=(hb6.block _ (Array.getElem?_eq_some_iff.1 c5).1).trans c5
   have z6:w6.cell? ⟨M,1,none⟩=some (.string ⟨r.fl.toArray⟩):=(hb6.cell (by show M<wr.heap.size;omega)).trans z1
   refine hK.out _ _ ⟨zdk c6,z6⟩ (fun aK=>?_)
   have B6:Below w.heap.size w w6:=(B3.out.trans (hbw.mono B3.out.size)).drew.trans (hb6.mono (B3.out.trans (hbw.mono B3.out.size)).drew.size)
   have b6:Below w3.heap.size w3 w6:=hbw.drew.trans (hb6.mono hbw.drew.size)
   clear hK K aI r5 z0 z1 z2 hFc hS0
   have hFc:=dP.out c
   cases hFv:F c with
   | none=>
    have hR0:R=none:=by rw[<-hR.out,zf7 hlt hFv]
    subst hR0
    rw[hFv] at hv6
    obtain⟨s6,rfl⟩:=hv6
    try simp only[pz]
    refine tk 6 (.tuple #[.string s6,.bool false]) rfl aK ?_
    simp only[pz]
    refine tk 7 (.string s6) rfl aK ?_
    simp only[pz]
    refine tk 8 (.bool false) rfl aK ?_
    simp only[pz]
    refine tk 9 (.string s6) rfl aK ?_
    simp only[pz]
    refine tk 10 (.bool false) rfl aK ?_
    simp only[pz]
    refine wpAnyH_done (by kernel_rfl) ?_ _
    go_wp2_with fail
    go_ret2
    exact⟨rfl,B6⟩
   | some T=>
    have hTl:=hFc T hlt hFv
    rw[hFv] at hv6
    have iH:v6=.tuple #[.string ⟨T.toArray⟩,.bool true]:=hv6
    subst iH
    clear hv6
    try simp only[pz]
    refine tk 6 (.tuple #[.string ⟨T.toArray⟩,.bool true]) rfl aK ?_
    simp only[pz]
    refine tk 7 (.string ⟨T.toArray⟩) rfl aK ?_
    simp only[pz]
    refine tk 8 (.bool true) rfl aK ?_
    simp only[pz]
    refine tk 9 (.string ⟨T.toArray⟩) rfl aK ?_
    simp only[pz]
    refine tk 10 (.bool true) rfl aK ?_
    simp only[pz]
    refine wpAnyH_done (by kernel_rfl) ?_ _
    have cF:=zab hFv
    clear hFv hFc
    go_wp2_with fail
    go_roundw
    case rel=>
     have hGv:G c=T:=by rw[hG'.out c,cF.out];rfl
     refine⟨c+1,by omega,by go_num,zbf (by rw[show lnT (I++32::r.nm) G (c+1)=lnT (I++32::r.nm) G c++32::G c from rfl,hGv];simp),?_,b6⟩
     intro i hi
     rcases Nat.lt_or_ge i c with h1 | h1
     ·exact aB.out i h1
     ·have:i=c:=by omega
      subst this
      rw[cF.out,hGv]
    case measure=>simp[intOf];omega
  ·obtain rfl:c=r.fl.length:=by omega
   have hR1:R=some (lnT (I++32::r.nm) G r.fl.length):=by rw[<-hR.out,zen aB.out]
   subst hR1
   go_wp2_with fail
   go_ret2
   have B8:Below w.heap.size w wr:=B3.out.trans (hbw.mono B3.out.size)
   exact⟨rfl,B8⟩
def qL (c:UInt8):UInt8:=letQ.getD (letP.idxOf c) 0
theorem rows2:∀r∈kR,∃q∈kQ,q.n=r.n/\q.nm=r.nm/\q.fl=r.fl.map qL:=by decide +kernel
theorem zd0:∀r∈kR,r.nm.length<=100/\r.fl.length<=4/\∀c∈r.fl,letP.idxOf c<11/\letP.getD (letP.idxOf c) 0=c:=by decide +kernel
theorem getD_map (l:List UInt8) (i:Nat) (h:i<l.length):(l.map qL).getD i 0=qL (l.getD i 0):=by
 simp[List.getD,h]
theorem zcf {l:List UInt8} {i:Nat} (h:i<l.length):l.getD i 0∈l:=by
 simp[List.getD,h]
def St.ln:St->Int->Option (List UInt8)
 | .non,_=>none
 | .mk s nu de x pn ps bn bs _ _,dep=>match ruleAt s.ru with
  | none=>none
  | some r=>lnO (Lib.itoa dep++32::r.nm) (fun i=>fieldT s (val nu) (val de) x pn ps bn bs (r.fl.getD i 0)) r.fl.length
def Sc.pr4 (s:Sc):Bool:=!(decide (s.kk<0)||decide (s.nn<0)||decide (s.pr<0)||decide (s.ve<0))
def Sc.pn3 (s:Sc) (r:KR):Bool:=!((decide ((120:UInt8)∈r.fl)&&!nameB s.nm)||(decide ((121:UInt8)∈r.fl)&&!nameB s.ot)||(decide ((108:UInt8)∈r.fl)&&!nameB s.en))
def St.pr:St->Bool
 | .non=>false
 | .mk s _ _ _ pn ps bn bs _ _=>match ruleAt s.ru with
  | none=>false
  | some r=>s.pr4&&s.pn3 r&&((List.range pn).all (fun i=>nameB (ps i).m)&&(List.range bn).all (fun i=>nameB (bs i).m))
theorem zb7 {m:ByteArray} (h:nameB m=true):m.size<=8:=by
 unfold nameB at h
 simp only[Bool.and_eq_true,decide_eq_true_eq] at h
 exact h.1
structure PrH (s:Sc) (nu de:List Int) (x:Ex) (pn:Nat) (ps:Nat->Pt) (bn:Nat) (bs:Nat->Bd) (r:KR):Prop where
 hL:large (val nu) (val de)=false
 pl:pn<=6
 bl:bn<=6
 pp:PtsPr pn ps
 bp:BdsPr bn bs
 ex:(101:UInt8)∈r.fl->(x.cnt 1 0).isSome=true
 nm:(120:UInt8)∈r.fl->s.nm.size<=8
 ot:(121:UInt8)∈r.fl->s.ot.size<=8
 en:(108:UInt8)∈r.fl->s.en.size<=8
theorem zk0 {s:Sc} {nu de:List Int} {x:Ex} {pn:Nat} {ps:Nat->Pt} {bn:Nat} {bs:Nat->Bd} {n:Nat} {ki:Nat->St} {r:KR} (hr:ruleAt s.ru=some r)
  (hf:(St.mk s nu de x pn ps bn bs n ki).form=true) (hp:(St.mk s nu de x pn ps bn bs n ki).pr=true):PrH s nu de x pn ps bn bs r:=by
 rw[show (St.mk s nu de x pn ps bn bs n ki).form=formS s (val nu) (val de) x pn ps bn bs n from rfl,zcc hr] at hf
 simp only[St.pr,hr] at hp
 unfold contB at hf
 unfold Sc.pn3 ptB bdB at*
 simp only[Bool.and_eq_true,decide_eq_true_eq,Bool.not_eq_true',Bool.or_eq_false_iff,Bool.or_eq_true,List.all_eq_true,List.mem_range,Bool.and_eq_false_iff,decide_eq_false_iff_not,Bool.not_eq_false'] at hf hp
 obtain⟨_,_,⟨h1,h2,h3,h4⟩,h5,h6⟩:=hf
 obtain⟨⟨_,⟨n1,n2⟩,n3⟩,p1,p2⟩:=hp
 exact⟨h3,h1,h2,fun i hi=>⟨h5 i hi,zb7 (p1 i hi)⟩,fun i hi=>⟨h6 i hi,zb7 (p2 i hi)⟩,fun he=>h4.resolve_left (fun hn=>hn he),fun h=>zb7 (n1.resolve_left fun hn=>hn h),
  fun h=>zb7 (n2.resolve_left fun hn=>hn h),fun h=>zb7 (n3.resolve_left fun hn=>hn h)⟩
theorem zf9 {n:Int} (h:I64 n):(Lib.itoa n).length<=20:=zbn (by obtain⟨h1,h2⟩:=h;show _<10000000000000000000;omega)
theorem zd1 {s:Sc} {nu de:List Int} {x:Ex} {pn:Nat} {ps:Nat->Pt} {bn:Nat} {bs:Nat->Bd} {r:KR} (h:PrH s nu de x pn ps bn bs r) (hw:s.wf) {c:UInt8} (hc:c∈r.fl) {t:List UInt8}
  (ht:fieldT s (val nu) (val de) x pn ps bn bs c=some t):t.length<=30000:=by
 unfold fieldT at ht
 split at ht
 ·rename_i e;subst e;cases ht;rw[zb9];have:=h.nm hc;omega
 split at ht
 ·rename_i e;subst e;cases ht;rw[zb9];have:=h.ot hc;omega
 split at ht
 ·rename_i e;subst e;cases ht;rw[zb9];have:=h.en hc;omega
 split at ht
 ·cases ht;have:=zf9 hw.kk;omega
 split at ht
 ·cases ht;have:=zf9 hw.nn;omega
 split at ht
 ·cases ht;have:=zf9 hw.pr;omega
 split at ht
 ·cases ht;have:=zf9 hw.ve;omega
 split at ht
 ·cases ht;have:=zdn (g:=s.g) h.hL;omega
 split at ht
 ·obtain⟨u,hu,rfl⟩:=Option.map_eq_some_iff.1 ht
  have:=ze9 hu
  simp only[List.length_append,List.length_cons,List.length_nil]
  omega
 split at ht
 ·cases ht
  have:=zmr h.pp h.pl
  unfold pointT
  simp only[List.length_append,List.length_cons,List.length_nil]
  omega
 ·unfold argsT at ht
  obtain⟨u,hu,rfl⟩:=Option.map_eq_some_iff.1 ht
  have hs:∀i,i<bn->∃v,bdT (bs i)=some v:=fun i hi=>by
   cases hb:bdT (bs i) with
   | some v=>exact⟨v,rfl⟩
   | none=>rw[ze8 (F:=fun i=>bdT (bs i)) hi hb] at hu;cases hu
  have hG:∀i,i<bn->bdT (bs i)=some ((bdT (bs i)).getD []):=fun i hi=>by obtain⟨v,hv⟩:=hs i hi;rw[hv];rfl
  rw[zdw (F:=fun i=>bdT (bs i)) (G:=fun i=>(bdT (bs i)).getD []) hG] at hu
  cases hu
  have:=zcp (G:=fun i=>(bdT (bs i)).getD []) (n:=bn) (L:=4020) fun i hi=>zit (hG i hi) (h.bp i hi).2
  have:=h.bl
  simp only[List.length_append,List.length_cons,List.length_nil]
  omega
theorem zh3 {s:Sc} {r:KR} (hr:ruleAt s.ru=some r) (nu de:List Int) (x:Ex) (pn:Nat) (ps:Nat->Pt) (bn:Nat) (bs:Nat->Bd) (n:Nat) (ki:Nat->St) (dep:Int):
  (St.mk s nu de x pn ps bn bs n ki).ln dep=lnO (Lib.itoa dep++32::r.nm) (fun i=>fieldT s (val nu) (val de) x pn ps bn bs (r.fl.getD i 0)) r.fl.length:=by
 simp only[St.ln,hr]
theorem zk1 {s:Sc} {nu de:List Int} {x:Ex} {pn:Nat} {ps:Nat->Pt} {bn:Nat} {bs:Nat->Bd} {n:Nat} {ki:Nat->St} {r:KR} (hk:r∈kR) (hr:ruleAt s.ru=some r) (h:PrH s nu de x pn ps bn bs r) (hw:s.wf) {dep:Int} (h0:0<=dep) (h1:dep<=1000)
  {l:List UInt8} (hl:(St.mk s nu de x pn ps bn bs n ki).ln dep=some l):l.length<=120200:=by
 rw[zh3 hr] at hl
 obtain⟨e1,e2,_⟩:=zd0 r hk
 have hil:=zbn (n:=dep) (by show _<10000000000000000000;omega)
 have hs:∀i,i<r.fl.length->∃v,fieldT s (val nu) (val de) x pn ps bn bs (r.fl.getD i 0)=some v:=fun i hi=>by
  cases hb:fieldT s (val nu) (val de) x pn ps bn bs (r.fl.getD i 0) with
  | some v=>exact⟨v,rfl⟩
  | none=>rw[zf7 (F:=fun i=>fieldT s (val nu) (val de) x pn ps bn bs (r.fl.getD i 0)) hi hb] at hl;cases hl
 have hG:∀i,i<r.fl.length->fieldT s (val nu) (val de) x pn ps bn bs (r.fl.getD i 0)=some ((fieldT s (val nu) (val de) x pn ps bn bs (r.fl.getD i 0)).getD []):=fun i hi=>by obtain⟨v,hv⟩:=hs i hi;rw[hv];rfl
 rw[zen (F:=fun i=>fieldT s (val nu) (val de) x pn ps bn bs (r.fl.getD i 0)) (G:=fun i=>(fieldT s (val nu) (val de) x pn ps bn bs (r.fl.getD i 0)).getD []) hG] at hl
 cases hl
 have:=zf8 (pre:=Lib.itoa dep++32::r.nm) (G:=fun i=>(fieldT s (val nu) (val de) x pn ps bn bs (r.fl.getD i 0)).getD []) (L:=30000) (n:=r.fl.length) fun i hi=>zd1 h hw (zcf hi) (hG i hi)
 simp only[List.length_append,List.length_cons] at this
 omega
theorem spr_of {w:World} {s:Sc} {nu de:List Int} {x:Ex} {pn:Nat} {ps:Nat->Pt} {bn:Nat} {bs:Nat->Bd} {n:Nat} {ki:Nat->St} {r:KR} {d:Sd} (h:StOk w (.mk s nu de x pn ps bn bs n ki) d) (hp:PrH s nu de x pn ps bn bs r):SPr w d nu de x ps bs:=by
 unfold StOk at h
 obtain⟨⟨_,rfl,rfl,_⟩,h1,h2,ln,ld,hX,hP,hB,_,_⟩:=h
 have e1:nu.length=d.an:=by obtain⟨_,_,q,c,e,_⟩:=h1;simp only[Value.slice.injEq] at e;omega
 have e2:de.length=d.cn:=by obtain⟨_,_,q,c,e,_⟩:=h2;simp only[Value.slice.injEq] at e;omega
 exact⟨by rw[e1];exact h1,by rw[e2];exact h2,e1,e2,ln,ld,by omega,by omega,hX,hP,hB,hp.hL,hp.pl,hp.bl,hp.pp,hp.bp⟩
theorem line_ok {w:World} {s:Sc} {nu de:List Int} {x:Ex} {pn:Nat} {ps:Nat->Pt} {bn:Nat} {bs:Nat->Bd} {n:Nat} {ki:Nat->St} {r:KR} {d:Sd} (h:StOk w (.mk s nu de x pn ps bn bs n ki) d) (hk:r∈kR) (hr:ruleAt s.ru=some r) (he:s.ru=r.n)
  (hp:PrH s nu de x pn ps bn bs r) (hw:s.wf) (hT:Tb w) (hTi:Ti w) {dep:Int} (h0:0<=dep) (h1:dep<=1000):
  Calls Tryz.prog 27 #[d.val,.int .i64 dep] w (Rt w (resT ((St.mk s nu de x pn ps bn bs n ki).ln dep))):=by
 have hs:=h
 unfold StOk at h
 obtain⟨⟨rfl,rfl,rfl,_⟩,_⟩:=h
 obtain⟨e1,e2,e3⟩:=zd0 r hk
 rw[zh3 hr]
 refine lineP_ok hk he h0 h1 hTi e1 e2 (fun z hz i hi=>?_) (fun i t hi ht=>zd1 hp hw (zcf hi) ht)
 obtain⟨i1,i2⟩:=e3 _ (zcf hi)
 have hf:=zmv (spr_of (hs.below hz) hp) hw (hT.below hz) (hTi.below hz) i1 (fun hv=>hp.ex (by rw[<-hv,i2];exact zcf hi))
 rw[i2] at hf
 exact hf
theorem lineQ_st {w:World} {s:Sc} {nu de:List Int} {x:Ex} {pn:Nat} {ps:Nat->Pt} {bn:Nat} {bs:Nat->Bd} {n:Nat} {ki:Nat->St} {r:KR} {d:Sd} (h:StOk w (.mk s nu de x pn ps bn bs n ki) d) (hk:r∈kR) (hr:ruleAt s.ru=some r) (he:s.ru=r.n)
  (hp:PrH s nu de x pn ps bn bs r) (hw:s.wf) {dep:Int} (h0:0<=dep) (h1:dep<=1000):
  Calls Tryz.prog 34 #[d.val,.int .i64 dep] w (Rt w (resB ((St.mk s nu de x pn ps bn bs n ki).ln dep))):=by
 have hs:=h
 unfold StOk at h
 obtain⟨⟨rfl,rfl,rfl,_⟩,_⟩:=h
 obtain⟨e1,e2,e3⟩:=zd0 r hk
 obtain⟨q,hq,q1,q2,q3⟩:=rows2 r hk
 rw[zh3 hr]
 have ae:q.fl.length=r.fl.length:=by rw[q3,List.length_map]
 rw[<-q2,<-ae]
 refine lineQ_ok hq (by rw[he,q1]) h0 h1 (by rw[q2];exact e1) (by rw[ae];exact e2) (fun z hz i hi=>?_) (fun i t hi ht=>zd1 hp hw (zcf (by omega)) ht)
 rw[ae] at hi
 obtain⟨i1,i2⟩:=e3 _ (zcf hi)
 have hf:=zmw (spr_of (hs.below hz) hp) hw i1 (fun hv=>hp.ex (by rw[<-hv,i2];exact zcf hi))
 rw[i2] at hf
 rw[q3,getD_map _ _ hi]
 exact hf
end Go.Proofs.YtnnhofmknilopaaGreatDoor
