import Derived.WalkSmall
import Derived.Test.YtaonejnicgbifaaGreatDoorQk19
namespace Go.Proofs.YtaonejnicgbifaaGreatDoor
open Go Go.RowKit Go.Maps Go.Shelf Go.Sort
set_option maxRecDepth 100000
set_option maxHeartbeats 16000000
attribute [local go_sem] Oper.semAt_some
def nmD (xs:List Nv):DataW Unit:=xs.foldl (fun D x=>if x.1.k=2 then D.put (.string x.1.m.data.toList) (.lit (.bool true)) else D) (.map [])
theorem ziv (pre:List Nv) (x:Nv):nmD (pre++[x])=if x.1.k=2 then(nmD pre).put (.string x.1.m.data.toList) (.lit (.bool true)) else nmD pre:=by simp[nmD,List.foldl_append]
theorem zme (s:ByteArray) (hs:s.size<=maxLen):WideAt.IsKeyLit (.string s.data.toList):=(string_keyed (P:=Tryz.prog) Tryz.underlying9).key (WideMaps.keyOf_string_mk Tryz.underlying9 hs)
theorem zf0 (s:List UInt8):∀(xs:List Nv) (D:DataW Unit),IsMap D->
  has (xs.foldl (fun D x=>if x.1.k=2 then D.put (.string x.1.m.data.toList) (.lit (.bool true)) else D) D) (.string s)=(has D (.string s)||xs.any fun x=>decide (x.1.k=2/\x.1.m.data.toList=s))
 | [],D,_=>by simp
 | x::xs,D,hD=>by
  rw[List.foldl_cons,List.any_cons]
  by_cases hk:x.1.k=2
  ·rw[if_pos hk,zf0 s xs _ (hD.put _ _)]
   by_cases he:x.1.m.data.toList=s
   ·rw[<-he,has_put_same hD (zme _ (by have:=x.2;unfold maxLen;omega))]
    simp[hk]
   ·rw[has_put_other (fun e=>he (by cases e;rfl))]
    simp[hk,he]
  ·rw[if_neg hk,zf0 s xs D hD]
   simp[hk]
theorem nmD_has (s:List UInt8) (xs:List Nv):has (nmD xs) (.string s)=xs.any fun x=>decide (x.1.k=2/\x.1.m.data.toList=s):=by
 unfold nmD
 rw[zf0 s xs _ ⟨[],rfl⟩]
 simp[has]
theorem zh7 {es:List (Lit × DataW Unit)} (hk:∀p∈es,∃x,p.1=.string x) (s:List UInt8):s∈strKeys (.map es)↔has (.map es) (.string s)=true:=by
 rw[has_eq,List.any_eq_true]
 show s∈es.map (fun p=>strOf p.1)↔_
 rw[List.mem_map]
 constructor
 ·rintro⟨p,hp,rfl⟩
  obtain⟨x,hx⟩:=hk p hp
  refine⟨p,hp,?_⟩
  rw[hx]
  simp[strOf,Lit.sameKey]
 ·rintro⟨p,hp,hs⟩
  obtain⟨x,hx⟩:=hk p hp
  refine⟨p,hp,?_⟩
  rw[hx] at hs ⊢
  have:=WideAt.sameKey_eq hs
  cases this
  rfl
theorem nmD_keys {w:World} {b n:Nat} {xs:List Nv} (h:w.ownsMap Tryz.prog 9 (plainElem (H:=Unit) Tryz.prog 4) b n (nmD xs)) (s:List UInt8):s∈strKeys (nmD xs)↔∃x∈xs,x.1.k=2/\x.1.m.data.toList=s:=by
 obtain⟨es,he,hk⟩:=h.keysOf
 rw[he,zh7 (fun p hp=>by obtain⟨v,hv⟩:=hk p hp;obtain⟨x,_,hx,_⟩:=Maps.keyOf_str Tryz.underlying9 hv;exact⟨x,hx⟩),<-he,nmD_has,List.any_eq_true]
 simp
def StrsOk (w:World) (q:Option Addr) (n:Nat) (ns:Nat->ByteArray):Prop:=n=0\/∃b o,q=some ⟨b,o,none⟩/\b<w.heap.size/\∀i,i<n->w.cell? ⟨b,o+i,none⟩=some (.string (ns i))
theorem StrsOk.below {w w':World} (hb:Below w.heap.size w w') {q:Option Addr} {n:Nat} {ns:Nat->ByteArray} (h:StrsOk w q n ns):StrsOk w' q n ns:=by
 refine h.imp id ?_
 rintro⟨b,o,e,hlt,hc⟩
 exact⟨b,o,e,Nat.lt_of_lt_of_le hlt hb.size,fun i hi=>(hb.cell (p:=⟨b,o+i,none⟩) hlt).trans (hc i hi)⟩
theorem zh8 {w:World} {base:Nat} {v:Value} {ss:List (List UInt8)} (h:w.ownsRow base 9 1 v ss.length (ss.map encStr)):∃q cap,v=.slice q ss.length cap/\StrsOk w q ss.length (fun i=>⟨(ss.getD i []).toArray⟩):=by
 obtain⟨h1,⟨rfl,h2⟩ | ⟨g,cap,cur,rfl,h2,h3,h4,h5,h6,h7⟩⟩:=h
 ·exact⟨none,0,by rw[h2],.inl h2⟩
 ·refine⟨_,cap,rfl,.inr ⟨g,0,rfl,(Array.getElem?_eq_some_iff.1 h3).1,fun i hi=>?_⟩⟩
  have h8:cur[i]?=some (.string ⟨(ss.getD i []).toArray⟩):=by
   have h9:(cur.toList.take (ss.length*1))[i]?=(ss.map encStr)[i]?:=by rw[h7]
   rw[List.getElem?_take,if_pos (by omega),List.getElem?_map,List.getElem?_eq_getElem hi] at h9
   rw[<-Array.getElem?_toList,h9,List.getD_eq_getElem?_getD,List.getElem?_eq_getElem hi]
   rfl
  simp[World.cell?,h3,h8]
theorem kpN_b {n₀:Nat} {w:World} (hn:n₀<=w.heap.size) (W:World) (l:Nat) (o o':Obj) (hl:w.heap.size<=l) (h:W.heap[l]?=some o) (hc:o.isCells=false) (hw:o.isWalk=false):KpN n₀ W (W.putObj l o'):=
 ⟨belowK_b hn W l o o' hl h hc hw,⟨(World.grownBy.size (grownBy_putObj' W l o')),fun k o2 hk h2=>by
  by_cases e:k=l
  ·subst e
   rw[h] at hk
   cases hk
   rw[hc] at h2
   cases h2
  ·exact(World.putObj_heap_other e).trans hk⟩⟩
theorem zmf {n₀:Nat} {W W':World} {b:Nat} (hg:W.grownBy W' (some b)) (hb:n₀<=b) (hB:n₀<=W.heap.size) (hm:∀o,W.heap[b]?=some o->o.isCells=false):KpN n₀ W W':=
 ⟨(Below.refl _ W).grown hg hB (fun k e=>by cases e;exact hb),⟨hg.size,fun k o hk hc=>by
  by_cases e:k=b
  ·subst e
   rw[hm o hk] at hc
   cases hc
  ·exact(hg.block k (Array.getElem?_eq_some_iff.1 hk).1 (fun e'=>e (by cases e';rfl))).trans hk⟩⟩
theorem zka {w:World} {x:Ex} {d:Nd} {a:Nat} (hx:ExOk w x d) (hT:Tb w) (hv:x.cnt 1 0=some a):
  Calls Tryz.prog 50 #[d.val] w fun e w'=>(∃q n cap ns,e=.returned (.tuple #[.slice q n cap,.int .i64 0])/\StrsOk w' q n ns/\n<=300/\∀s,(∃i,i<n/\ns i=s)↔(2,s)∈x.nds)/\Below w.heap.size w w':=by
 obtain⟨aj,hsz⟩:=zhr x 1 0 a hv
 have hle:a<=300:=Ex.cnt_le x 1 0 a hv
 have hb0:Below w.heap.size w (w.alloc (.cells (nA d) 30)):=zaa w _
 have hvd:=zcj (hx.below hb0) (hT.below hb0)
 rw[hv] at hvd
 simp only[Nd.val,Option.isSome_some] at hvd
 simp only[Nd.val]
 refine(callsIn_wide (n:=6)).1 ?_
 have hmm:=@run_makeMap Tryz.prog
 have f26:Fence.wide.fn 26:=trivial
 have f79:Fence.wide.fn 79:=trivial
 have f80:Fence.wide.fn 80:=trivial
 have f81:Fence.wide.fn 81:=trivial
 have hdd:∀k:Nat,(Fence.wide.depth.isSome=true->1<=k):=fun k h=>by cases h
 refine callsIn_of_wp_marks Tryz.func50 rfl trivial ?_ rfl
 simp only[Tryz.ntmps50,List.size_toArray,List.length_cons,List.length_nil,Nat.reduceAdd,Nat.reduceSub,Array.replicate_succ,Array.replicate_zero,List.push_toArray,List.append_toArray,List.nil_append,List.cons_append]
 gi_wp2_with (first
  | (gi_at_call 26;refine(callsIn_wide.2 hvd).mono ?_;rintro e w1 ⟨rfl,hb1⟩
     have hs0:w.heap.size<(w.alloc (.cells (nA d) 30)).heap.size:=by simp
     have y0:=(hb1.cell (p:=⟨w.heap.size,0,none⟩) (by exact hs0)).trans (by simp:_=some (.int .i64 d.k))
     have y1:=(hb1.cell (p:=⟨w.heap.size,1,none⟩) (by exact hs0)).trans (by simp:_=some (.int .i64 d.f))
     have y2:=(hb1.cell (p:=⟨w.heap.size,2,none⟩) (by exact hs0)).trans (by simp:_=some (.bool d.neg))
     have y3:=(hb1.cell (p:=⟨w.heap.size,3,none⟩) (by exact hs0)).trans (by simp:_=some (.slice d.aq d.an d.ac))
     have y4:=(hb1.cell (p:=⟨w.heap.size,4,none⟩) (by exact hs0)).trans (by simp:_=some (.slice d.cq d.cn d.cc))
     have y5:=(hb1.cell (p:=⟨w.heap.size,5,none⟩) (by exact hs0)).trans (by simp:_=some (.string d.m))
     have y6:=(hb1.cell (p:=⟨w.heap.size,6,none⟩) (by exact hs0)).trans (by simp:_=some (.slice d.sq d.sn d.sc))
     have cH:Below w.heap.size w w1:=hb0.trans (hb1.mono hb0.size)
     have hs1:=cH.size
     have dR:w.heap.size<w1.heap.size:=Nat.lt_of_lt_of_le hs0 hb1.size
     have hbM:Below w1.heap.size w1 ((w1.alloc (.map #[] 0)).alloc (.cells #[.map (some w1.heap.size)] 132)):=((Below.refl _ w1).alloc (Nat.le_refl _) _).alloc (by simp) _
     have q0:((w1.alloc (.map #[] 0)).alloc (.cells #[.map (some w1.heap.size)] 132)).cell? ⟨w.heap.size,0,none⟩=some (.int .i64 d.k):=(hbM.cell (p:=⟨w.heap.size,0,none⟩) (by exact dR)).trans y0
     have q1:((w1.alloc (.map #[] 0)).alloc (.cells #[.map (some w1.heap.size)] 132)).cell? ⟨w.heap.size,1,none⟩=some (.int .i64 d.f):=(hbM.cell (p:=⟨w.heap.size,1,none⟩) (by exact dR)).trans y1
     have q2:((w1.alloc (.map #[] 0)).alloc (.cells #[.map (some w1.heap.size)] 132)).cell? ⟨w.heap.size,2,none⟩=some (.bool d.neg):=(hbM.cell (p:=⟨w.heap.size,2,none⟩) (by exact dR)).trans y2
     have q3:((w1.alloc (.map #[] 0)).alloc (.cells #[.map (some w1.heap.size)] 132)).cell? ⟨w.heap.size,3,none⟩=some (.slice d.aq d.an d.ac):=(hbM.cell (p:=⟨w.heap.size,3,none⟩) (by exact dR)).trans y3
     have q4:((w1.alloc (.map #[] 0)).alloc (.cells #[.map (some w1.heap.size)] 132)).cell? ⟨w.heap.size,4,none⟩=some (.slice d.cq d.cn d.cc):=(hbM.cell (p:=⟨w.heap.size,4,none⟩) (by exact dR)).trans y4
     have q5:((w1.alloc (.map #[] 0)).alloc (.cells #[.map (some w1.heap.size)] 132)).cell? ⟨w.heap.size,5,none⟩=some (.string d.m):=(hbM.cell (p:=⟨w.heap.size,5,none⟩) (by exact dR)).trans y5
     have q6:((w1.alloc (.map #[] 0)).alloc (.cells #[.map (some w1.heap.size)] 132)).cell? ⟨w.heap.size,6,none⟩=some (.slice d.sq d.sn d.sc):=(hbM.cell (p:=⟨w.heap.size,6,none⟩) (by exact dR)).trans y6)
  | (gi_at_call 79;refine(nodes_in Fence.wide _ trivial rfl d _).mono ?_;rintro e w' ⟨rfl,rfl⟩))
 have hm0:=World.ownsMap_made w1 Tryz.prog 9 (plainElem (H:=Unit) Tryz.prog 4)
 have hB1:Below w.heap.size w ((w1.alloc (.map #[] 0)).alloc (.cells #[.map (some w1.heap.size)] 132)):=(cH.alloc hs1 _).alloc (by simp;omega) _
 have hB2:Below w.heap.size w (((w1.alloc (.map #[] 0)).alloc (.cells #[.map (some w1.heap.size)] 132)).alloc (.cells (nA d) 30)):=hB1.alloc (by simp;omega) _
 have hJB:BlkI (((w1.alloc (.map #[] 0)).alloc (.cells #[.map (some w1.heap.size)] 132)).alloc (.cells (nA d) 30)) (w1.heap.size+1+1) 30 (nA d):=by
  have h:=heap_alloc_new ((w1.alloc (.map #[] 0)).alloc (.cells #[.map (some w1.heap.size)] 132)) (.cells (nA d) 30)
  rwa [show ((w1.alloc (.map #[] 0)).alloc (.cells #[.map (some w1.heap.size)] 132)).heap.size=w1.heap.size+1+1 by simp] at h
 have hbZ:BlkI ((w1.alloc (.map #[] 0)).alloc (.cells #[.map (some w1.heap.size)] 132)) (w1.heap.size+1) 132 #[.map (some w1.heap.size)]:=by
  have h:=heap_alloc_new (w1.alloc (.map #[] 0)) (.cells #[.map (some w1.heap.size)] 132)
  rwa [show (w1.alloc (.map #[] 0)).heap.size=w1.heap.size+1 by simp] at h
 have hcM:(((w1.alloc (.map #[] 0)).alloc (.cells #[.map (some w1.heap.size)] 132)).alloc (.cells (nA d) 30)).cell? ⟨w1.heap.size+1,0,none⟩=some (.map (some w1.heap.size)):=(hbZ.below (zaa _ _)).cell 0
 have hmO:=(hm0.alloc (.cells #[.map (some w1.heap.size)] 132)).alloc (.cells (nA d) 30)
 have hsz5:(((w1.alloc (.map #[] 0)).alloc (.cells #[.map (some w1.heap.size)] 132)).alloc (.cells (nA d) 30)).heap.size=w1.heap.size+3:=by simp
 clear hm0 hB1 y0 y1 y2 y3 y4 y5 y6 q0 q1 q2 q3 q4 q5 q6 hvd hbZ hbM
 generalize (((w1.alloc (.map #[] 0)).alloc (.cells #[.map (some w1.heap.size)] 132)).alloc (.cells (nA d) 30))=W5 at*
 refine wpIn_rangeFunc_ownH (F:=Fence.wide) (n:=6) rfl (by decide) (gf:=111) (lb:=#[.pointer (some ⟨w1.heap.size+1+1,0,none⟩)]) rfl trivial (enters_of Tryz.func111 (by kernel_rfl) rfl)
  (zhs Fence.wide rfl _ trivial trivial rfl (w1.heap.size+1+1) w W5 x d hJB hx hsz hB2) zle (kpN_b hB2.size) (Below.refl _ _) (fun _=>rfl)
  (fun pre W=>(W.cell? ⟨w1.heap.size+1,0,none⟩=some (.map (some w1.heap.size))/\W.ownsMap Tryz.prog 9 (plainElem (H:=Unit) Tryz.prog 4) w1.heap.size pre.length (nmD pre))/\Below w.heap.size w W)
  (fun _ _ _=>False)
  (OwnFrom.and (fun s A B row hs hg hr=>⟨cell_kept hs.1 hg (fun r e=>(hr r e).2),hs.2.kept hg (fun e=>by have:=(hr _ e.symm).1;omega)⟩) (ownFrom_below (Nat.le_refl _) hB2.size))
  (fun _ _ _ _ _ hs _ _=>hs)
  ⟨⟨hcM,hmO⟩,hB2⟩
  (fun x' a' W=>∃Bx,BlkI W Bx 30 (mA x'.1.k x'.1.f x'.1.neg x'.1.aq x'.1.an x'.1.ac x'.1.cq x'.1.cn x'.1.cc x'.1.m x'.1.sq x'.1.sn x'.1.sc)/\
    a'={ tmps:=#[.agg (nA d),.pointer (some ⟨w.heap.size,0,none⟩),.slice none 0 0,.int .i64 0,.pointer (some ⟨w1.heap.size+1,0,none⟩),.pointer (some ⟨Bx,0,none⟩),.agg (nA d),.bool true,.bool false,.map (some w1.heap.size),.agg (nA d),.func (.func 111) #[] #[.pointer (some ⟨w1.heap.size+1+1,0,none⟩)],x'.1.val,undef,undef,undef,undef,undef,undef,undef,undef,undef],defers:=[] })
  (fun x' a' _ X Y row h hg hr=>by
    obtain⟨Bx,h3,h4⟩:=h
    refine⟨Bx,(hg.block Bx h3.lt (fun e=>?_)).trans h3,h4⟩
    obtain⟨_,o,ho,hc⟩:=hr Bx e.symm
    rw[h3] at ho
    cases ho
    cases hc)
  ?assign ?body ?done ?stop
 case assign=>
  rintro l pre x' W K ⟨⟨hc,aB⟩,hB⟩ hK
  have hsW:=hB.size
  have hn1:BlkI (W.alloc (.cells (mA x'.1.k x'.1.f x'.1.neg x'.1.aq x'.1.an x'.1.ac x'.1.cq x'.1.cn x'.1.cc x'.1.m x'.1.sq x'.1.sn x'.1.sc) 30)) W.heap.size 30 (mA x'.1.k x'.1.f x'.1.neg x'.1.aq x'.1.an x'.1.ac x'.1.cq x'.1.cn x'.1.cc x'.1.m x'.1.sq x'.1.sn x'.1.sc):=heap_alloc_new _ _
  simp only[Nd.val]
  gi_wp2
  have kl:=World.block_lt_of_cell? W _ hc
  exact hK _ _ ((KeepsOthers.alloc _ _).from _) ((KpN.refl _ W).alloc hsW _) ⟨⟨((zaa W _).cell (p:=⟨w1.heap.size+1,0,none⟩) kl).trans hc,aB.alloc _⟩,hB.alloc hsW _⟩ ⟨W.heap.size,hn1,rfl⟩
 case body=>
  rintro l pre x' a' W hl _ ⟨⟨hc,aB⟩,hB⟩ ⟨Bx,hbx,rfl⟩ hlt
  have hsW:=hB.size
  have x0:W.cell? ⟨Bx,0,none⟩=some (.int .i64 x'.1.k):=hbx.cell 0
  have x5:W.cell? ⟨Bx,5,none⟩=some (.string x'.1.m):=hbx.cell 5
  have hpl:pre.length<maxLen:=by unfold maxLen;omega
  have hs8:x'.1.m.size<=maxLen:=by have:=x'.2;unfold maxLen;omega
  simp only[Nd.val]
  by_cases hk:x'.1.k=2
  ·have hk':Hid (x'.1.k=2):=hk
   have hkb:(x'.1.k==2)=true:=by simp[hk]
   clear hk
   gi_wp2_with (gi_at_mapUpdate;refine wpListIn_mapUpdate_own _ rfl _ _ _ 132 rfl 9 4 (Maps.string_keyed Tryz.underlying9) Tryz.underlying132 _ w1.heap.size pre.length _ rfl aB hpl _ _ _ rfl rfl (WideMaps.keyOf_string_mk Tryz.underlying9 hs8) _ [] (plainElem_bool Tryz.underlying4 true) ?_;intro w2 aC az)
   obtain⟨es,ck,hh,_⟩:=aB
   exact⟨KeepsFrom.of_grownBy az (fun j e=>by cases e;omega),zmf az hs1 hsW (fun o ho=>by rw[hh] at ho;cases ho;rfl),⟨cell_kept hc az (fun r e=>by cases e;exact⟨_,hh,rfl⟩),by rw[ziv,if_pos hk'.out,List.length_append];exact aC⟩,hB.grown az hB.size (fun k e=>by cases e;exact hs1)⟩
  ·have hk':Hid (¬x'.1.k=2):=hk
   have hkb:(x'.1.k==2)=false:=by simp[hk]
   clear hk
   gi_wp2
   exact⟨KeepsFrom.refl _ _,KpN.refl _ _,⟨hc,by rw[ziv,if_neg hk'.out,List.length_append];exact aB.mono (by simp)⟩,hB⟩
 case done=>
  rintro D ys W hD hS ⟨⟨hc,aB⟩,hB⟩ hK
  have hyl:ys.length=x.nds.length:=by rw[<-hS,List.length_map]
  have hsl:=aB.size_le
  have hDl:=(Array.getElem?_eq_some_iff.1 hK).1
  gi_wp2_with (first
   | (gi_at_call 81;refine(zgo _ _).mono ?_;rintro e w' ⟨rfl,rfl⟩)
   | (gi_at_call 80;refine(zb7 w1.heap.size ys.length (nmD ys) _ W aB (by unfold maxLen;omega) (by omega)).mono ?_;rintro e w' ⟨v,ss,rfl,hSs,ap,hnil,hb⟩))
  have hbD:Below W.heap.size W w':=(zaa W _).trans (hb.mono (by simp))
  have hK':w'.heap[D]?=some (.deferred (some [])):=(hbD.block D hDl).trans hK
  refine⟨by simp,.inl ⟨_,_,rfl,run_takeDeferred hK',?_⟩⟩
  have ce:=ownsRow_putObj ap (.deferred none) hK' rfl
  rw[<-List.length_mergeSort (le:=fun x y=>decide (x<=y))] at ce
  obtain⟨q,cap,rfl,hst⟩:=zh8 ce
  have hBf:Below w.heap.size w (w'.putObj D (.deferred none)):=(hB.trans (hbD.mono hB.size)).trans (belowK_b (w:=w) (Nat.le_refl _) w' D _ _ (by have:=hB2.size;omega) hK' rfl rfl)
  refine⟨_,results_tmp2 rfl _ _ _,⟨q,_,cap,_,rfl,hst,?_,fun s=>?_⟩,hBf⟩
  ·rw[List.length_mergeSort,hSs.length_eq]
   have:(strKeys (nmD ys)).length=Maps.size (nmD ys):=by
    obtain⟨es,he,_⟩:=aB.keysOf
    rw[he]
    simp[strKeys,Maps.size]
   omega
  ·have h1:(∃i,i<(ss.mergeSort fun x y=>decide (x<=y)).length/\(⟨((ss.mergeSort fun x y=>decide (x<=y)).getD i []).toArray⟩:ByteArray)=s)↔s.data.toList∈(ss.mergeSort fun x y=>decide (x<=y)):=by
    constructor
    ·rintro⟨i,hi,rfl⟩
     rw[List.getD_eq_getElem?_getD,List.getElem?_eq_getElem hi]
     simp
    ·intro h
     obtain⟨i,hi,e⟩:=List.getElem_of_mem h
     refine⟨i,hi,?_⟩
     rw[List.getD_eq_getElem?_getD,List.getElem?_eq_getElem hi]
     simp[e]
   rw[h1,List.mem_mergeSort,hSs.mem_iff,nmD_keys aB,<-hS,List.mem_map]
   constructor
   ·rintro⟨y,hy,h2,h3⟩
    refine⟨y,hy,?_⟩
    unfold Nv.key
    rw[h2]
    congr 1
    exact ByteArray.ext (Array.toList_inj.1 h3)
   ·rintro⟨y,hy,h2⟩
    unfold Nv.key at h2
    simp only[Prod.mk.injEq] at h2
    exact⟨y,hy,h2.1,by rw[h2.2]⟩
 case stop=>
  rintro D c pre W _ _ h _
  exact h.elim
end Go.Proofs.YtaonejnicgbifaaGreatDoor
namespace Go.Proofs.YtaonejnicgbifaaGreatDoor
open Go Go.RowKit
set_option maxRecDepth 100000
set_option maxHeartbeats 16000000
def StrL (w:World) (q:Option Addr) (n c:Nat) (L:List ByteArray):Prop:=
 L.length=n/\n<=c/\c<=maxLen/\((q=none/\n=0/\c=0)\/∃b o,q=some ⟨b,o,none⟩/\b<w.heap.size/\∀i k,L[i]?=some k->w.cell? ⟨b,o+i,none⟩=some (.string k))
theorem StrL.below {w w':World} (hb:Below w.heap.size w w') {q:Option Addr} {n c:Nat} {L:List ByteArray} (h:StrL w q n c L):StrL w' q n c L:=by
 refine⟨h.1,h.2.1,h.2.2.1,h.2.2.2.imp id ?_⟩
 rintro⟨b,o,e,hlt,hc⟩
 exact⟨b,o,e,Nat.lt_of_lt_of_le hlt hb.size,fun i k hk=>(hb.cell (p:=⟨b,o+i,none⟩) hlt).trans (hc i k hk)⟩
def PutL (w:World) (q:Option Addr) (n c:Nat) (s:ByteArray) (L:List ByteArray):Prop:=∃L',StrL w q n c L'/\L'.length<=L.length+1/\∀t,t∈L'↔t=s\/t∈L
theorem StrL.of_row {w:World} {base:Nat} {v:Value} {L:List ByteArray} (h:w.ownsRow base 9 1 v L.length (L.map Value.string)) (h0:0<L.length):∃g cap,v=.slice (some ⟨g,0,none⟩) L.length cap/\StrL w (some ⟨g,0,none⟩) L.length cap L:=by
 obtain⟨h1,⟨_,h2⟩ | ⟨g,cap,cur,rfl,h2,h3,h4,h5,h6,h7⟩⟩:=h
 ·omega
 ·refine⟨g,cap,rfl,rfl,h4,h5,.inr ⟨g,0,rfl,(Array.getElem?_eq_some_iff.1 h3).1,fun i k hk=>?_⟩⟩
  have hi:=(List.getElem?_eq_some_iff.1 hk).1
  have h8:cur[i]?=some (.string k):=by
   have h9:(cur.toList.take (L.length*1))[i]?=(L.map Value.string)[i]?:=by rw[h7]
   rw[List.getElem?_take,if_pos (by omega),List.getElem?_map,hk] at h9
   rw[<-Array.getElem?_toList,h9]
   rfl
  simp[World.cell?,h3,h8]
theorem zdh {w:World} {b o:Nat} {L:List ByteArray} (h:∀i k,L[i]?=some k->w.cell? ⟨b,o+i,none⟩=some (.string k)):
  ∀j u,(L.map Value.string)[j]?=some u->w.cell? ((⟨b,o,none⟩:Addr).add j)=some u:=by
 intro j u hu
 rw[List.getElem?_map,Option.map_eq_some_iff] at hu
 obtain⟨k,hk,rfl⟩:=hu
 rw[Addr.add_mid]
 exact h j k hk
theorem zcf (L:List ByteArray):∀u∈L.map Value.string,u.oneCell'=true:=by
 intro u hu
 obtain⟨x,_,rfl⟩:=List.mem_map.1 hu
 rfl
theorem zf1 (s:ByteArray):∀u∈[Value.string s],u.oneCell'=true:=fun u hu=>zcf [s] u (by simpa using hu)
theorem put_some {w:World} (s:ByteArray) (b o n c:Nat) (L:List ByteArray) (hL:L.length=n) (hnc:n<=c) (hcm:c<=maxLen) (hn:n<=1048576) (hb:b<w.heap.size) (hx:∀i a,L[i]?=some a->w.cell? ⟨b,o+i,none⟩=some (.string a)):
  Calls Tryz.prog 94 #[.slice (some ⟨b,o,none⟩) n c,.string s] w fun e w'=>∃q n' c',e=.returned (.slice q n' c')/\PutL w' q n' c' s L/\Below w.heap.size w w':=by
 obtain⟨i0,hi,hz0,hz1,hz2⟩:=info_parts (show(Tryz.prog.info? 9).map (fun i=>(i.zero,i.size,i.bytes))=some (some (.string ⟨#[]⟩),1,16) by kernel_rfl)
 have hx':=zac hx
 clear hx
 go_enter Tryz.func94,Tryz.ntmps94
 go_wp2_with fail
 go_loopw [5] (fun i wr=>∃j:Nat,j<=n/\i=.int .i64 j/\Below w.heap.size w wr) (fun i _=>n - (intOf i).toNat)
 case atStart=>exact⟨0,Nat.zero_le _,rfl,Below.refl _ _⟩
 case round=>
  obtain⟨j,hj,rfl,hbw⟩:=hrel
  have hws:=hbw.size
  by_cases hjn:j<n
  ·have hjn':(j:Int)<(n:Int):=by omega
   obtain⟨a,ha⟩:∃a,L[j]?=some a:=⟨_,List.getElem?_eq_getElem (by omega)⟩
   have ha':Hid (L[j]?=some a):=ha
   have d0:=(hbw.cell (p:=⟨b,o+j,none⟩) hb).trans (hx'.out j a ha)
   clear ha
   cases hlt:Op.bytesLess a.toList s.toList with
   | true=>
    go_wp2_with fail
    go_roundw
    case rel=>exact⟨j+1,by omega,by go_num,hbw⟩
    case measure=>simp[intOf];omega
   | false=>
    cases he:(a.toList==s.toList) with
    | true=>
     have hes:a=s:=zd3 (by simpa using he)
     have ko:Hid (a=s):=hes
     clear hes
     go_wp2_with fail
     go_ret
     refine⟨_,n,c,rfl,⟨L,⟨hL,hnc,hcm,.inr ⟨b,o,rfl,Nat.lt_of_lt_of_le hb hws,fun i k hk=>(hbw.cell (p:=⟨b,o+i,none⟩) hb).trans (hx'.out i k hk)⟩⟩,by omega,fun t=>⟨.inr,fun h=>h.elim (fun e=>?_) id⟩⟩,hbw⟩
     rw[e,<-ko.out]
     exact List.mem_of_getElem? ha'.out
    | false=>
     have e0:Hid (wr.ownsRow wr.heap.size 9 1 (.slice none 0 0) 0 []):=World.ownsRow_nil _ _ _ _
     have HR:∀i a,L[i]?=some a->wr.cell? ⟨b,o+i,none⟩=some (.string a):=fun i a h=>(hbw.cell (p:=⟨b,o+i,none⟩) hb).trans (hx'.out i a h)
     have n1:Hid (∀q u,((L.take j).map Value.string)[q]?=some u->wr.cell? ((⟨b,o,none⟩:Addr).add q)=some u):=zdh fun i a h=>HR i a (by rw[List.getElem?_take] at h;split at h<;>first | exact h | cases h)
     have n3:Hid (∀z,Below wr.heap.size wr z->∀q u,((L.drop j).map Value.string)[q]?=some u->z.cell? ((⟨b,o+j,none⟩:Addr).add q)=some u):=fun z hz=>zdh fun i a h=>by
      rw[List.getElem?_drop] at h
      have:=(hz.cell (p:=⟨b,o+(j+i),none⟩) (by show b<wr.heap.size;omega)).trans (HR (j+i) a h)
      rwa [<-Nat.add_assoc] at this
     clear HR
     have ltk:(L.take j).length=j:=by simp;omega
     have ldr:(L.drop j).length=n - j:=by simp;omega
     by_cases hcj:j=c
     ·omega
     ·have kp:¬c=j:=fun h=>hcj h.symm
      go_wp2_with (first
       | (at_builtin;with_reducible refine wpList_append_own _ rfl _ _ 99 rfl wr.heap.size 9 i0 (.string ⟨#[]⟩) 1 16 Tryz.underlying99 hi hz0 hz1 hz2 rfl (by decide) (.slice none 0 0) 0 [] ?_ e0.out ⟨b,o,none⟩ j c ((L.take j).map Value.string) ?_ (by rw[List.length_map,ltk];omega) n1.out (zcf _) (by unfold maxLen;omega) (by omega) (Nat.le_refl _) ?_
          ·rfl
          ·rfl
          intro v1 w6 ci cF _
          have B6:Below wr.heap.size wr w6:=(Below.refl _ wr).grown cF (Nat.le_refl _) (fun g' hg'=>by simp[Value.ownBlock] at hg')
          have s6:=B6.size)
       | (at_builtin;with_reducible refine wpList_append_own _ rfl _ _ 99 rfl wr.heap.size 9 i0 (.string ⟨#[]⟩) 1 16 Tryz.underlying99 hi hz0 hz1 hz2 rfl (by decide) v1 (0+j) _ ?_ (ci.alloc _) ⟨w6.heap.size,0,none⟩ 1 1 [.string s] ?_ rfl (World.news_of_block (heap_alloc_last w6 (.cells #[.string s] 9))) (zf1 s) (by unfold maxLen;omega) (by omega) (by simp;omega) ?_
          ·rfl
          ·rfl
          intro v2 w7 bK bO _
          have B7:Below wr.heap.size wr w7:=(B6.alloc s6 _).grown bO (by simp;omega) (fun g' hg'=>(ci.lt g' hg').1)
          have s7:=B7.size)
       | (at_builtin;with_reducible refine wpList_append_own _ rfl _ _ 99 rfl wr.heap.size 9 i0 (.string ⟨#[]⟩) 1 16 Tryz.underlying99 hi hz0 hz1 hz2 rfl (by decide) v2 (0+j+1) _ ?_ bK ⟨b,o+j,none⟩ (n - j) (c - j) ((L.drop j).map Value.string) ?_ (by rw[List.length_map,ldr];omega) (n3.out _ B7) (zcf _) (by unfold maxLen;omega) (by omega) s7 ?_
          ·rfl
          ·rfl
          intro v3 w8 dA cG _
          have B8:Below wr.heap.size wr w8:=B7.grown cG s7 (fun g' hg'=>(bK.lt g' hg').1)))
      go_ret
      have aj:(L.take j++s::L.drop j).length=0+j+1+(n - j):=by rw[List.length_append,List.length_cons,ltk,ldr];omega
      have ap:w8.ownsRow wr.heap.size 9 1 v3 (L.take j++s::L.drop j).length ((L.take j++s::L.drop j).map Value.string):=by
       rw[aj]
       simpa using dA
      obtain⟨g,cap,rfl,hks⟩:=StrL.of_row ap (by omega)
      refine⟨_,_,cap,rfl,⟨_,hks,by rw[aj,hL];omega,fun t=>?_⟩,hbw.trans (B8.mono hbw.size)⟩
      rw[List.mem_append,List.mem_cons,<-or_assoc,or_comm (a:=t∈L.take j),or_assoc,<-List.mem_append,List.take_append_drop]
  ·obtain rfl:j=n:=by omega
   have e0:Hid (wr.ownsRow wr.heap.size 9 1 (.slice none 0 0) 0 []):=World.ownsRow_nil _ _ _ _
   have HR:∀i a,L[i]?=some a->wr.cell? ⟨b,o+i,none⟩=some (.string a):=fun i a h=>(hbw.cell (p:=⟨b,o+i,none⟩) hb).trans (hx'.out i a h)
   have n1:Hid (∀q u,((L.take j).map Value.string)[q]?=some u->wr.cell? ((⟨b,o,none⟩:Addr).add q)=some u):=zdh fun i a h=>HR i a (by rw[List.getElem?_take] at h;split at h<;>first | exact h | cases h)
   have n3:Hid (∀z,Below wr.heap.size wr z->∀q u,((L.drop j).map Value.string)[q]?=some u->z.cell? ((⟨b,o+j,none⟩:Addr).add q)=some u):=fun z hz=>zdh fun i a h=>by
    rw[List.getElem?_drop] at h
    have:=(hz.cell (p:=⟨b,o+(j+i),none⟩) (by show b<wr.heap.size;omega)).trans (HR (j+i) a h)
    rwa [<-Nat.add_assoc] at this
   clear HR
   have ltk:(L.take j).length=j:=by simp;omega
   have ldr:(L.drop j).length=j - j:=by simp;omega
   by_cases hcj:j=c
   ·subst hcj
    go_wp2_with (first
     | (at_builtin;with_reducible refine wpList_append_own _ rfl _ _ 99 rfl wr.heap.size 9 i0 (.string ⟨#[]⟩) 1 16 Tryz.underlying99 hi hz0 hz1 hz2 rfl (by decide) (.slice none 0 0) 0 [] ?_ e0.out ⟨b,o,none⟩ j j ((L.take j).map Value.string) ?_ (by rw[List.length_map,ltk];omega) n1.out (zcf _) (by unfold maxLen;omega) (by omega) (Nat.le_refl _) ?_
        ·rfl
        ·rfl
        intro v1 w6 ci cF _
        have B6:Below wr.heap.size wr w6:=(Below.refl _ wr).grown cF (Nat.le_refl _) (fun g' hg'=>by simp[Value.ownBlock] at hg')
        have s6:=B6.size)
     | (at_builtin;with_reducible refine wpList_append_own _ rfl _ _ 99 rfl wr.heap.size 9 i0 (.string ⟨#[]⟩) 1 16 Tryz.underlying99 hi hz0 hz1 hz2 rfl (by decide) v1 (0+j) _ ?_ (ci.alloc _) ⟨w6.heap.size,0,none⟩ 1 1 [.string s] ?_ rfl (World.news_of_block (heap_alloc_last w6 (.cells #[.string s] 9))) (zf1 s) (by unfold maxLen;omega) (by omega) (by simp;omega) ?_
        ·rfl
        ·rfl
        intro v2 w7 bK bO _
        have B7:Below wr.heap.size wr w7:=(B6.alloc s6 _).grown bO (by simp;omega) (fun g' hg'=>(ci.lt g' hg').1)
        have s7:=B7.size)
     | (at_builtin;with_reducible refine wpList_append_own _ rfl _ _ 99 rfl wr.heap.size 9 i0 (.string ⟨#[]⟩) 1 16 Tryz.underlying99 hi hz0 hz1 hz2 rfl (by decide) v2 (0+j+1) _ ?_ bK ⟨b,o,none⟩ 0 0 ((L.drop j).map Value.string) ?_ (by rw[List.length_map,ldr];omega) (fun q u h=>by rw[List.drop_of_length_le (by omega)] at h;simp at h) (zcf _) (by unfold maxLen;omega) (by omega) s7 ?_
        ·rfl
        ·rfl
        intro v3 w8 dA cG _
        have B8:Below wr.heap.size wr w8:=B7.grown cG s7 (fun g' hg'=>(bK.lt g' hg').1)))
    go_ret
    have aj:(L.take j++s::L.drop j).length=0+j+1+0:=by rw[List.length_append,List.length_cons,ltk,ldr];omega
    have ap:w8.ownsRow wr.heap.size 9 1 v3 (L.take j++s::L.drop j).length ((L.take j++s::L.drop j).map Value.string):=by
     rw[aj]
     simpa using dA
    obtain⟨g,cap,rfl,hks⟩:=StrL.of_row ap (by omega)
    refine⟨_,_,cap,rfl,⟨_,hks,by rw[aj,hL];omega,fun t=>?_⟩,hbw.trans (B8.mono hbw.size)⟩
    rw[List.mem_append,List.mem_cons,<-or_assoc,or_comm (a:=t∈L.take j),or_assoc,<-List.mem_append,List.take_append_drop]
   ·have kp:¬c=j:=fun h=>hcj h.symm
    go_wp2_with (first
     | (at_builtin;with_reducible refine wpList_append_own _ rfl _ _ 99 rfl wr.heap.size 9 i0 (.string ⟨#[]⟩) 1 16 Tryz.underlying99 hi hz0 hz1 hz2 rfl (by decide) (.slice none 0 0) 0 [] ?_ e0.out ⟨b,o,none⟩ j c ((L.take j).map Value.string) ?_ (by rw[List.length_map,ltk];omega) n1.out (zcf _) (by unfold maxLen;omega) (by omega) (Nat.le_refl _) ?_
        ·rfl
        ·rfl
        intro v1 w6 ci cF _
        have B6:Below wr.heap.size wr w6:=(Below.refl _ wr).grown cF (Nat.le_refl _) (fun g' hg'=>by simp[Value.ownBlock] at hg')
        have s6:=B6.size)
     | (at_builtin;with_reducible refine wpList_append_own _ rfl _ _ 99 rfl wr.heap.size 9 i0 (.string ⟨#[]⟩) 1 16 Tryz.underlying99 hi hz0 hz1 hz2 rfl (by decide) v1 (0+j) _ ?_ (ci.alloc _) ⟨w6.heap.size,0,none⟩ 1 1 [.string s] ?_ rfl (World.news_of_block (heap_alloc_last w6 (.cells #[.string s] 9))) (zf1 s) (by unfold maxLen;omega) (by omega) (by simp;omega) ?_
        ·rfl
        ·rfl
        intro v2 w7 bK bO _
        have B7:Below wr.heap.size wr w7:=(B6.alloc s6 _).grown bO (by simp;omega) (fun g' hg'=>(ci.lt g' hg').1)
        have s7:=B7.size)
     | (at_builtin;with_reducible refine wpList_append_own _ rfl _ _ 99 rfl wr.heap.size 9 i0 (.string ⟨#[]⟩) 1 16 Tryz.underlying99 hi hz0 hz1 hz2 rfl (by decide) v2 (0+j+1) _ ?_ bK ⟨b,o+j,none⟩ 0 (c - j) ((L.drop j).map Value.string) ?_ (by rw[List.length_map,ldr];omega) (n3.out _ B7) (zcf _) (by unfold maxLen;omega) (by omega) s7 ?_
        ·rfl
        ·rfl
        intro v3 w8 dA cG _
        have B8:Below wr.heap.size wr w8:=B7.grown cG s7 (fun g' hg'=>(bK.lt g' hg').1)))
    go_ret
    have aj:(L.take j++s::L.drop j).length=0+j+1+0:=by rw[List.length_append,List.length_cons,ltk,ldr];omega
    have ap:w8.ownsRow wr.heap.size 9 1 v3 (L.take j++s::L.drop j).length ((L.take j++s::L.drop j).map Value.string):=by
     rw[aj]
     simpa using dA
    obtain⟨g,cap,rfl,hks⟩:=StrL.of_row ap (by omega)
    refine⟨_,_,cap,rfl,⟨_,hks,by rw[aj,hL];omega,fun t=>?_⟩,hbw.trans (B8.mono hbw.size)⟩
    rw[List.mem_append,List.mem_cons,<-or_assoc,or_comm (a:=t∈L.take j),or_assoc,<-List.mem_append,List.take_append_drop]
theorem put_nil (s:ByteArray) (w:World):Calls Tryz.prog 94 #[.slice none 0 0,.string s] w fun e w'=>∃q n' c',e=.returned (.slice q n' c')/\PutL w' q n' c' s []/\Below w.heap.size w w':=by
 obtain⟨i0,hi,hz0,hz1,hz2⟩:=info_parts (show(Tryz.prog.info? 9).map (fun i=>(i.zero,i.size,i.bytes))=some (some (.string ⟨#[]⟩),1,16) by kernel_rfl)
 go_enter Tryz.func94,Tryz.ntmps94
 go_wp2_with fail
 refine wp_loop_once ?_
 have e0:Hid (w.ownsRow w.heap.size 9 1 (.slice none 0 0) 0 []):=World.ownsRow_nil _ _ _ _
 go_wp2_with (first
  | (at_builtin;refine wpList_append_own_none rfl _ _ 99 rfl w.heap.size 9 i0 1 Tryz.underlying99 hi (.slice none 0 0) 0 [] rfl e0.out rfl ?_)
  | (at_builtin;with_reducible refine wpList_append_own _ rfl _ _ 99 rfl w.heap.size 9 i0 (.string ⟨#[]⟩) 1 16 Tryz.underlying99 hi hz0 hz1 hz2 rfl (by decide) (.slice none 0 0) 0 [] ?_ (e0.out.alloc _) ⟨w.heap.size,0,none⟩ 1 1 [.string s] ?_ rfl (World.news_of_block (heap_alloc_last w (.cells #[.string s] 9))) (zf1 s) (by unfold maxLen;omega) (by omega) (by simp) ?_
     ·rfl
     ·rfl
     intro v2 w7 bK bO _
     have B7:Below w.heap.size w w7:=(zaa w _).grown bO (by simp) (fun g' hg'=>by simp[Value.ownBlock] at hg')
     have s7:=B7.size)
  | (at_builtin;with_reducible refine wpList_append_own_none rfl _ _ 99 rfl w.heap.size 9 i0 1 Tryz.underlying99 hi v2 (0+1) _ rfl bK rfl ?_))
 go_ret
 have ap:w7.ownsRow w.heap.size 9 1 v2 [s].length ([s].map Value.string):=by simpa using bK
 obtain⟨g,cap,rfl,hks⟩:=StrL.of_row ap (by simp)
 exact⟨_,_,cap,rfl,⟨_,hks,by simp,fun t=>by simp⟩,B7⟩
theorem put_ok {w:World} (s:ByteArray) {q:Option Addr} {n c:Nat} {L:List ByteArray} (h:StrL w q n c L) (hn:n<=1048576):
  Calls Tryz.prog 94 #[.slice q n c,.string s] w fun e w'=>∃q n' c',e=.returned (.slice q n' c')/\PutL w' q n' c' s L/\Below w.heap.size w w':=by
 obtain⟨h1,h2,h3,⟨rfl,rfl,rfl⟩ | ⟨b,o,rfl,hlt,hc⟩⟩:=h
 ·obtain rfl:L=[]:=List.eq_nil_of_length_eq_zero h1
  exact put_nil s w
 ·exact put_some s b o n c L h1 h2 h3 hn hlt hc
end Go.Proofs.YtaonejnicgbifaaGreatDoor
