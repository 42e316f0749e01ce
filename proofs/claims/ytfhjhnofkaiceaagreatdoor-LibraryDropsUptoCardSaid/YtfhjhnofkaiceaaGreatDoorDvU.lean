import Derived.Test.YtfhjhnofkaiceaaGreatDoorDvT
import Derived.Test.YtfhjhnofkaiceaaGreatDoorDvI
namespace Go.Proofs.YtfhjhnofkaiceaaGreatDoor
open Go Go.RowKit Go.Shelf
theorem sort_nil (w:World):Calls Tryz.prog 55 #[.slice none 0 0,.func (.func 56) #[] #[]] w fun e w'=>e=.returned (.tuple #[])/\w'=w:=
 Go.Proofs.AnyF.slices_SortFunc_none zed none 0 (.func (.func 56) #[] #[]) w
theorem zeh {w:World} {g cap:Nat} {L:List Ky} (hn:L.length<=1048576) (hnc:L.length<=cap) (hcm:cap<=maxLen) (h:Row w g L):
  Calls Tryz.prog 57 #[.slice (some ⟨g,0,none⟩) L.length cap] w fun e w'=>e=.returned (.slice (some ⟨g,0,none⟩) (compK L).length cap)/\KeysAt w' g (compK L)/\w.grownBy w' (some g):=by
 by_cases h2:2<=L.length
 ·exact zdj rfl h2 hn hnc hcm h
 ·refine(zbo (some ⟨g,0,none⟩) L.length cap (by omega)).mono ?_
  rintro e w' ⟨rfl,rfl⟩
  have hc:compK L=L:=by
   match L,h2 with
   | [],_=>rfl
   | [a],_=>rfl
   | a::b::l,h2=>simp at h2
  rw[hc]
  exact⟨rfl,fun i k hi=>(h i k hi).1,⟨rfl,rfl,rfl,Nat.le_refl _,fun _ _ _=>rfl⟩⟩
theorem Row.of_own {w:World} {base g cap:Nat} {K:List Ky} (h:w.ownsRow base 24 2 (.slice (some ⟨g,0,none⟩) K.length cap) K.length (K.flatMap kcells)):Row w g K:=
 fun _i _k hi=>⟨zam (s:=2) zaf h hi,fun _c _=>h.frozenAt _⟩
set_option maxRecDepth 100000 in
theorem uses_nil {w:World} {d:Sd} (hW:∀z,Below w.heap.size w z->Coll z (w.heap.size+1) (.slice none 0 0) []->Calls Tryz.prog 53 #[.agg d.cells.toArray,.func (.func 54) #[] #[.pointer (some ⟨w.heap.size+1,0,none⟩)]] z fun e w'=>e=.returned (.bool true)/\Coll w' (w.heap.size+1) (.slice none 0 0) []/\Below (w.heap.size+1) z w'):
  Calls Tryz.prog 34 #[.agg d.ce] w fun e w'=>e=.returned (.slice none 0 0)/\Below w.heap.size w w':=by
 obtain⟨dd,hu,hd⟩:=st_row
 have hHu:Hid (Tryz.prog.underlying 53=some dd):=hu
 clear hu
 have hb0:Below w.heap.size w ((w.alloc (.cells d.ce 53)).alloc (.cells #[.slice none 0 0] 29)):=below_two w _ _
 have hz0:((w.alloc (.cells d.ce 53)).alloc (.cells #[.slice none 0 0] 29)).heap.size=w.heap.size+2:=by simp
 have D0:Hid (((w.alloc (.cells d.ce 53)).alloc (.cells #[.slice none 0 0] 29)).rangeAt (w.heap.size) 0 d.cells):=World.rangeAt_alloc (range_new w d.cells 53) _
 have hc0:Coll ((w.alloc (.cells d.ce 53)).alloc (.cells #[.slice none 0 0] 29)) (w.heap.size+1) (.slice none 0 0) []:=⟨by omega,by
  have h:=heap_alloc_last (w.alloc (.cells d.ce 53)) (.cells #[.slice none 0 0] 29 (0,0))
  rwa [show (w.alloc (.cells d.ce 53)).heap.size=w.heap.size+1 by simp] at h,World.ownsRow_nil _ _ _ _,fun _=>rfl⟩
 have hw1:=hW _ hb0 hc0
 clear hW hc0
 go_enter Tryz.func34,Tryz.ntmps34
 go_wp2_with (first
  | (with_reducible refine wpList_load_mid (op:=⟨some 4,_,_,_,_,_⟩) ?_ 53 (.tmp 1) ?_ (w.heap.size) 0 ?_ d.cells dd ?_ hHu.out hd ?_ ?_
     rotate_left 1
     ·with_reducible rfl
     ·kernel_rfl
     ·exact D0.out
     ·exact st_size
     rotate_left 1
     ·rfl)
  | (go_at_call 53;refine hw1.mono ?_;rintro e w2 ⟨rfl,hc2,hb2⟩
     have c2:=hc2.cell)
  | (go_at_call 55;refine(sort_nil _).mono ?_;rintro e w3 ⟨rfl,rfl⟩)
  | (go_at_call 57;refine(zbo none 0 0 (by decide)).mono ?_;rintro e w4 ⟨rfl,rfl⟩))
 go_ret
 exact⟨rfl,hb0.trans (hb2.mono (by omega))⟩
set_option maxRecDepth 100000 in
theorem zfb {w:World} {d:Sd} {K:List Ky} (hK:K.length<=1048576) (hW:∀z,Below w.heap.size w z->Coll z (w.heap.size+1) (.slice none 0 0) []->Calls Tryz.prog 53 #[.agg d.cells.toArray,.func (.func 54) #[] #[.pointer (some ⟨w.heap.size+1,0,none⟩)]] z fun e w'=>e=.returned (.bool true)/\∃g cap,Coll w' (w.heap.size+1) (.slice (some ⟨g,0,none⟩) K.length cap) K/\K.length<=cap/\cap<=maxLen/\Below (w.heap.size+1) z w'):
  Calls Tryz.prog 34 #[.agg d.ce] w fun e w'=>∃q c,e=.returned (.slice q (compK (sortK K)).length c)/\KsOk w' q (compK (sortK K)).length c (compK (sortK K))/\Below w.heap.size w w':=by
 obtain⟨dd,hu,hd⟩:=st_row
 have hHu:Hid (Tryz.prog.underlying 53=some dd):=hu
 clear hu
 have hb0:Below w.heap.size w ((w.alloc (.cells d.ce 53)).alloc (.cells #[.slice none 0 0] 29)):=below_two w _ _
 have hz0:((w.alloc (.cells d.ce 53)).alloc (.cells #[.slice none 0 0] 29)).heap.size=w.heap.size+2:=by simp
 have D0:Hid (((w.alloc (.cells d.ce 53)).alloc (.cells #[.slice none 0 0] 29)).rangeAt (w.heap.size) 0 d.cells):=World.rangeAt_alloc (range_new w d.cells 53) _
 have hc0:Coll ((w.alloc (.cells d.ce 53)).alloc (.cells #[.slice none 0 0] 29)) (w.heap.size+1) (.slice none 0 0) []:=⟨by omega,by
  have h:=heap_alloc_last (w.alloc (.cells d.ce 53)) (.cells #[.slice none 0 0] 29 (0,0))
  rwa [show (w.alloc (.cells d.ce 53)).heap.size=w.heap.size+1 by simp] at h,World.ownsRow_nil _ _ _ _,fun _=>rfl⟩
 have hw1:=hW _ hb0 hc0
 have hsl:(sortK K).length=K.length:=(zbt K).length_eq
 have hcl:=zdi (sortK K)
 clear hW hc0
 go_enter Tryz.func34,Tryz.ntmps34
 go_wp2_with (first
  | (with_reducible refine wpList_load_mid (op:=⟨some 4,_,_,_,_,_⟩) ?_ 53 (.tmp 1) ?_ (w.heap.size) 0 ?_ d.cells dd ?_ hHu.out hd ?_ ?_
     rotate_left 1
     ·with_reducible rfl
     ·kernel_rfl
     ·exact D0.out
     ·exact st_size
     rotate_left 1
     ·rfl)
  | (go_at_call 53;refine hw1.mono ?_;rintro e w2 ⟨rfl,g,cap,hc2,hkc,hcm,hb2⟩
     have c2:=hc2.cell
     have hg:=hc2.own g rfl
     have hs2:=hb2.size
     have hW2:Below w.heap.size w w2:=hb0.trans (hb2.mono (by omega))
     have hc2':Hid (Coll w2 (w.heap.size+1) (.slice (some ⟨g,0,none⟩) K.length cap) K):=hc2
     clear hc2)
  | (go_at_call 55;refine(sort_ok (Row.of_own hc2'.out.row) hg.2 hK).mono ?_;rintro e w3 ⟨rfl,hr3,hg3⟩
     have c3:w3.cell? ⟨w.heap.size+1,0,none⟩=some (.slice (some ⟨g,0,none⟩) K.length cap):=hg3.cell c2 (fun e=>by simp only[Option.some.injEq] at e;omega)
     have hW3:Below w.heap.size w w3:=hW2.grown hg3 hW2.size (fun g' e=>by simp only[Option.some.injEq] at e;omega)
     have hk4:=zeh (w:=w3) (cap:=cap) (by omega) (by omega) hcm hr3
     rw[hsl] at hk4)
  | (go_at_call 57;refine hk4.mono ?_;rintro e w4 ⟨rfl,hr4,hg4⟩))
 go_ret
 have hW4:Below w.heap.size w w4:=hW3.grown hg4 hW3.size (fun g' e=>by simp only[Option.some.injEq] at e;omega)
 have hs3:=hg3.size
 have hs4:=hg4.size
 exact⟨_,cap,rfl,⟨rfl,by omega,hcm,.inr ⟨g,0,rfl,by omega,hr4⟩⟩,hW4⟩
theorem uses_ok {w:World} {X:St} {d:Sd} (hX:StOk w X d) (hK:X.keys.length<=1048576):
  Calls Tryz.prog 34 #[d.val] w fun e w'=>∃q c,e=.returned (.slice q (foldK [] X.keys).length c)/\KsOk w' q (foldK [] X.keys).length c (foldK [] X.keys)/\Below w.heap.size w w':=by
 have hsame:compK (sortK X.keys)=foldK [] X.keys:=zfl X.keys (sortK X.keys) (zbt _) (zf6 _)
 have hw:∀z,Below w.heap.size w z->Coll z (w.heap.size+1) (.slice none 0 0) []->Calls Tryz.prog 53 #[.agg d.cells.toArray,.func (.func 54) #[] #[.pointer (some ⟨w.heap.size+1,0,none⟩)]] z fun e w'=>e=.returned (.bool true)/\∃v',Coll w' (w.heap.size+1) v' X.keys/\Grow (w.heap.size+1) z (.slice none 0 0) w' v':=fun z hz hc=>by
  have h:=walk_ok X d z (w.heap.size+1) (.slice none 0 0) [] ((hX.toA).keep (zah hz) (fun b h=>by omega)) hc (by simpa using hK)
  simp only[List.nil_append] at h
  exact h
 by_cases h0:X.keys=[]
 ·have hf:foldK [] X.keys=[]:=by rw[h0];rfl
  rw[hf]
  refine(uses_nil fun z hz hc=>(hw z hz hc).mono ?_).mono ?_
  ·rintro e w' ⟨rfl,v',hc',hg⟩
   obtain rfl:=hc'.empty h0
   rw[h0] at hc'
   exact⟨rfl,hc',hg.below hc.lt (fun g h=>by simp[Value.ownBlock] at h)⟩
  ·rintro e w' ⟨rfl,hb⟩
   exact⟨none,0,rfl,⟨rfl,Nat.le_refl _,Nat.zero_le _,.inl ⟨rfl,rfl,rfl⟩⟩,hb⟩
 ·rw[<-hsame]
  refine zfb hK fun z hz hc=>(hw z hz hc).mono ?_
  rintro e w' ⟨rfl,v',hc',hg⟩
  obtain⟨g,cap,rfl,_,_,hks⟩:=KsOk.of_row hc'.row (List.length_pos_iff.2 h0)
  exact⟨rfl,g,cap,hc',hks.2.1,hks.2.2.1,hg.below hc.lt (fun g h=>by simp[Value.ownBlock] at h)⟩
end Go.Proofs.YtfhjhnofkaiceaaGreatDoor
namespace Go.Proofs.YtfhjhnofkaiceaaGreatDoor
open Go Go.RowKit
end Go.Proofs.YtfhjhnofkaiceaaGreatDoor
namespace Go.Proofs.YtfhjhnofkaiceaaGreatDoor
open Go Go.RowKit
structure Bs {H:Type} (B:DataW H->Nat):Prop where
 ag:∀ps p,p∈ps->B p+1<=B (.agg ps)
 sl:∀es rest,(es.map B).sum<=B (.slice es rest)
theorem sum_le:∀(n:Nat) (f:Nat->Nat) (l:List Nat),l.length=n->(∀i v,l[i]?=some v->f i<=v)->((List.range n).map f).sum<=l.sum
 | 0,f,l,_,_=>by simp
 | n+1,f,l,hl,h=>by
  obtain⟨a,l',rfl,hl'⟩:=list_cons (n:=n) hl
  rw[List.range_succ_eq_map,List.map_cons,List.sum_cons,List.sum_cons,List.map_map]
  have h1:=h 0 a rfl
  have h2:=sum_le n (f ∘ Nat.succ) l' hl' (fun i v hv=>h (i+1) v hv)
  omega
theorem keys_le {H:Type} {enc:TypeId × Value->H} {w:World} {spare:Nat->Bool} {held:Bool} {B:DataW H->Nat} (hB:Bs B):∀(X:St) (d:Sd) (fuel:Nat) (x:DataW H × List MemPlace),StOk w X d->DataW.trod enc Tryz.prog w 0 spare held fuel 53 d.cells=some x->X.keys.length<=B x.1:=by
 intro X
 induction X with
 | non=>exact fun d fuel x h=>h.elim
 | mk s nu de ex pn ps bn bs n ki ih=>
  intro d fuel x hX h
  unfold StOk at hX
  obtain⟨⟨rfl,rfl,rfl,rfl⟩,_,_,_,_,_,_,_,_,h10⟩:=hX
  unfold Sd.cells at h
  obtain⟨xs,n,hn,rfl,hl,hxl0,hf⟩:=DataW.trod_struct Tryz.underlying53 h
  have hxl:xs.length=13:=hxl0
  clear hxl0
  obtain⟨y0,xs0r,rfl,hx0⟩:=list_cons (n:=12) hxl
  obtain⟨y1,xs1r,rfl,hx1⟩:=list_cons (n:=11) hx0
  obtain⟨y2,xs2r,rfl,hx2⟩:=list_cons (n:=10) hx1
  obtain⟨y3,xs3r,rfl,hx3⟩:=list_cons (n:=9) hx2
  obtain⟨y4,xs4r,rfl,hx4⟩:=list_cons (n:=8) hx3
  obtain⟨y5,xs5r,rfl,hx5⟩:=list_cons (n:=7) hx4
  obtain⟨y6,xs6r,rfl,hx6⟩:=list_cons (n:=6) hx5
  obtain⟨y7,xs7r,rfl,hx7⟩:=list_cons (n:=5) hx6
  obtain⟨y8,xs8r,rfl,hx8⟩:=list_cons (n:=4) hx7
  obtain⟨y9,xs9r,rfl,hx9⟩:=list_cons (n:=3) hx8
  obtain⟨y10,xs10r,rfl,hx10⟩:=list_cons (n:=2) hx9
  obtain⟨y11,xs11r,rfl,hx11⟩:=list_cons (n:=1) hx10
  obtain⟨y12,xs12r,rfl,hx12⟩:=list_cons (n:=0) hx11
  obtain rfl:=List.length_eq_zero_iff.1 hx12
  have h12:DataW.trod enc Tryz.prog w 0 spare held n 51 [.slice d.kiq d.kin d.kic]=some y12:=by have:=hf 12 _ rfl;simpa [c30] using this
  have hag:=hB.ag (List.map (·.1) [y0,y1,y2,y3,y4,y5,y6,y7,y8,y9,y10,y11,y12]) y12.1 (by simp)
  have hown:∀c:Bool,(if d.s.ru=20 then [((d.s.en,d.s.ve):Ky)] else []).length<=1:=fun _=>by split<;>simp
  have hkids:((List.range d.kin).flatMap fun i=>(ki i).keys).length<=B y12.1:=by
   rw[List.length_flatMap]
   rcases DataW.trod_slice Tryz.underlying51 h12 with⟨e,_⟩ | ⟨a,len,cap,elems,rest,m,rfl,e,rfl,_,_,_,hel,hget,_⟩
   ·simp only[List.cons.injEq,Value.slice.injEq,and_true] at e
    rw[e.2.1]
    simp
   ·simp only[List.cons.injEq,Value.slice.injEq,and_true] at e
    obtain⟨e1,e2,_⟩:=e
    refine Nat.le_trans (sum_le d.kin (fun i=>(ki i).keys.length) ((elems.map (·.1)).map B) (by simp[hel,e2]) (fun i v hv=>?_)) (hB.sl _ _)
    rw[List.map_map,List.getElem?_map,Option.map_eq_some_iff] at hv
    obtain⟨el,hel',rfl⟩:=hv
    have hi:i<len:=by rw[<-hel];exact(List.getElem?_eq_some_iff.1 hel').1
    have hg:=hget i hi
    rw[c32,hel',Option.bind_eq_some_iff] at hg
    obtain⟨ces,g1,g2⟩:=hg
    rcases h10 with h0 | ⟨b,o,e3,_,ds,hds⟩
    ·omega
    rw[e1] at e3
    cases e3
    obtain⟨_,_,gl,gr⟩:=range_of_cells g1 (by decide)
    rw[show (⟨b,o,none⟩:Addr).add (i*21)=⟨b,o+i*21,none⟩ from Addr.add_mid _ _ _] at gr
    obtain⟨k1,k2⟩:=hds i (by omega)
    have hc:ces=(ds i).cells:=by
     apply List.ext_getElem?
     intro j
     by_cases hj:j<21
     ·have a1:=gr j _ (List.getElem?_eq_getElem (by omega))
      have a2:=k1 j _ (List.getElem?_eq_getElem (by rw[Sd.len];exact hj))
      rw[a1] at a2
      rw[List.getElem?_eq_getElem (by omega),List.getElem?_eq_getElem (by rw[Sd.len];exact hj)]
      exact a2
     ·rw[List.getElem?_eq_none (by omega),List.getElem?_eq_none (by rw[Sd.len];omega)]
    rw[hc] at g2
    exact ih i (ds i) m el k2 g2
  unfold St.keys
  rw[List.length_append]
  have:=hown true
  refine Nat.le_trans ?_ hag
  omega
end Go.Proofs.YtfhjhnofkaiceaaGreatDoor
