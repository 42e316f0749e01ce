import Derived.Test.YtaonejnicgbifaaGreatDoorQk35
namespace Go.Proofs.YtaonejnicgbifaaGreatDoor
open Go Go.RowKit
theorem SiOk.nn {w:World} {s:Si} {d:Sv} (h:SiOk w s d):s.c.Nn:=⟨zaf h.1.1,zaf h.2.1.1,zaf h.2.2.1.1,zaf h.2.2.2.1.1⟩
theorem SiOk.iof {w:World} {s:Si} {d:Sv} (h:SiOk w s d):Calls Tryz.prog 17 #[.agg (sA s d)] w fun e w'=>∃v,e=.returned v/\IAt w' v s.c.v/\Below w.heap.size w w':=by
 obtain⟨h1,h2,h3,h4,b1,b2,b3,b4⟩:=h
 exact iof_ok h1 h2 h3 h4 (by omega) (by omega) (by omega) (by omega) s.li s.hh
theorem ends_v:∃L:Nat,L<=68719476000/\∀(w:World) (s:Si) (d:Sv),SiOk w s d->QLt L s.c.v.n1 s.c.v.d1/\QLt L s.c.v.n2 s.c.v.d2:=by
 obtain⟨L,h1,h2,h3⟩:=zb8
 refine⟨L,h1,fun w s d h=>?_⟩
 obtain⟨s1,s2,s3,s4,b1,b2,b3,b4⟩:=h
 have z:QLt L 0 0:=by
  have:=zcv h2
  exact⟨by omega,by omega⟩
 have q1:=zbz h2 h3 s1.1 s2.1 (by omega) (by omega)
 have q2:=zbz h2 h3 s3.1 s4.1 (by omega) (by omega)
 unfold IvC.v
 split
 ·exact⟨z,z⟩
 ·constructor
  ·show QLt L s.c.lo.2.1 s.c.lo.2.2
   unfold IvC.lo
   split
   ·exact z
   ·exact q1
  ·show QLt L s.c.hi.2.1 s.c.hi.2.2
   unfold IvC.hi
   split
   ·exact z
   ·exact q2
theorem zjt {w:World} {q:Option Addr} {n:Nat} (c:Nat) {L:List En} {Cs:Nat->Cl} (hL:LibOk w q n L) (hCl:LibCl w L Cs) (k:Ky) {C:Cl} {DC:Cd} (hC:ClOk w C DC):
  Calls Tryz.prog 6 #[.slice q n c,.agg #[.string k.1,.int .i64 k.2],.agg (C.cells DC).toArray] w fun e w'=>e=.returned (cvV (L.map (·.k)) Cs k C)/\Below w.heap.size w w':=by
 have hF:=fun z (hz:Below w.heap.size w z)=>rfind_ok c (hL.below hz) k
 unfold fndV at hF
 unfold cvV
 cases hi:ixK (L.map (·.k)) k with
 | none=>
  rw[hi] at hF
  exact zlp k hF
 | some i=>
  rw[hi] at hF
  have aS:=zk2 hi
  obtain⟨e,he,hek⟩:∃e,L[i]?=some e/\e.k=k:=by
   rw[List.getElem?_map,Option.map_eq_some_iff] at aS
   exact aS
  obtain⟨g1,g2,g3,g4⟩:=hL
  have hin:i<n:=by rw[<-g1];exact(List.getElem?_eq_some_iff.1 he).1
  obtain⟨b,o,rfl,hbl,cS⟩:=g4.resolve_left (by omega)
  have cS:=cS i e he
  obtain⟨Ds,hDs⟩:=hCl
  have hEn:=hDs i e he
  have hcl:(∀z,Below w.heap.size w z->∀j v,((Cs i).cells (Ds i))[j]?=some v->z.cell? ⟨b,o+i*33+2+j,none⟩=some v):=fun z hz=>En.claim_cells (hEn.below hz) (zad cS hz hbl)
  have hM:ClOk w (Cs i) (Ds i):=by obtain⟨_,_,_,h⟩:=hEn;exact h
  have hv1:=fun z (hz:Below w.heap.size w z)=>zh9 (hC.below hz)
  have hv2:=fun z (hz:Below w.heap.size w z)=>zh9 (hM.below hz)
  clear hDs hEn cS
  show Calls Tryz.prog 6 _ _ fun e w'=>e=.returned (if C.vld&&(Cs i).vld then .tuple #[.bool (covS (Cs i) C),.int .i64 0] else .tuple #[.bool false,.int .i64 60])/\Below w.heap.size w w'
  generalize Cs i=M at*
  generalize Ds i=DM at*
  by_cases hv:(C.vld&&M.vld)=true
  ·simp only[if_pos hv]
   simp only[Bool.and_eq_true] at hv
   obtain⟨vC,vM⟩:=hv
   have pM:=Cl.parts vM
   have pC:=Cl.parts vC
   have hM':=hM
   have hC':=hC
   obtain⟨m1,m2,m3,m4,m5⟩:=hM
   obtain⟨c1,c2,c3,c4,c5⟩:=hC
   obtain⟨md,hmd⟩:∃md:Nat->Sv,M.nb=0\/∃b o,DM.bq=some ⟨b,o,none⟩/\b<w.heap.size/\∀i,i<M.nb->w.rangeAt b (o+i*9) ((M.bs i).cells (md i))/\SiOk w (M.bs i) (md i):=by
    rcases m4 with h | ⟨b,o,e,hb,ds,hds⟩
    ·exact⟨default,.inl h⟩
    ·exact⟨ds,.inr ⟨b,o,e,hb,hds⟩⟩
   obtain⟨cd,hcd⟩:∃cd:Nat->Sv,C.nb=0\/∃b o,DC.bq=some ⟨b,o,none⟩/\b<w.heap.size/\∀i,i<C.nb->w.rangeAt b (o+i*9) ((C.bs i).cells (cd i))/\SiOk w (C.bs i) (cd i):=by
    rcases c4 with h | ⟨b,o,e,hb,ds,hds⟩
    ·exact⟨default,.inl h⟩
    ·exact⟨ds,.inr ⟨b,o,e,hb,hds⟩⟩
   obtain⟨me,hme⟩:∃me:Nat->Nd,M.nc=0\/∃b o,DM.cq=some ⟨b,o,none⟩/\b<w.heap.size/\∀i,i<M.nc->w.rangeAt b (o+i*8) ((M.cs i).cells (me i))/\ExOk w (M.cs i).x (me i):=by
    rcases m5 with h | ⟨b,o,e,hb,ds,hds⟩
    ·exact⟨default,.inl h⟩
    ·exact⟨ds,.inr ⟨b,o,e,hb,hds⟩⟩
   have sM:∀i,i<M.nb->SiOk w (M.bs i) (md i):=fun i hi=>by
    obtain⟨_,_,_,_,h⟩:=hmd.resolve_left (by omega)
    exact(h i hi).2
   have sC:∀i,i<C.nb->SiOk w (C.bs i) (cd i):=fun i hi=>by
    obtain⟨_,_,_,_,h⟩:=hcd.resolve_left (by omega)
    exact(h i hi).2
   have eM:∀i,i<M.nc->ExOk w (M.cs i).x (me i):=fun i hi=>by
    obtain⟨_,_,_,_,h⟩:=hme.resolve_left (by omega)
    exact(h i hi).2
   obtain⟨LL,hLL,fy⟩:=ends_v
   exact zlq (md:=md) (me:=me) k hin hF hcl hv1 hv2
    (fun z hz=>ze0 (m1.below hz) (c1.below hz) pM.goal pC.goal)
    (fun i hi z hz=>zku DC.bc (c4.below hz) c2 _)
    (fun z s d h=>h.iof)
    (fun i hi z hz=>((sM i hi).below hz).iof)
    (fun i j hi hj z a b ha hb=>by
      have hjn:=(zfy hj).1
      have s1:=sC j hjn
      have s2:=sM i hi
      have h:=zkv ha hb hLL (fy w _ _ s1).1 (fy w _ _ s1).2 (fy w _ _ s2).1 (fy w _ _ s2).2
      rw[wi_ins s1.nn s2.nn] at h
      exact h)
    (fun i hi z hz=>given_ok (hC'.below hz) ((eM i hi).below hz) pC.co (pM.co i hi))
    (hmd.imp id fun⟨b,o,e,hb,h⟩=>⟨b,o,e,hb,fun i hi=>(h i hi).1⟩) (hme.imp id fun⟨b,o,e,hb,h⟩=>⟨b,o,e,hb,fun i hi=>(h i hi).1⟩) m2 m3 vC vM
  ·simp only[if_neg hv]
   exact ref6_bad k hin hF hcl hv1 hv2 (by simpa using hv)
set_option maxRecDepth 100000
set_option maxHeartbeats 16000000
theorem cvV_form (L:List Ky) (Cs:Nat->Cl) (k:Ky) (C:Cl):∃(t:Bool) (i:Int),cvV L Cs k C=.tuple #[.bool t,.int .i64 i]:=by
 unfold cvV
 cases ixK L k with
 | none=>exact⟨false,90,rfl⟩
 | some i=>
  by_cases h:(C.vld&&(Cs i).vld)=true
  ·exact⟨covS (Cs i) C,0,if_pos h⟩
  ·exact⟨false,60,if_neg h⟩
theorem zju {w:World} {q:Option Addr} {n c:Nat} {kn:ByteArray} {kv:Int} {t stc:Bool} {i:Int} {C:Cl} {DC:Cd}
  (h5:CA w 5 #[.slice q n c,.agg #[.string kn,.int .i64 kv],.agg (nC DC.d stc DC.bq C.nb DC.bc DC.cq C.nc DC.cc)] (.tuple #[.bool t,.int .i64 i]))
  (h6:CA w 6 #[.slice q n c,.agg #[.string kn,.int .i64 kv],.agg (nC DC.d stc DC.bq C.nb DC.bc DC.cq C.nc DC.cc)] (.tuple #[.bool t,.int .i64 i]))
  (hA:CA w 7 #[] (.bool true)):
  Calls Tryz.prog 3 #[.slice q n c,.agg #[.string kn,.int .i64 kv],.agg (nC DC.d stc DC.bq C.nb DC.bc DC.cq C.nc DC.cc)] w fun e w'=>e=.returned (.bool true)/\Below w.heap.size w w':=by
 have W1:Hid (Below w.heap.size w ((w.alloc (.cells #[.string kn,.int .i64 kv] 24)).alloc (.cells (nC DC.d stc DC.bq C.nb DC.bc DC.cq C.nc DC.cc) 34))):=zah w _ _
 have J0:Hid (BlkI ((w.alloc (.cells #[.string kn,.int .i64 kv] 24)).alloc (.cells (nC DC.d stc DC.bq C.nb DC.bc DC.cq C.nc DC.cc) 34)) (w.heap.size+1) 34 (nC DC.d stc DC.bq C.nb DC.bc DC.cq C.nc DC.cc)):=by
  have h:BlkI ((w.alloc (.cells #[.string kn,.int .i64 kv] 24)).alloc (.cells (nC DC.d stc DC.bq C.nb DC.bc DC.cq C.nc DC.cc) 34)) (w.alloc (.cells #[.string kn,.int .i64 kv] 24)).heap.size 34 (nC DC.d stc DC.bq C.nb DC.bc DC.cq C.nc DC.cc):=heap_alloc_new _ _
  rwa [show (w.alloc (.cells #[.string kn,.int .i64 kv] 24)).heap.size=w.heap.size+1 by simp] at h
 have K0:Hid (BlkI ((w.alloc (.cells #[.string kn,.int .i64 kv] 24)).alloc (.cells (nC DC.d stc DC.bq C.nb DC.bc DC.cq C.nc DC.cc) 34)) w.heap.size 24 #[.string kn,.int .i64 kv]):=by
  have h:BlkI (w.alloc (.cells #[.string kn,.int .i64 kv] 24)) w.heap.size 24 #[.string kn,.int .i64 kv]:=heap_alloc_new _ _
  exact h.below (zaa _ _)
 have x5:=h5 _ W1.out
 have h6:Hid (CA w 6 #[.slice q n c,.agg #[.string kn,.int .i64 kv],.agg (nC DC.d stc DC.bq C.nb DC.bc DC.cq C.nc DC.cc)] (.tuple #[.bool t,.int .i64 i])):=h6
 have hA:=zac hA
 clear h5
 go_enter Tryz.func3,Tryz.ntmps3
 go_wp2_with (first
  | (go_at_call 5;with_reducible refine x5.mono ?_;rintro x w2 ⟨rfl,hb2⟩
     have W2:Hid (Below w.heap.size w w2):=W1.out.trans (hb2.mono W1.out.size)
     have J:=zac (J0.out.below hb2)
     have K:=zac (K0.out.below hb2)
     have k0:w2.cell? ⟨w.heap.size,0,none⟩=some (.string kn):=K.out.cell 0
     have k1:w2.cell? ⟨w.heap.size,1,none⟩=some (.int .i64 kv):=K.out.cell 1
     obtain⟨y0,y1,y2,y3,y4,y5,y6,y7,y8,y9⟩:=J.out.c10
     have x6:=h6.out _ W2.out
     clear hb2)
  | (go_at_call 6;with_reducible refine x6.mono ?_;rintro x w3 ⟨rfl,hb3⟩
     have W3:Hid (Below w.heap.size w w3):=W2.out.trans (hb3.mono W2.out.size)
     have x7:=hA.out _ W3.out
     clear hb3)
  | (go_at_call 7;with_reducible refine x7.mono ?_;rintro x w4 ⟨rfl,hb4⟩))
 go_ret
 exact⟨rfl,W3.out.trans (hb4.mono W3.out.size)⟩
theorem zfr {w:World} {q:Option Addr} {n:Nat} (c:Nat) {L:List En} {Cs:Nat->Cl} (hL:LibOk w q n L) (hCl:LibCl w L Cs) (k:Ky) {C:Cl} {DC:Cd} (hC:ClOk w C DC) (hT:Tb w)
  (hA:CA w 7 #[] (.bool true)):
  Calls Tryz.prog 3 #[.slice q n c,.agg #[.string k.1,.int .i64 k.2],.agg (C.cells DC).toArray] w fun e w'=>e=.returned (.bool true)/\Below w.heap.size w w':=by
 obtain⟨t,i,hf⟩:=cvV_form (L.map (·.k)) Cs k C
 have h5:=fun z (hz:Below w.heap.size w z)=>zi5 c (hL.below hz) (hCl.below hz) k (hC.below hz) (hT.below hz)
 have h6:=fun z (hz:Below w.heap.size w z)=>zjt c (hL.below hz) (hCl.below hz) k (hC.below hz)
 rw[hf] at h5 h6
 exact zju h5 h6 hA
section
variable {H:Type} {enc:TypeId × Value->H} {w:World} {spare:Nat->Bool} {held:Bool} {B:DataW H->Nat}
theorem open_key {fuel:Nat} {cs:List Value} {x:DataW H × List MemPlace} (h:DataW.trod enc Tryz.prog w 0 spare held fuel 24 cs=some x):∃k:ByteArray × Int,cs=kcells k/\KyOk k:=by
 obtain⟨xs,n,hn,rfl,hl,iH,hf⟩:=DataW.trod_struct Tryz.underlying24 h
 have hxl:xs.length=2:=iH
 clear iH
 have hl:cs.length=2:=by rw[hl];kernel_rfl
 obtain⟨a0,cs0r,rfl,hl0⟩:=zab (n:=1) hl
 obtain⟨a1,cs1r,rfl,hl1⟩:=zab (n:=0) hl0
 obtain rfl:=List.length_eq_zero_iff.1 hl1
 obtain⟨y0,xs0r,rfl,aX⟩:=zab (n:=1) hxl
 obtain⟨y1,xs1r,rfl,aY⟩:=zab (n:=0) aX
 obtain rfl:=List.length_eq_zero_iff.1 aY
 have h0:DataW.trod enc Tryz.prog w 0 spare held n 9 [a0]=some y0:=by have:=hf 0 _ rfl;simpa [c9] using this
 have h1:DataW.trod enc Tryz.prog w 0 spare held n 3 [a1]=some y1:=by have:=hf 1 _ rfl;simpa [c3] using this
 obtain⟨s,e0,_,w0⟩:=DataW.trod_string Tryz.underlying9 h0
 obtain⟨v,e1,_,w1⟩:=DataW.trod_int Tryz.underlying3 h1
 simp only[List.cons.injEq,and_true] at e0 e1
 subst e0 e1
 exact⟨(s,v),rfl,w0,w1⟩
theorem agg22 {W:World} {base:Nat} {cs:Array Value} (hv:Value.okWide Tryz.prog W .any base 22 (.agg cs)):False:=by
 simp[Value.okWide,Cell.okWide,Cell.ok] at hv
theorem zhv {base:Nat} {v:Value} {q:Option Addr} {n c:Nat} (hv:Value.okWide Tryz.prog w .any base 22 v) (h:v.cells.toList=[.slice q n c]):v=.slice q n c:=by
 cases v with
 | agg cs=>exact(agg22 hv).elim
 | _=>clear hv;simp_all [Value.cells]
theorem zlu {v:Value} {k:ByteArray × Int} (h:v.cells.toList=kcells k):v=.agg #[.string k.1,.int .i64 k.2]:=by
 cases v with
 | agg cs=>
  simp only[Value.cells] at h
  rw[show cs=#[.string k.1,.int .i64 k.2] from Array.toList_inj.1 h]
 | _=>simp[Value.cells,kcells] at h
theorem zhw {v:Value} {C:Cl} {D:Cd} (h:v.cells.toList=C.cells D):v=.agg (C.cells D).toArray:=by
 cases v with
 | agg cs=>
  simp only[Value.cells] at h
  rw[<-h]
 | _=>simp[Value.cells,Cl.cells,Nd.cells] at h
theorem args_of (hB:Bk B) {base:Nat} {v0 v1 v2:Value} {x0 x1 x2:DataW H × List MemPlace} (hv:Value.okWide Tryz.prog w .any base 22 v0) (b0:B x0.1<=1048576) (b2:B x2.1<=1048576)
  (h0:DataW.Trod enc Tryz.prog w 0 spare held 22 v0 x0.1 x0.2) (h1:DataW.Trod enc Tryz.prog w 0 spare held 24 v1 x1.1 x1.2) (h2:DataW.Trod enc Tryz.prog w 0 spare held 34 v2 x2.1 x2.2):
  ∃q n c L Cs,∃k:Ky,∃C D,#[v0,v1,v2]=#[.slice q n c,.agg #[.string k.1,.int .i64 k.2],.agg (Cl.cells C D).toArray]/\LibOk w q n L/\LibCl w L Cs/\ClOk w C D:=by
 obtain⟨f0,hf0⟩:=h0
 obtain⟨f1,hf1⟩:=h1
 obtain⟨f2,hf2⟩:=h2
 obtain⟨q,n,c,L,Cs,e0,hL,hC⟩:=open_lib hB b0 hf0
 obtain⟨k,e1,_⟩:=open_key hf1
 obtain⟨C,D,e2,hD⟩:=zeh hB b2 hf2
 obtain rfl:=zhv hv e0
 clear hv
 obtain rfl:=zlu e1
 obtain rfl:=zhw e2
 exact⟨q,n,c,L,Cs,k,C,D,rfl,hL,hC,hD⟩
end
end Go.Proofs.YtaonejnicgbifaaGreatDoor
