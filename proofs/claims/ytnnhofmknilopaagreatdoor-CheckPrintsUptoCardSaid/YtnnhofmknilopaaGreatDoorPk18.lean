import Derived.Test.YtnnhofmknilopaaGreatDoorPk17
namespace Go.Proofs.YtnnhofmknilopaaGreatDoor
open Go Go.Proofs.YtnnhofmknilopaaGreatDoor.Gx Go.RowKit
set_option maxRecDepth 100000
set_option maxHeartbeats 16000000
theorem zkk {w:World} {g:Bool} {q1 p1:Option Addr} {n1 m1 c1 e1:Nat} {nu de:List Int} (h1:Sl w (.slice q1 n1 c1) nu) (h2:Sl w (.slice p1 m1 e1) de) (ln:nu.length<=1048576) (ld:de.length<=1048576) (hT:Tb w):
  Calls Tryz.prog 40 #[.agg #[.bool g,.slice q1 n1 c1,.slice p1 m1 e1]] w (Rt w (.bool (!large (val nu) (val de)&&decide (val nu=0)))):=by
 obtain⟨_,_,e1⟩:=h1.form
 obtain⟨_,_,e2⟩:=h2.form
 simp only[Value.slice.injEq] at e1 e2
 obtain⟨rfl,rfl,rfl⟩:=e1
 obtain⟨rfl,rfl,rfl⟩:=e2
 exact zmn h1 h2 (by omega) (by omega) hT
theorem zej {w:World} {g:Bool} {q1 p1:Option Addr} {n1 m1 c1 e1:Nat} {nu de:List Int} (h1:Sl w (.slice q1 n1 c1) nu) (h2:Sl w (.slice p1 m1 e1) de) (ln:nu.length<=1048576) (ld:de.length<=1048576) (hT:Tb w):
  Calls Tryz.prog 67 #[.agg #[.bool g,.slice q1 n1 c1,.slice p1 m1 e1]] w (Rt w (.bool (!large (val nu) (val de)))):=by
 obtain⟨_,_,e1⟩:=h1.form
 obtain⟨_,_,e2⟩:=h2.form
 simp only[Value.slice.injEq] at e1 e2
 obtain⟨rfl,rfl,rfl⟩:=e1
 obtain⟨rfl,rfl,rfl⟩:=e2
 exact zim h1 h2 (by omega) (by omega) hT
def ptB (p:Pt):Bool:=!large (val p.nu) (val p.de)
def bdB (p:Bd):Bool:=(p.x.cnt 1 0).isSome
def contB (ue:Bool) (X Y:Int) (x:Ex) (pn:Nat) (ps:Nat->Pt) (bn:Nat) (bs:Nat->Bd):Bool:=
 (decide (pn<=6)&&(decide (bn<=6)&&(!large X Y&&(!ue||(x.cnt 1 0).isSome))))&&((List.range pn).all (fun i=>ptB (ps i))&&(List.range bn).all (fun i=>bdB (bs i)))
theorem zb3 {n:Nat} {f:Nat->Bool} {i:Nat} (hi:i<n) (h:f i=false):(List.range n).all f=false:=by
 rw[List.all_eq_false]
 exact⟨i,List.mem_range.2 hi,by rw[h];simp⟩
theorem za9 {n:Nat} {f:Nat->Bool} (h:∀j,j<n->f j=true):(List.range n).all f=true:=by
 rw[List.all_eq_true]
 intro i hi
 exact h i (List.mem_range.1 hi)
theorem zgp {r:KR} (hr:r∈kR) {w:World} {d:Sd} {pq rq:Option Addr} {nu de:List Int} {x:Ex} {ps:Nat->Pt} {bs:Nat->Bd} (h1:Sl w (.slice d.aq d.an d.ac) nu) (h2:Sl w (.slice d.cq d.cn d.cc) de) (ln:nu.length<=1048576) (ld:de.length<=1048576) (hX:ExOk w x d.e) (hP:PtsOk w pq d.pon ps) (hB:BdsOk w rq d.arn bs) (hT:Tb w):
  Calls Tryz.prog 42 #[r.val,.agg (sW d pq rq)] w (Rt w (.bool (contB (decide ((101:UInt8)∈r.fl)) (val nu) (val de) x d.pon ps d.arn bs))):=by
 have hb0:Hid (Below w.heap.size w ((w.alloc (.cells #[.string ⟨r.nm.toArray⟩,.string ⟨r.fl.toArray⟩,.int .i64 r.k,.func (.func r.f) #[] #[]] 60)).alloc (.cells (sW d pq rq) 32))):=zdg w _ _
 have hls:=zej (g:=d.s.g) (h1.below hb0.out) (h2.below hb0.out) ln ld (hT.below hb0.out)
 have hT':Hid (Tb w):=hT
 have hX':Hid (ExOk w x d.e):=hX
 have hP':Hid (PtsOk w pq d.pon ps):=hP
 have hB':Hid (BdsOk w rq d.arn bs):=hB
 have hus:Hid (∀z,Calls Tryz.prog 21 #[r.val,.int .u8 101] z (Rt z (.bool (decide ((101:UInt8)∈r.fl))))):=fun z=>zgt hr (c:=101) (by decide) z
 obtain⟨UE,hUE⟩:∃U,Hid (decide ((101:UInt8)∈r.fl)=U):=⟨_,rfl⟩
 rw[hUE.out] at hus ⊢
 clear hr hUE
 unfold KR.val tx at hus ⊢
 obtain⟨L,hL⟩:∃U,Hid (large (val nu) (val de)=U):=⟨_,rfl⟩
 rw[hL.out] at hls
 obtain⟨V,hV⟩:∃U,Hid ((x.cnt 1 0).isSome=U):=⟨_,rfl⟩
 obtain⟨R,hR⟩:∃R,Hid (contB UE (val nu) (val de) x d.pon ps d.arn bs=R):=⟨_,rfl⟩
 rw[hR.out]
 have hR1:Hid (∀i,i<d.pon->ptB (ps i)=false->R=false):=fun i hi h=>by rw[<-hR.out];unfold contB;rw[zb3 hi h];simp
 have hR2:Hid (∀i,i<d.arn->bdB (bs i)=false->R=false):=fun i hi h=>by rw[<-hR.out];unfold contB;rw[zb3 (f:=fun i=>bdB (bs i)) hi h];simp
 obtain⟨G,hG⟩:∃G,Hid ((!(decide (d.pon<=6)&&(decide (d.arn<=6)&&(!L&&(!UE||V)))))=G):=⟨_,rfl⟩
 have hR0:Hid (G=true->R=false):=fun h=>by
  have hg:=hG.out
  rw[h,Bool.not_eq_true'] at hg
  rw[<-hR.out];unfold contB;rw[hL.out,hV.out,hg];rfl
 have dE:Hid (G=false->(∀j,j<d.pon->ptB (ps j)=true)->(∀j,j<d.arn->bdB (bs j)=true)->R=true):=fun h hp hq=>by
  have hg:=hG.out
  rw[h,Bool.not_eq_false'] at hg
  rw[<-hR.out];unfold contB;rw[hL.out,hV.out,hg,za9 hp,za9 hq];rfl
 clear h1 h2 hT hX hP hB
 go_enter Tryz.func42,Tryz.ntmps42
 go_upto_region 1 with fail
 go_cut [34] from 9 to 34 (fun v wx=>v=.bool G/\Hid (Below ((w.alloc (.cells #[.string ⟨r.nm.toArray⟩,.string ⟨r.fl.toArray⟩,.int .i64 r.k,.func (.func r.f) #[] #[]] 60)).alloc (.cells (sW d pq rq) 32)).heap.size ((w.alloc (.cells #[.string ⟨r.nm.toArray⟩,.string ⟨r.fl.toArray⟩,.int .i64 r.k,.func (.func r.f) #[] #[]] 60)).alloc (.cells (sW d pq rq) 32)) wx))
 case first=>
  by_cases p6:d.pon<=6
  ·have p6':¬(d.pon:Int) > 6:=by omega
   by_cases a6:d.arn<=6
   ·have a6':¬(d.arn:Int) > 6:=by omega
    cases L with
    | true=>
     have hGf:Hid (G=true):=by
      show G=true
      rw[<-hG.out];simp
     go_wp2_with (go_at_call 67;with_reducible refine hls.mono ?_;rintro e w3 ⟨rfl,hb3⟩)
     go_meet
     case rel=>exact⟨by rw[hGf.out],hb3⟩
    | false=>
     cases UE with
     | false=>
      have hGf:Hid (G=false):=by
       show G=false
       rw[<-hG.out,decide_eq_true p6,decide_eq_true a6];rfl
      go_wp2_with (first
       | (go_at_call 67;with_reducible refine hls.mono ?_;rintro e w3 ⟨rfl,hb3⟩
          have v0:w3.cell? ⟨w.heap.size,0,none⟩=some (.string ⟨r.nm.toArray⟩):=(hb3.cell (by show w.heap.size<_;simp;omega)).trans (by simp)
          have v1:w3.cell? ⟨w.heap.size,1,none⟩=some (.string ⟨r.fl.toArray⟩):=(hb3.cell (by show w.heap.size<_;simp;omega)).trans (by simp)
          have v2:w3.cell? ⟨w.heap.size,2,none⟩=some (.int .i64 r.k):=(hb3.cell (by show w.heap.size<_;simp;omega)).trans (by simp)
          have v3:w3.cell? ⟨w.heap.size,3,none⟩=some (.func (.func r.f) #[] #[]):=(hb3.cell (by show w.heap.size<_;simp;omega)).trans (by simp)
          have eF:=zab hb3
          clear hb3)
       | (go_at_call 21;with_reducible refine(hus.out _).mono ?_;rintro e w4 ⟨rfl,hb4⟩))
      go_meet
      case rel=>exact⟨by rw[hGf.out],eF.out.trans (hb4.mono eF.out.size)⟩
     | true=>
      have hvl:Hid (∀z,Below w.heap.size w z->Calls Tryz.prog 68 #[.agg #[.int .i64 d.e.k,.int .i64 d.e.f,.bool d.e.neg,.slice d.e.aq d.e.an d.e.ac,.slice d.e.cq d.e.cn d.e.cc,.string d.e.m,.slice d.e.sq d.e.sn d.e.sc]] z (Rt z (.bool V))):=fun z hz=>by
       have:=zfj (hX'.out.below hz) (hT'.out.below hz)
       rw[hV.out] at this
       exact this
      have hGf:Hid (G=!V):=by
       show G=!V
       rw[<-hG.out,decide_eq_true p6,decide_eq_true a6];simp
      go_wp2_with (first
       | (go_at_call 67;with_reducible refine hls.mono ?_;rintro e w3 ⟨rfl,hb3⟩
          have v0:w3.cell? ⟨w.heap.size,0,none⟩=some (.string ⟨r.nm.toArray⟩):=(hb3.cell (by show w.heap.size<_;simp;omega)).trans (by simp)
          have v1:w3.cell? ⟨w.heap.size,1,none⟩=some (.string ⟨r.fl.toArray⟩):=(hb3.cell (by show w.heap.size<_;simp;omega)).trans (by simp)
          have v2:w3.cell? ⟨w.heap.size,2,none⟩=some (.int .i64 r.k):=(hb3.cell (by show w.heap.size<_;simp;omega)).trans (by simp)
          have v3:w3.cell? ⟨w.heap.size,3,none⟩=some (.func (.func r.f) #[] #[]):=(hb3.cell (by show w.heap.size<_;simp;omega)).trans (by simp)
          have x9:w3.cell? ⟨w.heap.size+1,9,none⟩=some (.int .i64 d.e.k):=(hb3.cell (by show w.heap.size+1<_;simp)).trans (by simp)
          have x10:w3.cell? ⟨w.heap.size+1,10,none⟩=some (.int .i64 d.e.f):=(hb3.cell (by show w.heap.size+1<_;simp)).trans (by simp)
          have x11:w3.cell? ⟨w.heap.size+1,11,none⟩=some (.bool d.e.neg):=(hb3.cell (by show w.heap.size+1<_;simp)).trans (by simp)
          have x12:w3.cell? ⟨w.heap.size+1,12,none⟩=some (.slice d.e.aq d.e.an d.e.ac):=(hb3.cell (by show w.heap.size+1<_;simp)).trans (by simp)
          have x13:w3.cell? ⟨w.heap.size+1,13,none⟩=some (.slice d.e.cq d.e.cn d.e.cc):=(hb3.cell (by show w.heap.size+1<_;simp)).trans (by simp)
          have x14:w3.cell? ⟨w.heap.size+1,14,none⟩=some (.string d.e.m):=(hb3.cell (by show w.heap.size+1<_;simp)).trans (by simp)
          have x15:w3.cell? ⟨w.heap.size+1,15,none⟩=some (.slice d.e.sq d.e.sn d.e.sc):=(hb3.cell (by show w.heap.size+1<_;simp)).trans (by simp)
          have eF:=zab hb3
          have hs3:w.heap.size+1<w3.heap.size:=by have:=hb3.size;simp at this;omega
          clear hb3)
       | (go_at_call 21;with_reducible refine(hus.out _).mono ?_;rintro e w4 ⟨rfl,hb4⟩
          have y9:=(hb4.cell (p:=⟨w.heap.size+1,9,none⟩) (by exact hs3)).trans x9
          have y10:=(hb4.cell (p:=⟨w.heap.size+1,10,none⟩) (by exact hs3)).trans x10
          have y11:=(hb4.cell (p:=⟨w.heap.size+1,11,none⟩) (by exact hs3)).trans x11
          have y12:=(hb4.cell (p:=⟨w.heap.size+1,12,none⟩) (by exact hs3)).trans x12
          have y13:=(hb4.cell (p:=⟨w.heap.size+1,13,none⟩) (by exact hs3)).trans x13
          have y14:=(hb4.cell (p:=⟨w.heap.size+1,14,none⟩) (by exact hs3)).trans x14
          have y15:=(hb4.cell (p:=⟨w.heap.size+1,15,none⟩) (by exact hs3)).trans x15
          have fY:=zab (eF.out.trans (hb4.mono eF.out.size))
          clear hb4 x9 x10 x11 x12 x13 x14 x15 v0 v1 v2 v3)
       | (go_at_call 68;with_reducible refine(hvl.out _ (hb0.out.trans (fY.out.mono hb0.out.size))).mono ?_;rintro e w5 ⟨rfl,hb5⟩))
      go_meet
      case rel=>exact⟨by rw[hGf.out],fY.out.trans (hb5.mono fY.out.size)⟩
   ·have a6':(d.arn:Int) > 6:=by omega
    have hGf:Hid (G=true):=by
     show G=true
     rw[<-hG.out,decide_eq_false a6];simp
    go_wp2_with fail
    go_meet
    case rel=>exact⟨by rw[hGf.out],Below.refl _ _⟩
  ·have p6':(d.pon:Int) > 6:=by omega
   have hGf:Hid (G=true):=by
    show G=true
    rw[<-hG.out,decide_eq_false p6];rfl
   go_wp2_with fail
   go_meet
   case rel=>exact⟨by rw[hGf.out],Below.refl _ _⟩
 case rest=>
  obtain⟨rfl,hbc⟩:=hcut
  have hbw:Hid (Below w.heap.size w wc):=hb0.out.trans (hbc.out.mono hb0.out.size)
  cases G with
  | true=>
   have hRf:=hR0.out rfl
   subst hRf
   go_wp2_with fail
   go_ret
   exact⟨rfl,hbw.out⟩
  | false=>
   have hR3:Hid ((∀j,j<d.pon->ptB (ps j)=true)->(∀j,j<d.arn->bdB (bs j)=true)->R=true):=dE.out rfl
   clear dE
   have x16:wc.cell? ⟨w.heap.size+1,16,none⟩=some (.slice pq d.pon d.poc):=(hbc.out.cell (by show w.heap.size+1<_;simp)).trans (by simp)
   have x19:wc.cell? ⟨w.heap.size+1,19,none⟩=some (.slice rq d.arn d.arc):=(hbc.out.cell (by show w.heap.size+1<_;simp)).trans (by simp)
   have hsW:w.heap.size+1<wc.heap.size:=by have:=hbc.out.size;simp at this;omega
   obtain⟨W,rfl⟩:∃z,z=wc:=⟨_,rfl⟩
   clear hls hus
   go_wp2_with fail
   go_loopw [38] (fun v wr=>∃i:Nat,i<=d.pon/\v=.int .i64 i/\Hid (∀j,j<i->ptB (ps j)=true)/\Below W.heap.size W wr) (fun v _=>d.pon - (intOf v).toNat)
   case atStart=>exact⟨0,Nat.zero_le _,rfl,fun j hj=>by omega,Below.refl _ _⟩
   case round=>
    obtain⟨i,hi,rfl,hz,hbr⟩:=hrel
    have hW:Hid (Below w.heap.size w wr):=hbw.out.trans (hbr.mono hbw.out.size)
    by_cases hlt:i<d.pon
    ·have aF:(i:Int)<(d.pon:Int):=by omega
     have hpl:=hP'.out.1
     obtain⟨b,o,rfl,hbl,ds,hds⟩:=hP'.out.2.resolve_left (by omega)
     obtain⟨z0,z1,z2,z3⟩:=(hds i hlt).1.below hW.out hbl
     have hok:Hid (PtOk wr (ps i) (ds i)):=(hds i hlt).2.below hW.out
     have hb2:Hid (Below wr.heap.size wr (wr.alloc (.cells #[.string (ds i).m,.bool (ds i).g,.slice (ds i).aq (ds i).an (ds i).ac,.slice (ds i).cq (ds i).cn (ds i).cc] 68))):=zaa wr _
     have hcl:=zej (g:=(ds i).g) (hok.out.2.2.1.below hb2.out) (hok.out.2.2.2.1.below hb2.out) hok.out.2.2.2.2.1 hok.out.2.2.2.2.2 ((hT'.out.below hW.out).below hb2.out)
     rw[show (!large (val (ps i).nu) (val (ps i).de))=ptB (ps i) from rfl] at hcl
     have aJ:Hid (Below W.heap.size W wr):=hbr
     clear hbr hds x16 x19
     obtain⟨B,hB9⟩:∃B,Hid (ptB (ps i)=B):=⟨_,rfl⟩
     rw[hB9.out] at hcl
     cases B with
     | false=>
      have hRf:=hR1.out i hlt hB9.out
      subst hRf
      go_wp2_with (go_at_call 67;with_reducible refine hcl.mono ?_;rintro e w3 ⟨rfl,hb3⟩)
      go_ret
      exact⟨rfl,hW.out.trans ((hb2.out.trans (hb3.mono hb2.out.size)).mono hW.out.size)⟩
     | true=>
      have hz':Hid (∀j,j<i+1->ptB (ps j)=true):=fun j hj=>by
       rcases Nat.lt_or_ge j i with h | h
       ·exact hz.out j h
       ·have:j=i:=by omega
        subst this;exact hB9.out
      go_wp2_with (go_at_call 67;with_reducible refine hcl.mono ?_;rintro e w3 ⟨rfl,hb3⟩)
      go_roundw
      case rel=>exact⟨i+1,by omega,by go_num,hz',aJ.out.trans ((hb2.out.trans (hb3.mono hb2.out.size)).mono aJ.out.size)⟩
      case measure=>simp[intOf];omega
    ·obtain rfl:i=d.pon:=by omega
     have hR4:Hid ((∀j,j<d.arn->bdB (bs j)=true)->R=true):=hR3.out hz.out
     have y19:=(hbr.cell (p:=⟨w.heap.size+1,19,none⟩) (by exact hsW)).trans x19
     have aJ:Hid (Below W.heap.size W wr):=hbr
     clear x16 x19 hbr hz hR3
     obtain⟨W2,rfl⟩:∃z,z=wr:=⟨_,rfl⟩
     go_wp2_with fail
     go_loopw [50] (fun v wz=>∃i:Nat,i<=d.arn/\v=.int .i64 i/\Hid (∀j,j<i->bdB (bs j)=true)/\Below W2.heap.size W2 wz) (fun v _=>d.arn - (intOf v).toNat)
     case atStart=>exact⟨0,Nat.zero_le _,rfl,fun j hj=>by omega,Below.refl _ _⟩
     case round=>
      obtain⟨i,hi,rfl,hz,hbr⟩:=hrel
      have hW3:Hid (Below w.heap.size w wr):=hW.out.trans (hbr.mono hW.out.size)
      by_cases hlt:i<d.arn
      ·have aF:(i:Int)<(d.arn:Int):=by omega
       have hpl:=hB'.out.1
       obtain⟨b,o,rfl,hbl,ds,hds⟩:=hB'.out.2.resolve_left (by omega)
       obtain⟨z0,z1,z2,z3,z4,z5,z6,z7⟩:=(hds i hlt).1.below hW3.out hbl
       have hok:Hid (BdOk wr (bs i) (ds i)):=(hds i hlt).2.below hW3.out
       have hb2:Hid (Below wr.heap.size wr (wr.alloc (.cells #[.string (ds i).m,.int .i64 (ds i).ek,.int .i64 (ds i).ef,.bool (ds i).eg,.slice (ds i).eaq (ds i).ean (ds i).eac,.slice (ds i).ecq (ds i).ecn (ds i).ecc,.string (ds i).em,.slice (ds i).esq (ds i).esn (ds i).esc] 71))):=zaa wr _
       have hcl:=zfj (hok.out.2.below hb2.out) ((hT'.out.below hW3.out).below hb2.out)
       simp only[Bi.nd,Nd.val] at hcl
       have aJ:Hid (Below W2.heap.size W2 wr):=hbr
       clear hbr hds y19
       obtain⟨B,hB9⟩:∃B,Hid (bdB (bs i)=B):=⟨_,rfl⟩
       have hB8:((bs i).x.cnt 1 0).isSome=B:=hB9.out
       rw[hB8] at hcl
       clear hB8
       cases B with
       | false=>
        have hRf:=hR2.out i hlt hB9.out
        subst hRf
        go_wp2_with (go_at_call 68;with_reducible refine hcl.mono ?_;rintro e w3 ⟨rfl,hb3⟩)
        go_ret
        exact⟨rfl,hW3.out.trans ((hb2.out.trans (hb3.mono hb2.out.size)).mono hW3.out.size)⟩
       | true=>
        have hz':Hid (∀j,j<i+1->bdB (bs j)=true):=fun j hj=>by
         rcases Nat.lt_or_ge j i with h | h
         ·exact hz.out j h
         ·have:j=i:=by omega
          subst this;exact hB9.out
        go_wp2_with (go_at_call 68;with_reducible refine hcl.mono ?_;rintro e w3 ⟨rfl,hb3⟩)
        go_roundw
        case rel=>exact⟨i+1,by omega,by go_num,hz',aJ.out.trans ((hb2.out.trans (hb3.mono hb2.out.size)).mono aJ.out.size)⟩
        case measure=>simp[intOf];omega
      ·obtain rfl:i=d.arn:=by omega
       have hRt:=hR4.out hz.out
       subst hRt
       clear hz
       go_wp2_with fail
       go_ret
       exact⟨rfl,hW3.out⟩
def noEx (k f:Int) (X:Int) (m:ByteArray) (n:Nat):Bool:=decide (k=0)&&(decide (f=0)&&((m.toList==[])&&(decide (n=0)&&decide (X=0))))
theorem zmx {w:World} {k f:Int} {ng:Bool} {aq cq sq:Option Addr} {an ac cn cc n sc:Nat} {m:ByteArray} {nu:List Int} (h1:Sl w (.slice aq an ac) nu):
  Calls Tryz.prog 41 #[.agg #[.int .i64 k,.int .i64 f,.bool ng,.slice aq an ac,.slice cq cn cc,.string m,.slice sq n sc]] w (Rt w (.bool (noEx k f (val nu) m n))):=by
 obtain⟨u,hu,htr⟩:=zjn h1
 obtain⟨qa,ca,rfl⟩:=hu.form
 have hz:Hid _:=zg8 h1.1
 unfold noEx
 by_cases a0:k=0
 ·subst a0
  by_cases a1:f=0
  ·subst a1
   cases a2:m.toList==[] with
   | true=>
    by_cases a3:n=0
    ·subst a3
     rw[<-hz.out]
     obtain⟨Z,hZ⟩:∃Z,(trim nu).length=Z:=⟨_,rfl⟩
     rw[hZ] at htr ⊢
     clear hZ hu hz h1
     by_cases a4:Z=0
     ·subst a4
      go_enter Tryz.func41,Tryz.ntmps41
      go_wp2_with (go_at_call 66;with_reducible refine(htr _ (zaa _ _)).mono ?_;rintro e w1 ⟨rfl,hw⟩;subst w1)
      go_ret
      exact⟨rfl,zaa _ _⟩
     ·have a4':((Z:Int)==0)=false:=by simp;omega
      go_enter Tryz.func41,Tryz.ntmps41
      go_wp2_with (go_at_call 66;with_reducible refine(htr _ (zaa _ _)).mono ?_;rintro e w1 ⟨rfl,hw⟩;subst w1)
      go_ret
      exact⟨by simp[a4],zaa _ _⟩
    ·have a3':((n:Int)==0)=false:=by simp;omega
     clear h1 hu hz htr
     go_enter Tryz.func41,Tryz.ntmps41
     go_wp2_with fail
     go_ret
     exact⟨by simp[a3],zaa _ _⟩
   | false=>
    clear h1 hu hz htr
    go_enter Tryz.func41,Tryz.ntmps41
    go_wp2_with fail
    go_ret
    exact⟨rfl,zaa _ _⟩
  ·have a1':(f==0)=false:=by simp[a1]
   clear h1 hu hz htr
   go_enter Tryz.func41,Tryz.ntmps41
   go_wp2_with fail
   go_ret
   exact⟨by simp[a1],zaa _ _⟩
 ·have a0':(k==0)=false:=by simp[a0]
  clear h1 hu hz htr
  go_enter Tryz.func41,Tryz.ntmps41
  go_wp2_with fail
  go_ret
  exact⟨by simp[a0],zaa _ _⟩
end Go.Proofs.YtnnhofmknilopaaGreatDoor
