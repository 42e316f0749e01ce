import Derived.Test.YtnnhofmknilopaaGreatDoorPk18
namespace Go.Proofs.YtnnhofmknilopaaGreatDoor
open Go Go.Proofs.YtnnhofmknilopaaGreatDoor.Gx Go.RowKit
set_option maxRecDepth 100000
set_option maxHeartbeats 16000000
def Ex.no:Ex->Bool
 | .non=>false
 | .mk k f _ nu _ m n _=>noEx k f (val nu) m n
theorem noEx_ok {w:World} {x:Ex} {d:Nd} (h:ExOk w x d):Calls Tryz.prog 41 #[d.val] w (Rt w (.bool x.no)):=by
 cases x with
 | non=>exact h.elim
 | mk k f ng nu de m n ar=>
  unfold ExOk at h
  obtain⟨⟨rfl,rfl,rfl,rfl,rfl⟩,h1,h2,_⟩:=h
  exact zmx h1
def zs (d:Sd) (ZA ZE:Bool):List Bool:=[d.s.nm.toList.isEmpty,d.s.ot.toList.isEmpty,ZA,(d.s.kk==0),(d.s.nn==0),(d.s.pr==0),ZE,((d.pon:Int)==0),d.s.en.toList.isEmpty,(d.s.ve==0),((d.arn:Int)==0)]
def unB (r:KR) (z:List Bool):Bool:=(List.range 11).all fun j=>z.getD j false||decide (letP.getD j 0∈r.fl)
def Unu (w:World) (v:Value) (z:List Bool):Prop:=∃B,v=.slice (some ⟨B,0,none⟩) 11 11/\B<w.heap.size/\∀j,j<11->w.cell? ⟨B,j*2,none⟩=some (.int .u8 (letP.getD j 0).toNat)/\w.cell? ⟨B,j*2+1,none⟩=some (.bool (z.getD j false))
abbrev STf (w:World) (d:Sd) (pq:Option Addr) (rq:Option Addr):World->Prop:=fun z=>z.cell? ⟨w.heap.size,1,none⟩=some (.string d.s.nm)/\z.cell? ⟨w.heap.size,2,none⟩=some (.string d.s.ot)/\z.cell? ⟨w.heap.size,3,none⟩=some (.bool d.s.g)/\z.cell? ⟨w.heap.size,4,none⟩=some (.slice d.aq d.an d.ac)/\z.cell? ⟨w.heap.size,5,none⟩=some (.slice d.cq d.cn d.cc)/\z.cell? ⟨w.heap.size,6,none⟩=some (.int .i64 d.s.kk)/\z.cell? ⟨w.heap.size,7,none⟩=some (.int .i64 d.s.nn)/\z.cell? ⟨w.heap.size,8,none⟩=some (.int .i64 d.s.pr)/\z.cell? ⟨w.heap.size,9,none⟩=some (.int .i64 d.e.k)/\z.cell? ⟨w.heap.size,10,none⟩=some (.int .i64 d.e.f)/\z.cell? ⟨w.heap.size,11,none⟩=some (.bool d.e.neg)/\z.cell? ⟨w.heap.size,12,none⟩=some (.slice d.e.aq d.e.an d.e.ac)/\z.cell? ⟨w.heap.size,13,none⟩=some (.slice d.e.cq d.e.cn d.e.cc)/\z.cell? ⟨w.heap.size,14,none⟩=some (.string d.e.m)/\z.cell? ⟨w.heap.size,15,none⟩=some (.slice d.e.sq d.e.sn d.e.sc)/\z.cell? ⟨w.heap.size,16,none⟩=some (.slice pq d.pon d.poc)/\z.cell? ⟨w.heap.size,17,none⟩=some (.string d.s.en)/\z.cell? ⟨w.heap.size,18,none⟩=some (.int .i64 d.s.ve)/\z.cell? ⟨w.heap.size,19,none⟩=some (.slice rq d.arn d.arc)
theorem wf_walk {r:KR} (hr:r∈kR) {w:World} {d:Sd} {pq rq:Option Addr} {nu de:List Int} {x:Ex} {ps:Nat->Pt} {bs:Nat->Bd} (h1:Sl w (.slice d.aq d.an d.ac) nu) (h2:Sl w (.slice d.cq d.cn d.cc) de) (ln:nu.length<=1048576) (ld:de.length<=1048576) (hX:ExOk w x d.e) (hP:PtsOk w pq d.pon ps) (hB:BdsOk w rq d.arn bs) (hT:Tb w) (hru:d.s.ru=r.n) (hk:(d.kin:Int)=r.k):
  Calls Tryz.prog 19 #[.agg (sW d pq rq)] w (Rt w (.bool (unB r (zs d (!large (val nu) (val de)&&decide (val nu=0)) x.no)&&contB (decide ((101:UInt8)∈r.fl)) (val nu) (val de) x d.pon ps d.arn bs))):=by
 have hfi:=zgs hr (w.alloc (.cells (sW d pq rq) 32))
 unfold KR.val tx at hfi
 have hb0:Hid (Below w.heap.size w (w.alloc (.cells (sW d pq rq) 32))):=zaa w _
 obtain⟨ZA,hZA⟩:∃Z,Hid ((!large (val nu) (val de)&&decide (val nu=0))=Z):=⟨_,rfl⟩
 obtain⟨ZE,hZE⟩:∃Z,Hid (x.no=Z):=⟨_,rfl⟩
 obtain⟨R,hR⟩:∃R,Hid ((unB r (zs d ZA ZE)&&contB (decide ((101:UInt8)∈r.fl)) (val nu) (val de) x d.pon ps d.arn bs)=R):=⟨_,rfl⟩
 rw[hZA.out,hZE.out,hR.out]
 have h21:Hid (∀z,Below w.heap.size w z->Calls Tryz.prog 40 #[.agg #[.bool d.s.g,.slice d.aq d.an d.ac,.slice d.cq d.cn d.cc]] z (Rt z (.bool ZA))):=fun z hz=>by
  rw[<-hZA.out]
  exact zkk (h1.below hz) (h2.below hz) ln ld (hT.below hz)
 have h22:Hid (∀z,Below w.heap.size w z->Calls Tryz.prog 41 #[.agg #[.int .i64 d.e.k,.int .i64 d.e.f,.bool d.e.neg,.slice d.e.aq d.e.an d.e.ac,.slice d.e.cq d.e.cn d.e.cc,.string d.e.m,.slice d.e.sq d.e.sn d.e.sc]] z (Rt z (.bool ZE))):=fun z hz=>by
  rw[<-hZE.out]
  exact noEx_ok (hX.below hz)
 have h24:Hid (∀z,Below w.heap.size w z->Calls Tryz.prog 42 #[.agg #[.string ⟨r.nm.toArray⟩,.string ⟨r.fl.toArray⟩,.int .i64 r.k,.func (.func r.f) #[] #[]],.agg (sW d pq rq)] z (Rt z (.bool (contB (decide ((101:UInt8)∈r.fl)) (val nu) (val de) x d.pon ps d.arn bs)))):=fun z hz=>
  zgp hr (h1.below hz) (h2.below hz) ln ld (hX.below hz) (hP.below hz) (hB.below hz) (hT.below hz)
 obtain⟨Z,hZ⟩:∃Z,Hid (zs d ZA ZE=Z):=⟨_,rfl⟩
 obtain⟨CB,hCB⟩:∃C,Hid (contB (decide ((101:UInt8)∈r.fl)) (val nu) (val de) x d.pon ps d.arn bs=C):=⟨_,rfl⟩
 rw[hZ.out,hCB.out] at hR
 rw[hCB.out] at h24
 have hRf:Hid (∀j,j<11->(Z.getD j false||decide (letP.getD j 0∈r.fl))=false->R=false):=fun j hj h=>by
  rw[<-hR.out];unfold unB;rw[zb3 hj h];rfl
 have hRt:Hid ((∀j,j<11->(Z.getD j false||decide (letP.getD j 0∈r.fl))=true)->CB=R):=fun h=>by
  rw[<-hR.out];unfold unB;rw[za9 h];rfl
 have hus:Hid (∀c,c∈letP->∀z,Calls Tryz.prog 21 #[.agg #[.string ⟨r.nm.toArray⟩,.string ⟨r.fl.toArray⟩,.int .i64 r.k,.func (.func r.f) #[] #[]],.int .u8 c.toNat] z (Rt z (.bool (decide (c∈r.fl))))):=fun c hc z=>zgt hr hc z
 have cN:Hid (∀j,j<11->letP.getD j 0∈letP):=fun j hj=>by
  have hj2:j=0\/j=1\/j=2\/j=3\/j=4\/j=5\/j=6\/j=7\/j=8\/j=9\/j=10:=by omega
  rcases hj2 with rfl | rfl | rfl | rfl | rfl | rfl | rfl | rfl | rfl | rfl | rfl<;>decide
 rw[<-hru] at hfi
 have hkk:((d.kin:Int) != r.k)=false:=by simp[hk]
 have D0:Hid ((w.alloc (.cells (sW d pq rq) 32)).rangeAt w.heap.size 0 [.int .i64 d.s.ru,.string d.s.nm,.string d.s.ot,.bool d.s.g,.slice d.aq d.an d.ac,.slice d.cq d.cn d.cc,.int .i64 d.s.kk,.int .i64 d.s.nn,.int .i64 d.s.pr,.int .i64 d.e.k,.int .i64 d.e.f,.bool d.e.neg,.slice d.e.aq d.e.an d.e.ac,.slice d.e.cq d.e.cn d.e.cc,.string d.e.m,.slice d.e.sq d.e.sn d.e.sc,.slice pq d.pon d.poc,.string d.s.en,.int .i64 d.s.ve,.slice rq d.arn d.arc,.slice d.kiq d.kin d.kic]):=zah w [.int .i64 d.s.ru,.string d.s.nm,.string d.s.ot,.bool d.s.g,.slice d.aq d.an d.ac,.slice d.cq d.cn d.cc,.int .i64 d.s.kk,.int .i64 d.s.nn,.int .i64 d.s.pr,.int .i64 d.e.k,.int .i64 d.e.f,.bool d.e.neg,.slice d.e.aq d.e.an d.e.ac,.slice d.e.cq d.e.cn d.e.cc,.string d.e.m,.slice d.e.sq d.e.sn d.e.sc,.slice pq d.pon d.poc,.string d.s.en,.int .i64 d.s.ve,.slice rq d.arn d.arc,.slice d.kiq d.kin d.kic] 32
 obtain⟨dst,ed,cM⟩:=zay
 have cX:=zab ed
 clear hru hk h1 h2 hZA hZE hX hP hB hT ed
 go_enter Tryz.func19,Tryz.ntmps19
 go_upto_region 4 with(go_at_call 20;with_reducible refine hfi.mono ?_;rintro e w1 ⟨rfl,hb1⟩
                       have v0:w1.cell? ⟨w.heap.size,0,none⟩=some (.int .i64 d.s.ru):=(hb1.cell (by show w.heap.size<_;simp)).trans (by simp)
                       have v1:w1.cell? ⟨w.heap.size,1,none⟩=some (.string d.s.nm):=(hb1.cell (by show w.heap.size<_;simp)).trans (by simp)
                       have v2:w1.cell? ⟨w.heap.size,2,none⟩=some (.string d.s.ot):=(hb1.cell (by show w.heap.size<_;simp)).trans (by simp)
                       have v3:w1.cell? ⟨w.heap.size,3,none⟩=some (.bool d.s.g):=(hb1.cell (by show w.heap.size<_;simp)).trans (by simp)
                       have v4:w1.cell? ⟨w.heap.size,4,none⟩=some (.slice d.aq d.an d.ac):=(hb1.cell (by show w.heap.size<_;simp)).trans (by simp)
                       have v5:w1.cell? ⟨w.heap.size,5,none⟩=some (.slice d.cq d.cn d.cc):=(hb1.cell (by show w.heap.size<_;simp)).trans (by simp)
                       have v6:w1.cell? ⟨w.heap.size,6,none⟩=some (.int .i64 d.s.kk):=(hb1.cell (by show w.heap.size<_;simp)).trans (by simp)
                       have v7:w1.cell? ⟨w.heap.size,7,none⟩=some (.int .i64 d.s.nn):=(hb1.cell (by show w.heap.size<_;simp)).trans (by simp)
                       have v8:w1.cell? ⟨w.heap.size,8,none⟩=some (.int .i64 d.s.pr):=(hb1.cell (by show w.heap.size<_;simp)).trans (by simp)
                       have v9:w1.cell? ⟨w.heap.size,9,none⟩=some (.int .i64 d.e.k):=(hb1.cell (by show w.heap.size<_;simp)).trans (by simp)
                       have v10:w1.cell? ⟨w.heap.size,10,none⟩=some (.int .i64 d.e.f):=(hb1.cell (by show w.heap.size<_;simp)).trans (by simp)
                       have v11:w1.cell? ⟨w.heap.size,11,none⟩=some (.bool d.e.neg):=(hb1.cell (by show w.heap.size<_;simp)).trans (by simp)
                       have v12:w1.cell? ⟨w.heap.size,12,none⟩=some (.slice d.e.aq d.e.an d.e.ac):=(hb1.cell (by show w.heap.size<_;simp)).trans (by simp)
                       have v13:w1.cell? ⟨w.heap.size,13,none⟩=some (.slice d.e.cq d.e.cn d.e.cc):=(hb1.cell (by show w.heap.size<_;simp)).trans (by simp)
                       have v14:w1.cell? ⟨w.heap.size,14,none⟩=some (.string d.e.m):=(hb1.cell (by show w.heap.size<_;simp)).trans (by simp)
                       have v15:w1.cell? ⟨w.heap.size,15,none⟩=some (.slice d.e.sq d.e.sn d.e.sc):=(hb1.cell (by show w.heap.size<_;simp)).trans (by simp)
                       have v16:w1.cell? ⟨w.heap.size,16,none⟩=some (.slice pq d.pon d.poc):=(hb1.cell (by show w.heap.size<_;simp)).trans (by simp)
                       have v17:w1.cell? ⟨w.heap.size,17,none⟩=some (.string d.s.en):=(hb1.cell (by show w.heap.size<_;simp)).trans (by simp)
                       have v18:w1.cell? ⟨w.heap.size,18,none⟩=some (.int .i64 d.s.ve):=(hb1.cell (by show w.heap.size<_;simp)).trans (by simp)
                       have v19:w1.cell? ⟨w.heap.size,19,none⟩=some (.slice rq d.arn d.arc):=(hb1.cell (by show w.heap.size<_;simp)).trans (by simp)
                       have v20:w1.cell? ⟨w.heap.size,20,none⟩=some (.slice d.kiq d.kin d.kic):=(hb1.cell (by show w.heap.size<_;simp)).trans (by simp)
                       have D1:Hid (w1.rangeAt w.heap.size 0 [.int .i64 d.s.ru,.string d.s.nm,.string d.s.ot,.bool d.s.g,.slice d.aq d.an d.ac,.slice d.cq d.cn d.cc,.int .i64 d.s.kk,.int .i64 d.s.nn,.int .i64 d.s.pr,.int .i64 d.e.k,.int .i64 d.e.f,.bool d.e.neg,.slice d.e.aq d.e.an d.e.ac,.slice d.e.cq d.e.cn d.e.cc,.string d.e.m,.slice d.e.sq d.e.sn d.e.sc,.slice pq d.pon d.poc,.string d.s.en,.int .i64 d.s.ve,.slice rq d.arn d.arc,.slice d.kiq d.kin d.kic]):=zac D0.out hb1 (by simp)
                       have hw1:Hid (Below w.heap.size w w1):=hb0.out.trans (hb1.mono hb0.out.size)
                       have hs1:w.heap.size<w1.heap.size:=by have:=hb1.size;simp at this;omega
                       clear hb1)
 have hbT:Below w1.heap.size w1 (w1.alloc (.cells #[.string ⟨r.nm.toArray⟩,.string ⟨r.fl.toArray⟩,.int .i64 r.k,.func (.func r.f) #[] #[]] 60)):=zaa w1 _
 have jo:(w1.alloc (.cells #[.string ⟨r.nm.toArray⟩,.string ⟨r.fl.toArray⟩,.int .i64 r.k,.func (.func r.f) #[] #[]] 60)).heap.size=w1.heap.size+1:=by simp
 have t0:(w1.alloc (.cells #[.string ⟨r.nm.toArray⟩,.string ⟨r.fl.toArray⟩,.int .i64 r.k,.func (.func r.f) #[] #[]] 60)).cell? ⟨w1.heap.size,0,none⟩=some (.string ⟨r.nm.toArray⟩):=by simp
 have t1:(w1.alloc (.cells #[.string ⟨r.nm.toArray⟩,.string ⟨r.fl.toArray⟩,.int .i64 r.k,.func (.func r.f) #[] #[]] 60)).cell? ⟨w1.heap.size,1,none⟩=some (.string ⟨r.fl.toArray⟩):=by simp
 have t2:(w1.alloc (.cells #[.string ⟨r.nm.toArray⟩,.string ⟨r.fl.toArray⟩,.int .i64 r.k,.func (.func r.f) #[] #[]] 60)).cell? ⟨w1.heap.size,2,none⟩=some (.int .i64 r.k):=by simp
 have t3:(w1.alloc (.cells #[.string ⟨r.nm.toArray⟩,.string ⟨r.fl.toArray⟩,.int .i64 r.k,.func (.func r.f) #[] #[]] 60)).cell? ⟨w1.heap.size,3,none⟩=some (.func (.func r.f) #[] #[]):=by simp
 have hS0:(STf w d pq rq) (w1.alloc (.cells #[.string ⟨r.nm.toArray⟩,.string ⟨r.fl.toArray⟩,.int .i64 r.k,.func (.func r.f) #[] #[]] 60)).drew:=⟨(hbT.cell (by exact hs1)).trans v1,(hbT.cell (by exact hs1)).trans v2,(hbT.cell (by exact hs1)).trans v3,(hbT.cell (by exact hs1)).trans v4,(hbT.cell (by exact hs1)).trans v5,(hbT.cell (by exact hs1)).trans v6,(hbT.cell (by exact hs1)).trans v7,(hbT.cell (by exact hs1)).trans v8,(hbT.cell (by exact hs1)).trans v9,(hbT.cell (by exact hs1)).trans v10,(hbT.cell (by exact hs1)).trans v11,(hbT.cell (by exact hs1)).trans v12,(hbT.cell (by exact hs1)).trans v13,(hbT.cell (by exact hs1)).trans v14,(hbT.cell (by exact hs1)).trans v15,(hbT.cell (by exact hs1)).trans v16,(hbT.cell (by exact hs1)).trans v17,(hbT.cell (by exact hs1)).trans v18,(hbT.cell (by exact hs1)).trans v19⟩
 have hwT:=zab (hw1.out.trans (hbT.mono hw1.out.size))
 have D2:Hid ((w1.alloc (.cells #[.string ⟨r.nm.toArray⟩,.string ⟨r.fl.toArray⟩,.int .i64 r.k,.func (.func r.f) #[] #[]] 60)).rangeAt w.heap.size 0 [.int .i64 d.s.ru,.string d.s.nm,.string d.s.ot,.bool d.s.g,.slice d.aq d.an d.ac,.slice d.cq d.cn d.cc,.int .i64 d.s.kk,.int .i64 d.s.nn,.int .i64 d.s.pr,.int .i64 d.e.k,.int .i64 d.e.f,.bool d.e.neg,.slice d.e.aq d.e.an d.e.ac,.slice d.e.cq d.e.cn d.e.cc,.string d.e.m,.slice d.e.sq d.e.sn d.e.sc,.slice pq d.pon d.poc,.string d.s.en,.int .i64 d.s.ve,.slice rq d.arn d.arc,.slice d.kiq d.kin d.kic]):=zac D1.out hbT hs1
 clear v0 v1 v2 v3 v4 v5 v6 v7 v8 v9 v10 v11 v12 v13 v14 v15 v16 v17 v18 v19 v20 hbT hb0 D0 D1 hfi
 generalize (w1.alloc (.cells #[.string ⟨r.nm.toArray⟩,.string ⟨r.fl.toArray⟩,.int .i64 r.k,.func (.func r.f) #[] #[]] 60))=WT at*
 have hsT:w.heap.size<WT.drew.heap.size:=by show w.heap.size<WT.heap.size;omega
 go_cut [5] from 24 to 70 (fun v5 wx=>Hid (Unu wx v5 (zs d ZA ZE)/\Below WT.heap.size WT wx))
 case first=>
  clear hRf hRt hus cN hZ hCB h24
  go_region_held3 (STf w d pq rq) (first | exact hSa _ | exact hS6 | exact hS5 | exact hS0)
   (first
     | (go_at_call 40;with_reducible refine(h21.out _ hwT.out.drew).mono ?_;rintro e w5 ⟨rfl,hb5⟩
        have hS5:(STf w d pq rq) w5:=⟨(hb5.cell (by exact hsT)).trans hS0.1,(hb5.cell (by exact hsT)).trans hS0.2.1,(hb5.cell (by exact hsT)).trans hS0.2.2.1,(hb5.cell (by exact hsT)).trans hS0.2.2.2.1,(hb5.cell (by exact hsT)).trans hS0.2.2.2.2.1,(hb5.cell (by exact hsT)).trans hS0.2.2.2.2.2.1,(hb5.cell (by exact hsT)).trans hS0.2.2.2.2.2.2.1,(hb5.cell (by exact hsT)).trans hS0.2.2.2.2.2.2.2.1,(hb5.cell (by exact hsT)).trans hS0.2.2.2.2.2.2.2.2.1,(hb5.cell (by exact hsT)).trans hS0.2.2.2.2.2.2.2.2.2.1,(hb5.cell (by exact hsT)).trans hS0.2.2.2.2.2.2.2.2.2.2.1,(hb5.cell (by exact hsT)).trans hS0.2.2.2.2.2.2.2.2.2.2.2.1,(hb5.cell (by exact hsT)).trans hS0.2.2.2.2.2.2.2.2.2.2.2.2.1,(hb5.cell (by exact hsT)).trans hS0.2.2.2.2.2.2.2.2.2.2.2.2.2.1,(hb5.cell (by exact hsT)).trans hS0.2.2.2.2.2.2.2.2.2.2.2.2.2.2.1,(hb5.cell (by exact hsT)).trans hS0.2.2.2.2.2.2.2.2.2.2.2.2.2.2.2.1,(hb5.cell (by exact hsT)).trans hS0.2.2.2.2.2.2.2.2.2.2.2.2.2.2.2.2.1,(hb5.cell (by exact hsT)).trans hS0.2.2.2.2.2.2.2.2.2.2.2.2.2.2.2.2.2.1,(hb5.cell (by exact hsT)).trans hS0.2.2.2.2.2.2.2.2.2.2.2.2.2.2.2.2.2.2⟩
        have hs5:w.heap.size<w5.heap.size:=Nat.lt_of_lt_of_le hsT hb5.size
        have hw5:Hid (Below w.heap.size w w5):=hwT.out.drew.trans (hb5.mono hwT.out.drew.size)
        have hT5:Hid (Below WT.heap.size WT w5):=(Below.refl _ _).drew.trans hb5)
     | (go_at_call 41;with_reducible refine(h22.out _ hw5.out).mono ?_;rintro e w6 ⟨rfl,hb6⟩
        have hS6:(STf w d pq rq) w6:=⟨(hb6.cell (by exact hs5)).trans hS5.1,(hb6.cell (by exact hs5)).trans hS5.2.1,(hb6.cell (by exact hs5)).trans hS5.2.2.1,(hb6.cell (by exact hs5)).trans hS5.2.2.2.1,(hb6.cell (by exact hs5)).trans hS5.2.2.2.2.1,(hb6.cell (by exact hs5)).trans hS5.2.2.2.2.2.1,(hb6.cell (by exact hs5)).trans hS5.2.2.2.2.2.2.1,(hb6.cell (by exact hs5)).trans hS5.2.2.2.2.2.2.2.1,(hb6.cell (by exact hs5)).trans hS5.2.2.2.2.2.2.2.2.1,(hb6.cell (by exact hs5)).trans hS5.2.2.2.2.2.2.2.2.2.1,(hb6.cell (by exact hs5)).trans hS5.2.2.2.2.2.2.2.2.2.2.1,(hb6.cell (by exact hs5)).trans hS5.2.2.2.2.2.2.2.2.2.2.2.1,(hb6.cell (by exact hs5)).trans hS5.2.2.2.2.2.2.2.2.2.2.2.2.1,(hb6.cell (by exact hs5)).trans hS5.2.2.2.2.2.2.2.2.2.2.2.2.2.1,(hb6.cell (by exact hs5)).trans hS5.2.2.2.2.2.2.2.2.2.2.2.2.2.2.1,(hb6.cell (by exact hs5)).trans hS5.2.2.2.2.2.2.2.2.2.2.2.2.2.2.2.1,(hb6.cell (by exact hs5)).trans hS5.2.2.2.2.2.2.2.2.2.2.2.2.2.2.2.2.1,(hb6.cell (by exact hs5)).trans hS5.2.2.2.2.2.2.2.2.2.2.2.2.2.2.2.2.2.1,(hb6.cell (by exact hs5)).trans hS5.2.2.2.2.2.2.2.2.2.2.2.2.2.2.2.2.2.2⟩
        have hT6:Hid (Below WT.heap.size WT w6):=hT5.out.trans (hb6.mono hT5.out.size)
        have hs6:w.heap.size<w6.heap.size:=Nat.lt_of_lt_of_le hs5 hb6.size
        have hSa:∀ob,(STf w d pq rq) (w6.alloc ob):=fun ob=>⟨((zaa w6 ob).cell (by exact hs6)).trans hS6.1,((zaa w6 ob).cell (by exact hs6)).trans hS6.2.1,((zaa w6 ob).cell (by exact hs6)).trans hS6.2.2.1,((zaa w6 ob).cell (by exact hs6)).trans hS6.2.2.2.1,((zaa w6 ob).cell (by exact hs6)).trans hS6.2.2.2.2.1,((zaa w6 ob).cell (by exact hs6)).trans hS6.2.2.2.2.2.1,((zaa w6 ob).cell (by exact hs6)).trans hS6.2.2.2.2.2.2.1,((zaa w6 ob).cell (by exact hs6)).trans hS6.2.2.2.2.2.2.2.1,((zaa w6 ob).cell (by exact hs6)).trans hS6.2.2.2.2.2.2.2.2.1,((zaa w6 ob).cell (by exact hs6)).trans hS6.2.2.2.2.2.2.2.2.2.1,((zaa w6 ob).cell (by exact hs6)).trans hS6.2.2.2.2.2.2.2.2.2.2.1,((zaa w6 ob).cell (by exact hs6)).trans hS6.2.2.2.2.2.2.2.2.2.2.2.1,((zaa w6 ob).cell (by exact hs6)).trans hS6.2.2.2.2.2.2.2.2.2.2.2.2.1,((zaa w6 ob).cell (by exact hs6)).trans hS6.2.2.2.2.2.2.2.2.2.2.2.2.2.1,((zaa w6 ob).cell (by exact hs6)).trans hS6.2.2.2.2.2.2.2.2.2.2.2.2.2.2.1,((zaa w6 ob).cell (by exact hs6)).trans hS6.2.2.2.2.2.2.2.2.2.2.2.2.2.2.2.1,((zaa w6 ob).cell (by exact hs6)).trans hS6.2.2.2.2.2.2.2.2.2.2.2.2.2.2.2.2.1,((zaa w6 ob).cell (by exact hs6)).trans hS6.2.2.2.2.2.2.2.2.2.2.2.2.2.2.2.2.2.1,((zaa w6 ob).cell (by exact hs6)).trans hS6.2.2.2.2.2.2.2.2.2.2.2.2.2.2.2.2.2.2⟩))
  have aN:Hid (Unu (w6.alloc (.cells #[.int .u8 120,.bool d.s.nm.toList.isEmpty,.int .u8 121,.bool d.s.ot.toList.isEmpty,.int .u8 97,.bool ZA,.int .u8 107,.bool (d.s.kk==0),.int .u8 110,.bool (d.s.nn==0),.int .u8 112,.bool (d.s.pr==0),.int .u8 101,.bool ZE,.int .u8 113,.bool ((d.pon:Int)==0),.int .u8 108,.bool d.s.en.toList.isEmpty,.int .u8 118,.bool (d.s.ve==0),.int .u8 98,.bool ((d.arn:Int)==0)] 99)) (.slice (some ⟨w6.heap.size,0,none⟩) 11 11) (zs d ZA ZE)/\Below WT.heap.size WT (w6.alloc (.cells #[.int .u8 120,.bool d.s.nm.toList.isEmpty,.int .u8 121,.bool d.s.ot.toList.isEmpty,.int .u8 97,.bool ZA,.int .u8 107,.bool (d.s.kk==0),.int .u8 110,.bool (d.s.nn==0),.int .u8 112,.bool (d.s.pr==0),.int .u8 101,.bool ZE,.int .u8 113,.bool ((d.pon:Int)==0),.int .u8 108,.bool d.s.en.toList.isEmpty,.int .u8 118,.bool (d.s.ve==0),.int .u8 98,.bool ((d.arn:Int)==0)] 99))):=by
   refine⟨⟨_,rfl,by simp,fun j hj=>?_⟩,hT6.out.trans ((zaa w6 _).mono hT6.out.size)⟩
   have hj2:j=0\/j=1\/j=2\/j=3\/j=4\/j=5\/j=6\/j=7\/j=8\/j=9\/j=10:=by omega
   rcases hj2 with rfl | rfl | rfl | rfl | rfl | rfl | rfl | rfl | rfl | rfl | rfl<;>exact⟨by simp[letP],by simp[zs]⟩
  go_wp2_with fail
  go_meet
  case rel=>exact aN
 case rest=>
  obtain⟨⟨B,rfl,hBl,hcs⟩,hbw⟩:=hcut.out
  rw[hZ.out] at hcs
  have fZ:=zab hcs
  have aH:Hid (Below WT.heap.size WT wc):=hbw
  have hT1:w1.heap.size<WT.heap.size:=by omega
  have s0:=(hbw.cell (p:=⟨w1.heap.size,0,none⟩) (by exact hT1)).trans t0
  have s1:=(hbw.cell (p:=⟨w1.heap.size,1,none⟩) (by exact hT1)).trans t1
  have s2:=(hbw.cell (p:=⟨w1.heap.size,2,none⟩) (by exact hT1)).trans t2
  have s3:=(hbw.cell (p:=⟨w1.heap.size,3,none⟩) (by exact hT1)).trans t3
  have hTc:w1.heap.size<wc.heap.size:=Nat.lt_of_lt_of_le hT1 hbw.size
  have D3:Hid (wc.rangeAt w.heap.size 0 [.int .i64 d.s.ru,.string d.s.nm,.string d.s.ot,.bool d.s.g,.slice d.aq d.an d.ac,.slice d.cq d.cn d.cc,.int .i64 d.s.kk,.int .i64 d.s.nn,.int .i64 d.s.pr,.int .i64 d.e.k,.int .i64 d.e.f,.bool d.e.neg,.slice d.e.aq d.e.an d.e.ac,.slice d.e.cq d.e.cn d.e.cc,.string d.e.m,.slice d.e.sq d.e.sn d.e.sc,.slice pq d.pon d.poc,.string d.s.en,.int .i64 d.s.ve,.slice rq d.arn d.arc,.slice d.kiq d.kin d.kic]):=zac D2.out hbw (by omega)
  have hwc:Hid (Below w.heap.size w wc):=hwT.out.trans (hbw.mono hwT.out.size)
  have hsc:w.heap.size<wc.heap.size:=by omega
  clear hcut hcs hbw t0 t1 t2 t3 hS0 hsT jo h21 h22 hZ hCB hwT D2 aH hT1
  go_wp2_with fail
  go_loopw [73] (fun v wr=>∃i:Nat,i<=11/\v=.int .i64 i/\Hid (∀j,j<i->(Z.getD j false||decide (letP.getD j 0∈r.fl))=true)/\Below wc.heap.size wc wr) (fun v _=>11 - (intOf v).toNat)
  case atStart=>exact⟨0,Nat.zero_le _,rfl,fun j hj=>by omega,Below.refl _ _⟩
  case round=>
   obtain⟨i,hi,rfl,hz,hbr⟩:=hrel
   have hwr:Hid (Below w.heap.size w wr):=hwc.out.trans (hbr.mono hwc.out.size)
   have y0:=(hbr.cell (p:=⟨w1.heap.size,0,none⟩) (by exact hTc)).trans s0
   have y1:=(hbr.cell (p:=⟨w1.heap.size,1,none⟩) (by exact hTc)).trans s1
   have y2:=(hbr.cell (p:=⟨w1.heap.size,2,none⟩) (by exact hTc)).trans s2
   have y3:=(hbr.cell (p:=⟨w1.heap.size,3,none⟩) (by exact hTc)).trans s3
   by_cases hlt:i<11
   ·have aF:(i:Int)<11:=by omega
    obtain⟨c0',c1'⟩:=fZ.out i hlt
    have c0:=(hbr.cell (p:=⟨B,i*2,none⟩) (by exact hBl)).trans c0'
    have c1:=(hbr.cell (p:=⟨B,i*2+1,none⟩) (by exact hBl)).trans c1'
    have hul:=hus.out _ (cN.out i hlt)
    have hRi:=hRf.out i hlt
    have hzn:Hid ((Z.getD i false||decide (letP.getD i 0∈r.fl))=true->∀j,j<i+1->(Z.getD j false||decide (letP.getD j 0∈r.fl))=true):=fun h j hj=>by
     rcases Nat.lt_or_ge j i with h2 | h2
     ·exact hz.out j h2
     ·have:j=i:=by omega
      subst this;exact h
    have aJ:Hid (Below wc.heap.size wc wr):=hbr
    clear c0' c1' s0 s1 s2 s3 hz hbr hRt hRf hus cN fZ
    generalize letP.getD i 0=c at*
    generalize Z.getD i false=z at*
    obtain⟨U,hU⟩:∃U,Hid (decide (c∈r.fl)=U):=⟨_,rfl⟩
    rw[hU.out] at hul hRi hzn
    have jp:Hid ((z||U)=false->R=false):=hRi
    have hb2:Hid (Below wr.heap.size wr (wr.alloc (.cells #[.int .u8 c.toNat,.bool z] 99))):=zaa wr _
    have hsr:w1.heap.size<wr.heap.size:=Nat.lt_of_lt_of_le hTc aJ.out.size
    have q0:(wr.alloc (.cells #[.int .u8 c.toNat,.bool z] 99)).cell? ⟨w1.heap.size,0,none⟩=some (.string ⟨r.nm.toArray⟩):=(hb2.out.cell (by exact hsr)).trans y0
    have q1:(wr.alloc (.cells #[.int .u8 c.toNat,.bool z] 99)).cell? ⟨w1.heap.size,1,none⟩=some (.string ⟨r.fl.toArray⟩):=(hb2.out.cell (by exact hsr)).trans y1
    have q2:(wr.alloc (.cells #[.int .u8 c.toNat,.bool z] 99)).cell? ⟨w1.heap.size,2,none⟩=some (.int .i64 r.k):=(hb2.out.cell (by exact hsr)).trans y2
    have q3:(wr.alloc (.cells #[.int .u8 c.toNat,.bool z] 99)).cell? ⟨w1.heap.size,3,none⟩=some (.func (.func r.f) #[] #[]):=(hb2.out.cell (by exact hsr)).trans y3
    clear hRi hU y0 y1 y2 y3
    cases z with
    | true=>
     have hz':=hzn.out rfl
     have ga:Hid (∀j,j<i+1->(Z.getD j false||decide (letP.getD j 0∈r.fl))=true):=hz'
     clear hz' hzn hul
     go_wp2_with fail
     go_roundw
     case rel=>exact⟨i+1,by omega,by go_num,ga,aJ.out.trans (hb2.out.mono aJ.out.size)⟩
     case measure=>simp[intOf];omega
    | false=>
     cases U with
     | true=>
      have hz':=hzn.out rfl
      have ga:Hid (∀j,j<i+1->(Z.getD j false||decide (letP.getD j 0∈r.fl))=true):=hz'
      clear hz' hzn
      go_wp2_with (go_at_call 21;with_reducible refine(hul _).mono ?_;rintro e w5 ⟨rfl,hb5⟩)
      go_roundw
      case rel=>exact⟨i+1,by omega,by go_num,ga,aJ.out.trans ((hb2.out.trans (hb5.mono hb2.out.size)).mono aJ.out.size)⟩
      case measure=>simp[intOf];omega
     | false=>
      have hRv:=jp.out rfl
      subst hRv
      clear hzn
      go_wp2_with (go_at_call 21;with_reducible refine(hul _).mono ?_;rintro e w5 ⟨rfl,hb5⟩)
      go_ret
      exact⟨rfl,hwr.out.trans ((hb2.out.trans (hb5.mono hb2.out.size)).mono hwr.out.size)⟩
   ·obtain rfl:i=11:=by omega
    have hRv:CB=R:=hRt.out hz.out
    subst hRv
    have D4:Hid (wr.rangeAt w.heap.size 0 [.int .i64 d.s.ru,.string d.s.nm,.string d.s.ot,.bool d.s.g,.slice d.aq d.an d.ac,.slice d.cq d.cn d.cc,.int .i64 d.s.kk,.int .i64 d.s.nn,.int .i64 d.s.pr,.int .i64 d.e.k,.int .i64 d.e.f,.bool d.e.neg,.slice d.e.aq d.e.an d.e.ac,.slice d.e.cq d.e.cn d.e.cc,.string d.e.m,.slice d.e.sq d.e.sn d.e.sc,.slice pq d.pon d.poc,.string d.s.en,.int .i64 d.s.ve,.slice rq d.arn d.arc,.slice d.kiq d.kin d.kic]):=zac D3.out hbr hsc
    have jq:=h24.out wr hwr.out
    clear hz hRt hRf hus cN fZ hbr s0 s1 s2 s3
    go_wp2_with (first
     | (with_reducible refine wpList_load_mid (op:=⟨some 89,_,_,_,_,_⟩) ?_ 32 (.tmp 1) ?_ (w.heap.size) (0) ?_ [.int .i64 d.s.ru,.string d.s.nm,.string d.s.ot,.bool d.s.g,.slice d.aq d.an d.ac,.slice d.cq d.cn d.cc,.int .i64 d.s.kk,.int .i64 d.s.nn,.int .i64 d.s.pr,.int .i64 d.e.k,.int .i64 d.e.f,.bool d.e.neg,.slice d.e.aq d.e.an d.e.ac,.slice d.e.cq d.e.cn d.e.cc,.string d.e.m,.slice d.e.sq d.e.sn d.e.sc,.slice pq d.pon d.poc,.string d.s.en,.int .i64 d.s.ve,.slice rq d.arn d.arc,.slice d.kiq d.kin d.kic] dst ?_ cX.out cM ?_ ?_
        rotate_left 1
        ·with_reducible rfl
        ·kernel_rfl
        ·exact D4.out
        ·exact zcd
        rotate_left 1
        ·rfl)
     | (go_at_call 42;with_reducible refine jq.mono ?_;rintro e w7 ⟨rfl,hb7⟩))
    go_ret
    exact⟨rfl,hwr.out.trans (hb7.mono hwr.out.size)⟩
def ruleAt (n:Int):Option KR:=kR.find? (fun r=>r.n==n)
theorem zda {r:KR} (hr:r∈kR):ruleAt r.n=some r:=by
 simp only[kR,List.mem_cons,List.not_mem_nil,or_false] at hr
 rcases hr with rfl | rfl | rfl | rfl | rfl | rfl | rfl | rfl | rfl | rfl | rfl | rfl | rfl | rfl | rfl | rfl | rfl | rfl | rfl | rfl | rfl<;>rfl
theorem zdb {n:Int} (h:n<1\/21<n):ruleAt n=none:=by
 have aB:∀r∈kR,1<=r.n/\r.n<=21:=by decide
 unfold ruleAt
 rw[List.find?_eq_none]
 intro r hr
 have:=aB r hr
 simp
 omega
def zsS (s:Sc) (pn bn:Nat) (ZA ZE:Bool):List Bool:=[s.nm.toList.isEmpty,s.ot.toList.isEmpty,ZA,(s.kk==0),(s.nn==0),(s.pr==0),ZE,((pn:Int)==0),s.en.toList.isEmpty,(s.ve==0),((bn:Int)==0)]
def formS (s:Sc) (X Y:Int) (x:Ex) (pn:Nat) (ps:Nat->Pt) (bn:Nat) (bs:Nat->Bd) (n:Nat):Bool:=
 match ruleAt s.ru with
 | none=>false
 | some r=>decide ((n:Int)=r.k)&&(unB r (zsS s pn bn (!large X Y&&decide (X=0)) x.no)&&contB (decide ((101:UInt8)∈r.fl)) X Y x pn ps bn bs)
theorem zcc {s:Sc} {r:KR} (h:ruleAt s.ru=some r) (X Y:Int) (x:Ex) (pn:Nat) (ps:Nat->Pt) (bn:Nat) (bs:Nat->Bd) (n:Nat):
  formS s X Y x pn ps bn bs n=(decide ((n:Int)=r.k)&&(unB r (zsS s pn bn (!large X Y&&decide (X=0)) x.no)&&contB (decide ((101:UInt8)∈r.fl)) X Y x pn ps bn bs)):=by
 unfold formS;rw[h]
theorem zec {s:Sc} (h:ruleAt s.ru=none) (X Y:Int) (x:Ex) (pn:Nat) (ps:Nat->Pt) (bn:Nat) (bs:Nat->Bd) (n:Nat):
  formS s X Y x pn ps bn bs n=false:=by
 unfold formS;rw[h]
def St.form:St->Bool
 | .non=>false
 | .mk s nu de x pn ps bn bs n _=>formS s (val nu) (val de) x pn ps bn bs n
theorem wfP_ok {w:World} {t:St} {d:Sd} (h:StOk w t d) (hT:Tb w):Calls Tryz.prog 19 #[d.val] w (Rt w (.bool t.form)):=by
 cases t with
 | non=>exact h.elim
 | mk s nu de x pn ps bn bs n ki=>
  unfold StOk at h
  obtain⟨⟨rfl,rfl,rfl,rfl⟩,h1,h2,ln,ld,hX,hP,hB,hn,hki⟩:=h
  show Calls Tryz.prog 19 #[.agg (sV d)] w fun e w'=>e=.returned (.bool (formS d.s (val nu) (val de) x d.pon ps d.arn bs d.kin))/\_
  rcases zee d.s.ru with⟨r,hr,e⟩ | hno
  ·rw[zcc (by rw[<-e];exact zda hr)]
   by_cases hk:(d.kin:Int)=r.k
   ·rw[decide_eq_true hk,Bool.true_and]
    exact wf_walk hr h1 h2 ln ld hX hP hB hT e.symm hk
   ·rw[decide_eq_false hk,Bool.false_and]
    have hfi:=zgs hr (w.alloc (.cells (sV d) 32))
    unfold KR.val tx at hfi
    rw[e] at hfi
    have hkk:((d.kin:Int) != r.k)=true:=by simp[hk]
    have hb0:Hid (Below w.heap.size w (w.alloc (.cells (sV d) 32))):=zaa w _
    clear hr e hk h1 h2 hX hP hB hT hki hn
    go_enter Tryz.func19,Tryz.ntmps19
    go_wp2_with (go_at_call 20;with_reducible refine hfi.mono ?_;rintro e w1 ⟨rfl,hb1⟩
                 have v20:w1.cell? ⟨w.heap.size,20,none⟩=some (.slice d.kiq d.kin d.kic):=(hb1.cell (by show w.heap.size<_;simp)).trans (by simp)
                 have hs1:w.heap.size<w1.heap.size:=by have:=hb1.size;simp at this;omega
                 have hs2:w1.heap.size≠w.heap.size:=by omega
                 have hbT:Hid (Below w.heap.size w (w1.alloc (.cells #[.string ⟨r.nm.toArray⟩,.string ⟨r.fl.toArray⟩,.int .i64 r.k,.func (.func r.f) #[] #[]] 60))):=(hb0.out.trans (hb1.mono hb0.out.size)).alloc (by omega) _
                 have x20:(w1.alloc (.cells #[.string ⟨r.nm.toArray⟩,.string ⟨r.fl.toArray⟩,.int .i64 r.k,.func (.func r.f) #[] #[]] 60)).cell? ⟨w.heap.size,20,none⟩=some (.slice d.kiq d.kin d.kic):=((zaa w1 _).cell (by exact hs1)).trans v20
                 clear hb1)
    go_ret
    exact⟨rfl,hbT.out⟩
  ·rw[zec (zdb hno)]
   have hfi:=zm8 hno (w.alloc (.cells (sV d) 32))
   have hb0:Hid (Below w.heap.size w (w.alloc (.cells (sV d) 32))):=zaa w _
   clear hno h1 h2 hX hP hB hT hki hn
   go_enter Tryz.func19,Tryz.ntmps19
   go_wp2_with (go_at_call 20;with_reducible refine hfi.mono ?_;rintro e w1 ⟨a,b,c,rfl,hb1⟩)
   go_ret
   exact⟨rfl,(hb0.out.trans (hb1.mono hb0.out.size)).trans ((zaa w1 _).mono (Nat.le_trans hb0.out.size hb1.size))⟩
theorem blank_ok {w:World} {k f:Int} {ng:Bool} {aq cq sq:Option Addr} {an ac cn cc n sc:Nat} {m:ByteArray} {nu:List Int} (h1:Sl w (.slice aq an ac) nu) (ln:nu.length<=1048576):
  Calls Tryz.prog 183 #[.agg #[.int .i64 k,.int .i64 f,.bool ng,.slice aq an ac,.slice cq cn cc,.string m,.slice sq n sc]] w (Rt w (.bool (noEx k f (val nu) m n))):=by
 have hb0:Below w.heap.size w (w.alloc (.cells #[.int .i64 k,.int .i64 f,.bool ng,.slice aq an ac,.slice cq cn cc,.string m,.slice sq n sc] 27)):=zaa w _
 have hze:=zgo (g:=ng) (p1:=cq) (m:=cn) (e1:=cc) (h1.below hb0) (by omega)
 unfold noEx
 clear h1
 by_cases a0:k=0
 ·subst a0
  by_cases a1:f=0
  ·subst a1
   cases a4:decide (val nu=0) with
   | false=>
    rw[a4] at hze
    go_enter Tryz.func183,Tryz.ntmps183
    go_wp2_with (go_at_call 182;with_reducible refine hze.mono ?_;rintro e w1 ⟨rfl,hb1⟩
                 have x5:w1.cell? ⟨w.heap.size,5,none⟩=some (.string m):=(hb1.cell (by show w.heap.size<_;simp)).trans (by simp)
                 have x6:w1.cell? ⟨w.heap.size,6,none⟩=some (.slice sq n sc):=(hb1.cell (by show w.heap.size<_;simp)).trans (by simp))
    go_ret
    exact⟨by simp,hb0.trans (hb1.mono hb0.size)⟩
   | true=>
    rw[a4] at hze
    cases a2:m.toList==[] with
    | true=>
     by_cases a3:n=0
     ·have a3':((n:Int)==0)=true:=by simp[a3]
      have a3h:Hid (n=0):=a3
      clear a3
      go_enter Tryz.func183,Tryz.ntmps183
      go_wp2_with (go_at_call 182;with_reducible refine hze.mono ?_;rintro e w1 ⟨rfl,hb1⟩
                   have x5:w1.cell? ⟨w.heap.size,5,none⟩=some (.string m):=(hb1.cell (by show w.heap.size<_;simp)).trans (by simp)
                   have x6:w1.cell? ⟨w.heap.size,6,none⟩=some (.slice sq n sc):=(hb1.cell (by show w.heap.size<_;simp)).trans (by simp))
      go_ret
      exact⟨by simp[a3h.out],hb0.trans (hb1.mono hb0.size)⟩
     ·have a3':((n:Int)==0)=false:=by simp;omega
      go_enter Tryz.func183,Tryz.ntmps183
      go_wp2_with (go_at_call 182;with_reducible refine hze.mono ?_;rintro e w1 ⟨rfl,hb1⟩
                   have x5:w1.cell? ⟨w.heap.size,5,none⟩=some (.string m):=(hb1.cell (by show w.heap.size<_;simp)).trans (by simp)
                   have x6:w1.cell? ⟨w.heap.size,6,none⟩=some (.slice sq n sc):=(hb1.cell (by show w.heap.size<_;simp)).trans (by simp))
      go_ret
      exact⟨by simp[a3],hb0.trans (hb1.mono hb0.size)⟩
    | false=>
     go_enter Tryz.func183,Tryz.ntmps183
     go_wp2_with (go_at_call 182;with_reducible refine hze.mono ?_;rintro e w1 ⟨rfl,hb1⟩
                  have x5:w1.cell? ⟨w.heap.size,5,none⟩=some (.string m):=(hb1.cell (by show w.heap.size<_;simp)).trans (by simp)
                  have x6:w1.cell? ⟨w.heap.size,6,none⟩=some (.slice sq n sc):=(hb1.cell (by show w.heap.size<_;simp)).trans (by simp))
     go_ret
     exact⟨rfl,hb0.trans (hb1.mono hb0.size)⟩
  ·have a1':(f==0)=false:=by simp[a1]
   clear hze
   go_enter Tryz.func183,Tryz.ntmps183
   go_wp2_with fail
   go_ret
   exact⟨by simp[a1],hb0⟩
 ·have a0':(k==0)=false:=by simp[a0]
  clear hze
  go_enter Tryz.func183,Tryz.ntmps183
  go_wp2_with fail
  go_ret
  exact⟨by simp[a0],hb0⟩
theorem exNo_ok {w:World} {x:Ex} {d:Nd} (h:ExOk w x d):Calls Tryz.prog 183 #[d.val] w (Rt w (.bool x.no)):=by
 cases x with
 | non=>exact h.elim
 | mk k f ng nu de m n ar=>
  unfold ExOk at h
  obtain⟨⟨rfl,rfl,rfl,rfl,rfl⟩,h1,h2,ln,_⟩:=h
  exact blank_ok h1 ln
end Go.Proofs.YtnnhofmknilopaaGreatDoor
