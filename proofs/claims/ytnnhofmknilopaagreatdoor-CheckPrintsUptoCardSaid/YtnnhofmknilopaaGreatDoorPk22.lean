import Derived.Test.YtnnhofmknilopaaGreatDoorPk21
namespace Go.Proofs.YtnnhofmknilopaaGreatDoor
open Go Go.Proofs.YtnnhofmknilopaaGreatDoor.Gx Go.RowKit
set_option maxRecDepth 100000
set_option maxHeartbeats 16000000
theorem zhk {w:World} {d:Sd} {pq rq:Option Addr} {nu de:List Int} {x:Ex} {ps:Nat->Pt} {bs:Nat->Bd} (h1:Sl w (.slice d.aq d.an d.ac) nu) (h2:Sl w (.slice d.cq d.cn d.cc) de) (ln:nu.length<=1048576) (ld:de.length<=1048576) (hX:ExOk w x d.e) (hP:PtsOk w pq d.pon ps) (hB:BdsOk w rq d.arn bs) (hno:d.s.ru<1\/21<d.s.ru):
  Calls Tryz.prog 53 #[.agg (sW d pq rq)] w (Rt w (.bool false)):=by
 have hb0:Hid (Below w.heap.size w (w.alloc (.cells (sW d pq rq) 32))):=zaa w _
 have h34:Hid (∀z,Below w.heap.size w z->Calls Tryz.prog 99 #[.int .i64 d.s.ru] z (Rt z (.string ⟨#[]⟩))):=fun z _=>zks hno z
 have hS0:(fun z=>z.cell? ⟨w.heap.size,0,none⟩=some (.int .i64 d.s.ru)) (w.alloc (.cells (sW d pq rq) 32)).drew:=by simp
 have hsT:w.heap.size<(w.alloc (.cells (sW d pq rq) 32)).drew.heap.size:=by simp
 clear h1 h2 hX hP hB hno ln ld
 go_enter Tryz.func53,Tryz.ntmps53
 go_upto_region 1 with fail
 generalize (w.alloc (.cells (sW d pq rq) 32))=WW at*
 have hte:(⟨#[]⟩:ByteArray).toList.isEmpty=true:=by rw[ByteArray.toList_eq];rfl
 refine wp_region_held_drew (S:=(fun z=>z.cell? ⟨w.heap.size,0,none⟩=some (.int .i64 d.s.ru))) (by kernel_rfl) hS0 (fun aI=>?_)
 refine tk 0 (.pointer (some ⟨w.heap.size,0,none⟩)) rfl aI ?_
 simp only[pz]
 refine tk 1 (.int .i64 d.s.ru) rfl aI ?_
 simp only[pz]
 refine rdy 2 rfl (fun K hK=>?_)
 go_simp
 refine(h34.out _ hb0.out.drew).mono ?_
 rintro e w5 ⟨rfl,hb5⟩
 have H5:(fun z=>z.cell? ⟨w.heap.size,0,none⟩=some (.int .i64 d.s.ru)) w5:=(hb5.cell (by exact hsT)).trans hS0
 have hw5:Hid (Below w.heap.size w w5):=hb0.out.drew.trans (hb5.mono hb0.out.drew.size)
 refine hK.out _ _ H5 (fun al=>?_)
 clear hK K aI
 refine tk 3 (.bool true) rfl al ?_
 simp only[pz]
 refine tk 4 (.bool true) rfl al ?_
 simp only[pz]
 refine wpAnyH_take (i:=5) (v:=undef) rfl (by kernel_rfl) (by kernel_rfl) (by kernel_rfl) (fun _ _ _ h=>h) (.inr ⟨by kernel_rfl,rfl⟩) al ?_
 simp only[pz]
 refine wpAnyH_take (i:=6) (v:=undef) rfl (by kernel_rfl) (by kernel_rfl) (by kernel_rfl) (fun _ _ _ h=>h) (.inr ⟨by kernel_rfl,rfl⟩) al ?_
 simp only[pz]
 refine wpAnyH_take (i:=7) (v:=undef) rfl (by kernel_rfl) (by kernel_rfl) (by kernel_rfl) (fun _ _ _ h=>h) (.inr ⟨by kernel_rfl,rfl⟩) al ?_
 simp only[pz]
 refine tk 8 (.bool true) rfl al ?_
 simp only[pz]
 refine tk 9 (.bool true) rfl al ?_
 simp only[pz]
 refine wpAnyH_take (i:=10) (v:=undef) rfl (by kernel_rfl) (by kernel_rfl) (by kernel_rfl) (fun _ _ _ h=>h) (.inr ⟨by kernel_rfl,rfl⟩) al ?_
 simp only[pz]
 refine wpAnyH_take (i:=11) (v:=undef) rfl (by kernel_rfl) (by kernel_rfl) (by kernel_rfl) (fun _ _ _ h=>h) (.inr ⟨by kernel_rfl,rfl⟩) al ?_
 simp only[pz]
 refine wpAnyH_take (i:=12) (v:=undef) rfl (by kernel_rfl) (by kernel_rfl) (by kernel_rfl) (fun _ _ _ h=>h) (.inr ⟨by kernel_rfl,rfl⟩) al ?_
 simp only[pz]
 refine wpAnyH_take (i:=13) (v:=undef) rfl (by kernel_rfl) (by kernel_rfl) (by kernel_rfl) (fun _ _ _ h=>h) (.inr ⟨by kernel_rfl,rfl⟩) al ?_
 simp only[pz]
 refine wpAnyH_take (i:=14) (v:=undef) rfl (by kernel_rfl) (by kernel_rfl) (by kernel_rfl) (fun _ _ _ h=>h) (.inr ⟨by kernel_rfl,rfl⟩) al ?_
 simp only[pz]
 refine wpAnyH_take (i:=15) (v:=undef) rfl (by kernel_rfl) (by kernel_rfl) (by kernel_rfl) (fun _ _ _ h=>h) (.inr ⟨by kernel_rfl,rfl⟩) al ?_
 simp only[pz]
 refine wpAnyH_take (i:=16) (v:=undef) rfl (by kernel_rfl) (by kernel_rfl) (by kernel_rfl) (fun _ _ _ h=>h) (.inr ⟨by kernel_rfl,rfl⟩) al ?_
 simp only[pz]
 refine wpAnyH_take (i:=17) (v:=undef) rfl (by kernel_rfl) (by kernel_rfl) (by kernel_rfl) (fun _ _ _ h=>h) (.inr ⟨by kernel_rfl,rfl⟩) al ?_
 simp only[pz]
 refine tk 18 (.bool true) rfl al ?_
 simp only[pz]
 refine tk 19 (.bool true) rfl al ?_
 simp only[pz]
 refine wpAnyH_take (i:=20) (v:=undef) rfl (by kernel_rfl) (by kernel_rfl) (by kernel_rfl) (fun _ _ _ h=>h) (.inr ⟨by kernel_rfl,rfl⟩) al ?_
 simp only[pz]
 refine wpAnyH_take (i:=21) (v:=undef) rfl (by kernel_rfl) (by kernel_rfl) (by kernel_rfl) (fun _ _ _ h=>h) (.inr ⟨by kernel_rfl,rfl⟩) al ?_
 simp only[pz]
 refine wpAnyH_take (i:=22) (v:=undef) rfl (by kernel_rfl) (by kernel_rfl) (by kernel_rfl) (fun _ _ _ h=>h) (.inr ⟨by kernel_rfl,rfl⟩) al ?_
 simp only[pz]
 refine tk 23 (.bool true) rfl al ?_
 simp only[pz]
 refine wpAnyH_done (by kernel_rfl) ?_ _
 clear al
 go_wp2_with fail
 go_ret
 exact⟨rfl,hw5.out⟩
abbrev STi (w:World) (cs:List Value) (d:Sd):World->Prop:=fun z=>z.rangeAt w.heap.size 0 cs/\z.cell? ⟨w.heap.size,0,none⟩=some (.int .i64 d.s.ru)/\z.cell? ⟨w.heap.size,3,none⟩=some (.bool d.s.g)/\z.cell? ⟨w.heap.size,4,none⟩=some (.slice d.aq d.an d.ac)/\z.cell? ⟨w.heap.size,5,none⟩=some (.slice d.cq d.cn d.cc)/\z.cell? ⟨w.heap.size,20,none⟩=some (.slice d.kiq d.kin d.kic)
theorem zhl {q:KR} (hq:q∈kQ) {w:World} {d:Sd} {pq rq:Option Addr} {nu de:List Int} {x:Ex} {ps:Nat->Pt} {bs:Nat->Bd} (h1:Sl w (.slice d.aq d.an d.ac) nu) (h2:Sl w (.slice d.cq d.cn d.cc) de) (ln:nu.length<=1048576) (ld:de.length<=1048576) (hX:ExOk w x d.e) (hP:PtsOk w pq d.pon ps) (hB:BdsOk w rq d.arn bs) (hru:d.s.ru=q.n) {U UE:Bool} (hUE:decide ((101:UInt8)∈q.fl)=UE)
  (h35:Hid (∀z,Below w.heap.size w z->Calls Tryz.prog 100 #[.agg (sW d pq rq)] z (Rt z (.bool U)))):
  Calls Tryz.prog 53 #[.agg (sW d pq rq)] w (Rt w (.bool ((decide ((d.kin:Int)=q.k)&&U)&&contB UE (val nu) (val de) x d.pon ps d.arn bs))):=by
 have hb0:Hid (Below w.heap.size w (w.alloc (.cells (sW d pq rq) 32))):=zaa w _
 have h34:Hid (∀z,Below w.heap.size w z->Calls Tryz.prog 99 #[.int .i64 d.s.ru] z (Rt z (.string ⟨q.nm.toArray⟩))):=fun z _=>by
  rw[hru];exact rname_ok hq z
 have h36:Hid (∀z,Below w.heap.size w z->Calls Tryz.prog 56 #[.int .i64 d.s.ru] z (Rt z (.agg #[.string ⟨q.nm.toArray⟩,.string ⟨q.fl.toArray⟩,.int .i64 q.k]))):=fun z _=>by
  rw[hru];exact row_ok hq z
 obtain⟨L,hL⟩:∃L,Hid (large (val nu) (val de)=L):=⟨_,rfl⟩
 have h37:Hid (∀z,Below w.heap.size w z->Calls Tryz.prog 101 #[.agg #[.bool d.s.g,.slice d.aq d.an d.ac,.slice d.cq d.cn d.cc]] z (Rt z (.bool L))):=fun z hz=>by
  rw[<-hL.out]
  exact ze7 (h1.below hz) (h2.below hz) (by omega) (by omega)
 have h38:Hid (∀z,Calls Tryz.prog 54 #[.int .i64 d.s.ru,.int .u8 101] z (Rt z (.bool UE))):=fun z=>by
  rw[<-hUE,hru];exact zfl hq (c:=101) (by decide) z
 obtain⟨V,hV⟩:∃V,Hid ((x.cnt 1 0).isSome=V):=⟨_,rfl⟩
 have h39:Hid (∀z,Below w.heap.size w z->Calls Tryz.prog 102 #[.agg #[.int .i64 d.e.k,.int .i64 d.e.f,.bool d.e.neg,.slice d.e.aq d.e.an d.e.ac,.slice d.e.cq d.e.cn d.e.cc,.string d.e.m,.slice d.e.sq d.e.sn d.e.sc]] z (Rt z (.bool V))):=fun z hz=>by
  rw[<-hV.out]
  exact zfk (hX.below hz)
 have hne:q.nm.isEmpty=false:=by
  have:=name_ne q hq
  cases hn:q.nm with
  | nil=>exact absurd hn this
  | cons a l=>rfl
 have hfd:∀w:World,(Instr.field 114 (.agg #[.string ⟨q.nm.toArray⟩,.string ⟨q.fl.toArray⟩,.int .i64 q.k]) 2).run Tryz.prog w=.ok (.int .i64 q.k) w:=fun _=>by kernel_rfl
 have hP':Hid (PtsOk w pq d.pon ps):=hP
 have hB':Hid (BdsOk w rq d.arn bs):=hB
 obtain⟨R,hR⟩:∃R,Hid (((decide ((d.kin:Int)=q.k)&&U)&&contB UE (val nu) (val de) x d.pon ps d.arn bs)=R):=⟨_,rfl⟩
 rw[hR.out]
 have hR1:Hid (∀i,i<d.pon->ptB (ps i)=false->R=false):=fun i hi h=>by rw[<-hR.out];unfold contB;rw[zb3 hi h];simp
 have hR2:Hid (∀i,i<d.arn->bdB (bs i)=false->R=false):=fun i hi h=>by rw[<-hR.out];unfold contB;rw[zb3 (f:=fun i=>bdB (bs i)) hi h];simp
 obtain⟨G1,hG1⟩:∃G,Hid ((!((decide ((d.kin:Int)=q.k)&&U)&&!L))=G):=⟨_,rfl⟩
 obtain⟨G2,hG2⟩:∃G,Hid ((!(decide (d.pon<=6)&&(decide (d.arn<=6)&&(!UE||V))))=G):=⟨_,rfl⟩
 have fQ:Hid (G1=true->R=false):=fun h=>by
  have hg:=hG1.out
  rw[h,Bool.not_eq_true'] at hg
  rw[<-hR.out];unfold contB;rw[hL.out,hV.out]
  revert hg
  cases decide ((d.kin:Int)=q.k)<;>cases U<;>cases L<;>simp
 have eU:Hid (G2=true->R=false):=fun h=>by
  have hg:=hG2.out
  rw[h,Bool.not_eq_true'] at hg
  rw[<-hR.out];unfold contB;rw[hL.out,hV.out]
  revert hg
  cases decide (d.pon<=6)<;>cases decide (d.arn<=6)<;>cases UE<;>cases V<;>simp
 have dE:Hid (G1=false->G2=false->(∀j,j<d.pon->ptB (ps j)=true)->(∀j,j<d.arn->bdB (bs j)=true)->R=true):=fun h h' hp hq=>by
  have hg:=hG1.out
  have hg':=hG2.out
  rw[h,Bool.not_eq_false'] at hg
  rw[h',Bool.not_eq_false'] at hg'
  rw[<-hR.out];unfold contB;rw[hL.out,hV.out,za9 hp,za9 hq]
  revert hg hg'
  cases decide ((d.kin:Int)=q.k)<;>cases U<;>cases L<;>cases decide (d.pon<=6)<;>cases decide (d.arn<=6)<;>cases UE<;>cases V<;>simp
 obtain⟨cs,hcs⟩:∃c:List Value,Hid (([.int .i64 d.s.ru,.string d.s.nm,.string d.s.ot,.bool d.s.g,.slice d.aq d.an d.ac,.slice d.cq d.cn d.cc,.int .i64 d.s.kk,.int .i64 d.s.nn,.int .i64 d.s.pr,.int .i64 d.e.k,.int .i64 d.e.f,.bool d.e.neg,.slice d.e.aq d.e.an d.e.ac,.slice d.e.cq d.e.cn d.e.cc,.string d.e.m,.slice d.e.sq d.e.sn d.e.sc,.slice pq d.pon d.poc,.string d.s.en,.int .i64 d.s.ve,.slice rq d.arn d.arc,.slice d.kiq d.kin d.kic]:List Value)=c):=⟨_,rfl⟩
 have lx:Hid (cs.length=21):=by
  show cs.length=21
  rw[<-hcs.out];rfl
 have eW:Hid (∀z,Below w.heap.size w z->Calls Tryz.prog 100 #[.agg cs.toArray] z (Rt z (.bool U))):=by
  rw[<-hcs.out];exact h35
 have hS0:(STi w cs d) (w.alloc (.cells (sW d pq rq) 32)):=⟨by rw[<-hcs.out];exact zah w [.int .i64 d.s.ru,.string d.s.nm,.string d.s.ot,.bool d.s.g,.slice d.aq d.an d.ac,.slice d.cq d.cn d.cc,.int .i64 d.s.kk,.int .i64 d.s.nn,.int .i64 d.s.pr,.int .i64 d.e.k,.int .i64 d.e.f,.bool d.e.neg,.slice d.e.aq d.e.an d.e.ac,.slice d.e.cq d.e.cn d.e.cc,.string d.e.m,.slice d.e.sq d.e.sn d.e.sc,.slice pq d.pon d.poc,.string d.s.en,.int .i64 d.s.ve,.slice rq d.arn d.arc,.slice d.kiq d.kin d.kic] 32,by simp,by simp,by simp,by simp,by simp⟩
 obtain⟨dst,ed,cM⟩:=zay
 have cX:=zab ed
 clear ed
 have hsT:w.heap.size<(w.alloc (.cells (sW d pq rq) 32)).drew.heap.size:=by simp
 have eh:Hid (U=false->G1=true):=fun h=>by rw[<-hG1.out,h];simp
 have cY:Hid (¬(d.kin:Int)=q.k->G1=true):=fun h=>by rw[<-hG1.out,decide_eq_false h];rfl
 have ei:Hid (U=true->(d.kin:Int)=q.k->G1=L):=fun h h'=>by rw[<-hG1.out,h,decide_eq_true h'];simp
 have cw:Hid (UE=true->V=false->G2=true):=fun h h'=>by rw[<-hG2.out,h,h'];simp
 have bU:Hid (¬d.pon<=6->G2=true):=fun h=>by rw[<-hG2.out,decide_eq_false h];rfl
 have bV:Hid (¬d.arn<=6->G2=true):=fun h=>by rw[<-hG2.out,decide_eq_false h];simp
 have bX:Hid (UE=false\/V=true->d.pon<=6->d.arn<=6->G2=false):=fun h h2 h3=>by
  rw[<-hG2.out,decide_eq_true h2,decide_eq_true h3]
  rcases h with h | h<;>simp[h]
 have hlp:Hid (∀(dd:Va) (p:Pt) z,PtOk z p dd->Calls Tryz.prog 101 #[.agg #[.bool dd.g,.slice dd.aq dd.an dd.ac,.slice dd.cq dd.cn dd.cc]] z (Rt z (.bool (!ptB p)))):=fun dd p z h=>by
  have:=ze7 (g:=dd.g) h.2.2.1 h.2.2.2.1 (by have:=h.2.2.2.2.1;omega) (by have:=h.2.2.2.2.2;omega)
  rw[show large (val p.nu) (val p.de)=!ptB p by unfold ptB;simp] at this
  exact this
 clear h1 h2 hX hP hB hru hUE hR hG1 hG2 hL hV ln ld hq
 go_enter Tryz.func53,Tryz.ntmps53
 go_upto_region 1 with fail
 have hcw:Hid (∀z,Below (w.alloc (.cells (sW d pq rq) 32)).heap.size (w.alloc (.cells (sW d pq rq) 32)) z->z.cell? ⟨w.heap.size,0,none⟩=some (.int .i64 d.s.ru)/\z.cell? ⟨w.heap.size,9,none⟩=some (.int .i64 d.e.k)/\z.cell? ⟨w.heap.size,10,none⟩=some (.int .i64 d.e.f)/\z.cell? ⟨w.heap.size,11,none⟩=some (.bool d.e.neg)/\z.cell? ⟨w.heap.size,12,none⟩=some (.slice d.e.aq d.e.an d.e.ac)/\z.cell? ⟨w.heap.size,13,none⟩=some (.slice d.e.cq d.e.cn d.e.cc)/\z.cell? ⟨w.heap.size,14,none⟩=some (.string d.e.m)/\z.cell? ⟨w.heap.size,15,none⟩=some (.slice d.e.sq d.e.sn d.e.sc)/\z.cell? ⟨w.heap.size,16,none⟩=some (.slice pq d.pon d.poc)/\z.cell? ⟨w.heap.size,19,none⟩=some (.slice rq d.arn d.arc)):=fun z hz=>⟨(hz.cell (by show w.heap.size<_;simp)).trans (by simp),(hz.cell (by show w.heap.size<_;simp)).trans (by simp),(hz.cell (by show w.heap.size<_;simp)).trans (by simp),(hz.cell (by show w.heap.size<_;simp)).trans (by simp),(hz.cell (by show w.heap.size<_;simp)).trans (by simp),(hz.cell (by show w.heap.size<_;simp)).trans (by simp),(hz.cell (by show w.heap.size<_;simp)).trans (by simp),(hz.cell (by show w.heap.size<_;simp)).trans (by simp),(hz.cell (by show w.heap.size<_;simp)).trans (by simp),(hz.cell (by show w.heap.size<_;simp)).trans (by simp)⟩
 obtain⟨WW,hWW⟩:∃z,Hid ((w.alloc (.cells (sW d pq rq) 32))=z):=⟨_,rfl⟩
 rw[hWW.out] at hcw hS0 hb0 hsT
 simp only[hWW.out]
 have hbW:=hb0
 have hSW:=hS0
 clear hS0 hWW hb0
 go_cut [30] from 7 to 30 (fun v wx=>v=.bool G1/\Hid (Below WW.heap.size WW wx))
 case first=>
  clear hcw hR1 hR2 fQ eU dE hlp cw bU bV bX h38 h39
  cases U with
  | false=>
   have hg:Hid (G1=true):=eh.out rfl
   clear eh cY ei
   refine wp_region_held_drew (S:=(STi w cs d)) (by kernel_rfl) hSW (fun aI=>?_)
   refine tk 0 (.pointer (some ⟨w.heap.size,0,none⟩)) rfl aI ?_
   simp only[pz]
   refine tk 1 (.int .i64 d.s.ru) rfl aI ?_
   simp only[pz]
   refine rdy 2 rfl (fun K hK=>?_)
   go_simp
   refine(h34.out _ hbW.out.drew).mono ?_
   rintro e w5 ⟨rfl,hb5⟩
   have H5:(STi w cs d) w5:=⟨zac ((World.rangeAt_drew _ _ _ _).2 hSW.1) hb5 hsT,(hb5.cell (by exact hsT)).trans hSW.2.1,(hb5.cell (by exact hsT)).trans hSW.2.2.1,(hb5.cell (by exact hsT)).trans hSW.2.2.2.1,(hb5.cell (by exact hsT)).trans hSW.2.2.2.2.1,(hb5.cell (by exact hsT)).trans hSW.2.2.2.2.2⟩
   have hs5:w.heap.size<w5.heap.size:=Nat.lt_of_lt_of_le hsT hb5.size
   have hw5:Hid (Below w.heap.size w w5):=hbW.out.drew.trans (hb5.mono hbW.out.drew.size)
   have hT5:Hid (Below WW.heap.size WW w5):=(Below.refl _ _).drew.trans hb5
   refine hK.out _ _ H5 (fun al=>?_)
   clear hK K aI
   refine tk 3 (.bool false) rfl al ?_
   simp only[pz]
   refine tk 4 (.bool false) rfl al ?_
   simp only[pz]
   refine wpAnyH_take (i:=5) (v:=.agg cs.toArray) rfl (by kernel_rfl) (by kernel_rfl) (by kernel_rfl) (fun _ _ _ h=>h) (yieldsIf_load_mid (by kernel_rfl) 32 (.tmp 1) rfl w.heap.size 0 (by kernel_rfl) cs dst (fun z hz=>hz.1) cX.out cM (by rw[lx.out];exact zcd)) al ?_
   simp only[pz]
   refine rdy 6 rfl (fun K hK=>?_)
   go_simp
   refine(eW.out _ hw5.out).mono ?_
   rintro e w6 ⟨rfl,hb6⟩
   have H6:(STi w cs d) w6:=⟨zac H5.1 hb6 hs5,(hb6.cell (by exact hs5)).trans H5.2.1,(hb6.cell (by exact hs5)).trans H5.2.2.1,(hb6.cell (by exact hs5)).trans H5.2.2.2.1,(hb6.cell (by exact hs5)).trans H5.2.2.2.2.1,(hb6.cell (by exact hs5)).trans H5.2.2.2.2.2⟩
   have hs6:w.heap.size<w6.heap.size:=Nat.lt_of_lt_of_le hs5 hb6.size
   have hw6:Hid (Below w.heap.size w w6):=hw5.out.trans (hb6.mono hw5.out.size)
   have hT6:Hid (Below WW.heap.size WW w6):=hT5.out.trans (hb6.mono hT5.out.size)
   refine hK.out _ _ H6 (fun ak=>?_)
   clear hK K al
   refine tk 7 (.bool true) rfl ak ?_
   simp only[pz]
   refine tk 8 (.bool true) rfl ak ?_
   simp only[pz]
   refine tk 9 (.bool true) rfl ak ?_
   simp only[pz]
   refine wpAnyH_take (i:=10) (v:=undef) rfl (by kernel_rfl) (by kernel_rfl) (by kernel_rfl) (fun _ _ _ h=>h) (.inr ⟨by kernel_rfl,rfl⟩) ak ?_
   simp only[pz]
   refine wpAnyH_take (i:=11) (v:=undef) rfl (by kernel_rfl) (by kernel_rfl) (by kernel_rfl) (fun _ _ _ h=>h) (.inr ⟨by kernel_rfl,rfl⟩) ak ?_
   simp only[pz]
   refine wpAnyH_take (i:=12) (v:=undef) rfl (by kernel_rfl) (by kernel_rfl) (by kernel_rfl) (fun _ _ _ h=>h) (.inr ⟨by kernel_rfl,rfl⟩) ak ?_
   simp only[pz]
   refine wpAnyH_take (i:=13) (v:=undef) rfl (by kernel_rfl) (by kernel_rfl) (by kernel_rfl) (fun _ _ _ h=>h) (.inr ⟨by kernel_rfl,rfl⟩) ak ?_
   simp only[pz]
   refine wpAnyH_take (i:=14) (v:=undef) rfl (by kernel_rfl) (by kernel_rfl) (by kernel_rfl) (fun _ _ _ h=>h) (.inr ⟨by kernel_rfl,rfl⟩) ak ?_
   simp only[pz]
   refine wpAnyH_take (i:=15) (v:=undef) rfl (by kernel_rfl) (by kernel_rfl) (by kernel_rfl) (fun _ _ _ h=>h) (.inr ⟨by kernel_rfl,rfl⟩) ak ?_
   simp only[pz]
   refine wpAnyH_take (i:=16) (v:=undef) rfl (by kernel_rfl) (by kernel_rfl) (by kernel_rfl) (fun _ _ _ h=>h) (.inr ⟨by kernel_rfl,rfl⟩) ak ?_
   simp only[pz]
   refine wpAnyH_take (i:=17) (v:=undef) rfl (by kernel_rfl) (by kernel_rfl) (by kernel_rfl) (fun _ _ _ h=>h) (.inr ⟨by kernel_rfl,rfl⟩) ak ?_
   simp only[pz]
   refine tk 18 (.bool true) rfl ak ?_
   simp only[pz]
   refine tk 19 (.bool true) rfl ak ?_
   simp only[pz]
   refine wpAnyH_take (i:=20) (v:=undef) rfl (by kernel_rfl) (by kernel_rfl) (by kernel_rfl) (fun _ _ _ h=>h) (.inr ⟨by kernel_rfl,rfl⟩) ak ?_
   simp only[pz]
   refine wpAnyH_take (i:=21) (v:=undef) rfl (by kernel_rfl) (by kernel_rfl) (by kernel_rfl) (fun _ _ _ h=>h) (.inr ⟨by kernel_rfl,rfl⟩) ak ?_
   simp only[pz]
   refine wpAnyH_take (i:=22) (v:=undef) rfl (by kernel_rfl) (by kernel_rfl) (by kernel_rfl) (fun _ _ _ h=>h) (.inr ⟨by kernel_rfl,rfl⟩) ak ?_
   simp only[pz]
   refine tk 23 (.bool true) rfl ak ?_
   simp only[pz]
   refine wpAnyH_done (by kernel_rfl) ?_ _
   clear ak
   go_wp2_with fail
   go_meet
   case rel=>exact⟨by rw[hg.out],hT6⟩
  | true=>
   by_cases hk:(d.kin:Int)=q.k
   ·have hg:Hid (G1=L):=ei.out rfl hk
    have hkk:((d.kin:Int) != q.k)=false:=by simp[hk]
    clear eh cY ei hk
    refine wp_region_held_drew (S:=(STi w cs d)) (by kernel_rfl) hSW (fun aI=>?_)
    refine tk 0 (.pointer (some ⟨w.heap.size,0,none⟩)) rfl aI ?_
    simp only[pz]
    refine tk 1 (.int .i64 d.s.ru) rfl aI ?_
    simp only[pz]
    refine rdy 2 rfl (fun K hK=>?_)
    go_simp
    refine(h34.out _ hbW.out.drew).mono ?_
    rintro e w5 ⟨rfl,hb5⟩
    have H5:(STi w cs d) w5:=⟨zac ((World.rangeAt_drew _ _ _ _).2 hSW.1) hb5 hsT,(hb5.cell (by exact hsT)).trans hSW.2.1,(hb5.cell (by exact hsT)).trans hSW.2.2.1,(hb5.cell (by exact hsT)).trans hSW.2.2.2.1,(hb5.cell (by exact hsT)).trans hSW.2.2.2.2.1,(hb5.cell (by exact hsT)).trans hSW.2.2.2.2.2⟩
    have hs5:w.heap.size<w5.heap.size:=Nat.lt_of_lt_of_le hsT hb5.size
    have hw5:Hid (Below w.heap.size w w5):=hbW.out.drew.trans (hb5.mono hbW.out.drew.size)
    have hT5:Hid (Below WW.heap.size WW w5):=(Below.refl _ _).drew.trans hb5
    refine hK.out _ _ H5 (fun al=>?_)
    clear hK K aI
    refine tk 3 (.bool false) rfl al ?_
    simp only[pz]
    refine tk 4 (.bool false) rfl al ?_
    simp only[pz]
    refine wpAnyH_take (i:=5) (v:=.agg cs.toArray) rfl (by kernel_rfl) (by kernel_rfl) (by kernel_rfl) (fun _ _ _ h=>h) (yieldsIf_load_mid (by kernel_rfl) 32 (.tmp 1) rfl w.heap.size 0 (by kernel_rfl) cs dst (fun z hz=>hz.1) cX.out cM (by rw[lx.out];exact zcd)) al ?_
    simp only[pz]
    refine rdy 6 rfl (fun K hK=>?_)
    go_simp
    refine(eW.out _ hw5.out).mono ?_
    rintro e w6 ⟨rfl,hb6⟩
    have H6:(STi w cs d) w6:=⟨zac H5.1 hb6 hs5,(hb6.cell (by exact hs5)).trans H5.2.1,(hb6.cell (by exact hs5)).trans H5.2.2.1,(hb6.cell (by exact hs5)).trans H5.2.2.2.1,(hb6.cell (by exact hs5)).trans H5.2.2.2.2.1,(hb6.cell (by exact hs5)).trans H5.2.2.2.2.2⟩
    have hs6:w.heap.size<w6.heap.size:=Nat.lt_of_lt_of_le hs5 hb6.size
    have hw6:Hid (Below w.heap.size w w6):=hw5.out.trans (hb6.mono hw5.out.size)
    have hT6:Hid (Below WW.heap.size WW w6):=hT5.out.trans (hb6.mono hT5.out.size)
    refine hK.out _ _ H6 (fun ak=>?_)
    clear hK K al
    refine tk 7 (.bool false) rfl ak ?_
    simp only[pz]
    refine tk 8 (.bool false) rfl ak ?_
    simp only[pz]
    refine tk 9 (.bool false) rfl ak ?_
    simp only[pz]
    refine tk 10 (.pointer (some ⟨w.heap.size,20,none⟩)) rfl ak ?_
    simp only[pz]
    refine tk 11 (.slice d.kiq d.kin d.kic) rfl ak ?_
    simp only[pz]
    refine tk 12 (.int .i64 d.kin) rfl ak ?_
    simp only[pz]
    refine tk 13 (.pointer (some ⟨w.heap.size,0,none⟩)) rfl ak ?_
    simp only[pz]
    refine tk 14 (.int .i64 d.s.ru) rfl ak ?_
    simp only[pz]
    refine rdy 15 rfl (fun K hK=>?_)
    go_simp
    refine(h36.out _ hw6.out).mono ?_
    rintro e w7 ⟨rfl,hb7⟩
    have H7:(STi w cs d) w7:=⟨zac H6.1 hb7 hs6,(hb7.cell (by exact hs6)).trans H6.2.1,(hb7.cell (by exact hs6)).trans H6.2.2.1,(hb7.cell (by exact hs6)).trans H6.2.2.2.1,(hb7.cell (by exact hs6)).trans H6.2.2.2.2.1,(hb7.cell (by exact hs6)).trans H6.2.2.2.2.2⟩
    have hs7:w.heap.size<w7.heap.size:=Nat.lt_of_lt_of_le hs6 hb7.size
    have hw7:Hid (Below w.heap.size w w7):=hw6.out.trans (hb7.mono hw6.out.size)
    have hT7:Hid (Below WW.heap.size WW w7):=hT6.out.trans (hb7.mono hT6.out.size)
    refine hK.out _ _ H7 (fun aM=>?_)
    clear hK K ak
    refine tk 16 (.int .i64 q.k) rfl aM ?_
    simp only[pz]
    refine tk 17 (.bool false) rfl aM ?_
    simp only[pz]
    refine tk 18 (.bool false) rfl aM ?_
    simp only[pz]
    refine tk 19 (.bool false) rfl aM ?_
    simp only[pz]
    refine tk 20 (.pointer (some ⟨w.heap.size,3,none⟩)) rfl aM ?_
    simp only[pz]
    refine tk 21 (.agg #[.bool d.s.g,.slice d.aq d.an d.ac,.slice d.cq d.cn d.cc]) rfl aM ?_
    simp only[pz]
    refine rdy 22 rfl (fun K hK=>?_)
    go_simp
    refine(h37.out _ hw7.out).mono ?_
    rintro e w8 ⟨rfl,hb8⟩
    have H8:(STi w cs d) w8:=⟨zac H7.1 hb8 hs7,(hb8.cell (by exact hs7)).trans H7.2.1,(hb8.cell (by exact hs7)).trans H7.2.2.1,(hb8.cell (by exact hs7)).trans H7.2.2.2.1,(hb8.cell (by exact hs7)).trans H7.2.2.2.2.1,(hb8.cell (by exact hs7)).trans H7.2.2.2.2.2⟩
    have hs8:w.heap.size<w8.heap.size:=Nat.lt_of_lt_of_le hs7 hb8.size
    have hw8:Hid (Below w.heap.size w w8):=hw7.out.trans (hb8.mono hw7.out.size)
    have hT8:Hid (Below WW.heap.size WW w8):=hT7.out.trans (hb8.mono hT7.out.size)
    refine hK.out _ _ H8 (fun ej=>?_)
    clear hK K aM
    refine tk 23 (.bool L) rfl ej ?_
    simp only[pz]
    refine wpAnyH_done (by kernel_rfl) ?_ _
    clear ej
    go_wp2_with fail
    go_meet
    case rel=>exact⟨by rw[hg.out],hT8⟩
   ·have hg:Hid (G1=true):=cY.out hk
    have hkk:((d.kin:Int) != q.k)=true:=by simp[hk]
    clear eh cY ei hk
    refine wp_region_held_drew (S:=(STi w cs d)) (by kernel_rfl) hSW (fun aI=>?_)
    refine tk 0 (.pointer (some ⟨w.heap.size,0,none⟩)) rfl aI ?_
    simp only[pz]
    refine tk 1 (.int .i64 d.s.ru) rfl aI ?_
    simp only[pz]
    refine rdy 2 rfl (fun K hK=>?_)
    go_simp
    refine(h34.out _ hbW.out.drew).mono ?_
    rintro e w5 ⟨rfl,hb5⟩
    have H5:(STi w cs d) w5:=⟨zac ((World.rangeAt_drew _ _ _ _).2 hSW.1) hb5 hsT,(hb5.cell (by exact hsT)).trans hSW.2.1,(hb5.cell (by exact hsT)).trans hSW.2.2.1,(hb5.cell (by exact hsT)).trans hSW.2.2.2.1,(hb5.cell (by exact hsT)).trans hSW.2.2.2.2.1,(hb5.cell (by exact hsT)).trans hSW.2.2.2.2.2⟩
    have hs5:w.heap.size<w5.heap.size:=Nat.lt_of_lt_of_le hsT hb5.size
    have hw5:Hid (Below w.heap.size w w5):=hbW.out.drew.trans (hb5.mono hbW.out.drew.size)
    have hT5:Hid (Below WW.heap.size WW w5):=(Below.refl _ _).drew.trans hb5
    refine hK.out _ _ H5 (fun al=>?_)
    clear hK K aI
    refine tk 3 (.bool false) rfl al ?_
    simp only[pz]
    refine tk 4 (.bool false) rfl al ?_
    simp only[pz]
    refine wpAnyH_take (i:=5) (v:=.agg cs.toArray) rfl (by kernel_rfl) (by kernel_rfl) (by kernel_rfl) (fun _ _ _ h=>h) (yieldsIf_load_mid (by kernel_rfl) 32 (.tmp 1) rfl w.heap.size 0 (by kernel_rfl) cs dst (fun z hz=>hz.1) cX.out cM (by rw[lx.out];exact zcd)) al ?_
    simp only[pz]
    refine rdy 6 rfl (fun K hK=>?_)
    go_simp
    refine(eW.out _ hw5.out).mono ?_
    rintro e w6 ⟨rfl,hb6⟩
    have H6:(STi w cs d) w6:=⟨zac H5.1 hb6 hs5,(hb6.cell (by exact hs5)).trans H5.2.1,(hb6.cell (by exact hs5)).trans H5.2.2.1,(hb6.cell (by exact hs5)).trans H5.2.2.2.1,(hb6.cell (by exact hs5)).trans H5.2.2.2.2.1,(hb6.cell (by exact hs5)).trans H5.2.2.2.2.2⟩
    have hs6:w.heap.size<w6.heap.size:=Nat.lt_of_lt_of_le hs5 hb6.size
    have hw6:Hid (Below w.heap.size w w6):=hw5.out.trans (hb6.mono hw5.out.size)
    have hT6:Hid (Below WW.heap.size WW w6):=hT5.out.trans (hb6.mono hT5.out.size)
    refine hK.out _ _ H6 (fun ak=>?_)
    clear hK K al
    refine tk 7 (.bool false) rfl ak ?_
    simp only[pz]
    refine tk 8 (.bool false) rfl ak ?_
    simp only[pz]
    refine tk 9 (.bool false) rfl ak ?_
    simp only[pz]
    refine tk 10 (.pointer (some ⟨w.heap.size,20,none⟩)) rfl ak ?_
    simp only[pz]
    refine tk 11 (.slice d.kiq d.kin d.kic) rfl ak ?_
    simp only[pz]
    refine tk 12 (.int .i64 d.kin) rfl ak ?_
    simp only[pz]
    refine tk 13 (.pointer (some ⟨w.heap.size,0,none⟩)) rfl ak ?_
    simp only[pz]
    refine tk 14 (.int .i64 d.s.ru) rfl ak ?_
    simp only[pz]
    refine rdy 15 rfl (fun K hK=>?_)
    go_simp
    refine(h36.out _ hw6.out).mono ?_
    rintro e w7 ⟨rfl,hb7⟩
    have H7:(STi w cs d) w7:=⟨zac H6.1 hb7 hs6,(hb7.cell (by exact hs6)).trans H6.2.1,(hb7.cell (by exact hs6)).trans H6.2.2.1,(hb7.cell (by exact hs6)).trans H6.2.2.2.1,(hb7.cell (by exact hs6)).trans H6.2.2.2.2.1,(hb7.cell (by exact hs6)).trans H6.2.2.2.2.2⟩
    have hs7:w.heap.size<w7.heap.size:=Nat.lt_of_lt_of_le hs6 hb7.size
    have hw7:Hid (Below w.heap.size w w7):=hw6.out.trans (hb7.mono hw6.out.size)
    have hT7:Hid (Below WW.heap.size WW w7):=hT6.out.trans (hb7.mono hT6.out.size)
    refine hK.out _ _ H7 (fun aM=>?_)
    clear hK K ak
    refine tk 16 (.int .i64 q.k) rfl aM ?_
    simp only[pz]
    refine tk 17 (.bool true) rfl aM ?_
    simp only[pz]
    refine tk 18 (.bool true) rfl aM ?_
    simp only[pz]
    refine tk 19 (.bool true) rfl aM ?_
    simp only[pz]
    refine wpAnyH_take (i:=20) (v:=undef) rfl (by kernel_rfl) (by kernel_rfl) (by kernel_rfl) (fun _ _ _ h=>h) (.inr ⟨by kernel_rfl,rfl⟩) aM ?_
    simp only[pz]
    refine wpAnyH_take (i:=21) (v:=undef) rfl (by kernel_rfl) (by kernel_rfl) (by kernel_rfl) (fun _ _ _ h=>h) (.inr ⟨by kernel_rfl,rfl⟩) aM ?_
    simp only[pz]
    refine wpAnyH_take (i:=22) (v:=undef) rfl (by kernel_rfl) (by kernel_rfl) (by kernel_rfl) (fun _ _ _ h=>h) (.inr ⟨by kernel_rfl,rfl⟩) aM ?_
    simp only[pz]
    refine tk 23 (.bool true) rfl aM ?_
    simp only[pz]
    refine wpAnyH_done (by kernel_rfl) ?_ _
    clear aM
    go_wp2_with fail
    go_meet
    case rel=>exact⟨by rw[hg.out],hT7⟩
 case rest=>
  obtain⟨rfl,hbc⟩:=hcut
  have aG:Hid (Below w.heap.size w wc):=hbW.out.trans (hbc.out.mono hbW.out.size)
  clear hSW eh cY ei h34 h35 eW h36 h37 hne hfd
  cases G1 with
  | true=>
   have hRf:=fQ.out rfl
   subst hRf
   go_wp2_with fail
   go_ret
   exact⟨rfl,aG.out⟩
  | false=>
   have fR:Hid (G2=false->(∀j,j<d.pon->ptB (ps j)=true)->(∀j,j<d.arn->bdB (bs j)=true)->R=true):=dE.out rfl
   clear dE fQ
   have hs0:w.heap.size<WW.heap.size:=hsT
   have x0:=(hcw.out _ hbc.out).1
   have x9:=(hcw.out _ hbc.out).2.1
   have x10:=(hcw.out _ hbc.out).2.2.1
   have x11:=(hcw.out _ hbc.out).2.2.2.1
   have x12:=(hcw.out _ hbc.out).2.2.2.2.1
   have x13:=(hcw.out _ hbc.out).2.2.2.2.2.1
   have x14:=(hcw.out _ hbc.out).2.2.2.2.2.2.1
   have x15:=(hcw.out _ hbc.out).2.2.2.2.2.2.2.1
   have x16:=(hcw.out _ hbc.out).2.2.2.2.2.2.2.2.1
   have x19:=(hcw.out _ hbc.out).2.2.2.2.2.2.2.2.2
   have hs1:w.heap.size<wc.heap.size:=Nat.lt_of_lt_of_le hs0 hbc.out.size
   clear hbc hsT hcw
   obtain⟨W1,rfl⟩:∃z,z=wc:=⟨_,rfl⟩
   go_upto_region 3 with fail
   go_cut [51] from 31 to 51 (fun v wx=>v=.bool G2/\Hid (Below W1.heap.size W1 wx))
   case first=>
    clear hR1 hR2 eU fR hlp
    cases UE with
    | true=>
     cases V with
     | false=>
      have hg:Hid (G2=true):=cw.out rfl rfl
      clear cw bU bV bX
      go_wp2_with (first
       | (go_at_call 54;with_reducible refine(h38.out _).mono ?_;rintro e w6 ⟨rfl,ah⟩
          have y9:=(ah.cell (p:=⟨w.heap.size,9,none⟩) (by exact hs1)).trans x9
          have y10:=(ah.cell (p:=⟨w.heap.size,10,none⟩) (by exact hs1)).trans x10
          have y11:=(ah.cell (p:=⟨w.heap.size,11,none⟩) (by exact hs1)).trans x11
          have y12:=(ah.cell (p:=⟨w.heap.size,12,none⟩) (by exact hs1)).trans x12
          have y13:=(ah.cell (p:=⟨w.heap.size,13,none⟩) (by exact hs1)).trans x13
          have y14:=(ah.cell (p:=⟨w.heap.size,14,none⟩) (by exact hs1)).trans x14
          have y15:=(ah.cell (p:=⟨w.heap.size,15,none⟩) (by exact hs1)).trans x15
          have y16:=(ah.cell (p:=⟨w.heap.size,16,none⟩) (by exact hs1)).trans x16
          have y19:=(ah.cell (p:=⟨w.heap.size,19,none⟩) (by exact hs1)).trans x19
          have hs6:w.heap.size<w6.heap.size:=Nat.lt_of_lt_of_le hs1 ah.size
          have hb6:Hid (Below W1.heap.size W1 w6):=ah
          clear ah x9 x10 x11 x12 x13 x14 x15 x16 x19)
       | (go_at_call 102;with_reducible refine(h39.out _ (aG.out.trans (hb6.out.mono aG.out.size))).mono ?_;rintro e w7 ⟨rfl,hb7⟩))
      go_meet
      case rel=>exact⟨by rw[hg.out],hb6.out.trans (hb7.mono hb6.out.size)⟩
     | true=>
      by_cases p6:d.pon<=6
      ·have p6':¬(d.pon:Int) > 6:=by omega
       by_cases a6:d.arn<=6
       ·have a6':¬(d.arn:Int) > 6:=by omega
        have hg:Hid (G2=false):=bX.out (.inr rfl) p6 a6
        clear cw bU bV bX p6 a6
        go_wp2_with (first
         | (go_at_call 54;with_reducible refine(h38.out _).mono ?_;rintro e w6 ⟨rfl,ah⟩
            have y9:=(ah.cell (p:=⟨w.heap.size,9,none⟩) (by exact hs1)).trans x9
            have y10:=(ah.cell (p:=⟨w.heap.size,10,none⟩) (by exact hs1)).trans x10
            have y11:=(ah.cell (p:=⟨w.heap.size,11,none⟩) (by exact hs1)).trans x11
            have y12:=(ah.cell (p:=⟨w.heap.size,12,none⟩) (by exact hs1)).trans x12
            have y13:=(ah.cell (p:=⟨w.heap.size,13,none⟩) (by exact hs1)).trans x13
            have y14:=(ah.cell (p:=⟨w.heap.size,14,none⟩) (by exact hs1)).trans x14
            have y15:=(ah.cell (p:=⟨w.heap.size,15,none⟩) (by exact hs1)).trans x15
            have y16:=(ah.cell (p:=⟨w.heap.size,16,none⟩) (by exact hs1)).trans x16
            have y19:=(ah.cell (p:=⟨w.heap.size,19,none⟩) (by exact hs1)).trans x19
            have hs6:w.heap.size<w6.heap.size:=Nat.lt_of_lt_of_le hs1 ah.size
            have hb6:Hid (Below W1.heap.size W1 w6):=ah
            clear ah x9 x10 x11 x12 x13 x14 x15 x16 x19)
         | (go_at_call 102;with_reducible refine(h39.out _ (aG.out.trans (hb6.out.mono aG.out.size))).mono ?_;rintro e w7 ⟨rfl,hb7⟩
            have v16:=(hb7.cell (p:=⟨w.heap.size,16,none⟩) (by exact hs6)).trans y16
            have v19:=(hb7.cell (p:=⟨w.heap.size,19,none⟩) (by exact hs6)).trans y19
            have hb8:Hid (Below W1.heap.size W1 w7):=hb6.out.trans (hb7.mono hb6.out.size)
            clear hb7 y16 y19))
        go_meet
        case rel=>
         refine⟨?_,hb8⟩
         rw[hg.out]
         congr 1
         rw[decide_eq_false (by omega),decide_eq_false (by omega)]
         rfl
       ·have a6':(d.arn:Int) > 6:=by omega
        have hg:Hid (G2=true):=bV.out a6
        clear cw bU bV bX p6 a6
        go_wp2_with (first
         | (go_at_call 54;with_reducible refine(h38.out _).mono ?_;rintro e w6 ⟨rfl,ah⟩
            have y9:=(ah.cell (p:=⟨w.heap.size,9,none⟩) (by exact hs1)).trans x9
            have y10:=(ah.cell (p:=⟨w.heap.size,10,none⟩) (by exact hs1)).trans x10
            have y11:=(ah.cell (p:=⟨w.heap.size,11,none⟩) (by exact hs1)).trans x11
            have y12:=(ah.cell (p:=⟨w.heap.size,12,none⟩) (by exact hs1)).trans x12
            have y13:=(ah.cell (p:=⟨w.heap.size,13,none⟩) (by exact hs1)).trans x13
            have y14:=(ah.cell (p:=⟨w.heap.size,14,none⟩) (by exact hs1)).trans x14
            have y15:=(ah.cell (p:=⟨w.heap.size,15,none⟩) (by exact hs1)).trans x15
            have y16:=(ah.cell (p:=⟨w.heap.size,16,none⟩) (by exact hs1)).trans x16
            have y19:=(ah.cell (p:=⟨w.heap.size,19,none⟩) (by exact hs1)).trans x19
            have hs6:w.heap.size<w6.heap.size:=Nat.lt_of_lt_of_le hs1 ah.size
            have hb6:Hid (Below W1.heap.size W1 w6):=ah
            clear ah x9 x10 x11 x12 x13 x14 x15 x16 x19)
         | (go_at_call 102;with_reducible refine(h39.out _ (aG.out.trans (hb6.out.mono aG.out.size))).mono ?_;rintro e w7 ⟨rfl,hb7⟩
            have v16:=(hb7.cell (p:=⟨w.heap.size,16,none⟩) (by exact hs6)).trans y16
            have v19:=(hb7.cell (p:=⟨w.heap.size,19,none⟩) (by exact hs6)).trans y19
            have hb8:Hid (Below W1.heap.size W1 w7):=hb6.out.trans (hb7.mono hb6.out.size)
            clear hb7 y16 y19))
        go_meet
        case rel=>exact⟨by rw[hg.out],hb8⟩
      ·have p6':(d.pon:Int) > 6:=by omega
       have hg:Hid (G2=true):=bU.out p6
       clear cw bU bV bX p6
       go_wp2_with (first
        | (go_at_call 54;with_reducible refine(h38.out _).mono ?_;rintro e w6 ⟨rfl,ah⟩
           have y9:=(ah.cell (p:=⟨w.heap.size,9,none⟩) (by exact hs1)).trans x9
           have y10:=(ah.cell (p:=⟨w.heap.size,10,none⟩) (by exact hs1)).trans x10
           have y11:=(ah.cell (p:=⟨w.heap.size,11,none⟩) (by exact hs1)).trans x11
           have y12:=(ah.cell (p:=⟨w.heap.size,12,none⟩) (by exact hs1)).trans x12
           have y13:=(ah.cell (p:=⟨w.heap.size,13,none⟩) (by exact hs1)).trans x13
           have y14:=(ah.cell (p:=⟨w.heap.size,14,none⟩) (by exact hs1)).trans x14
           have y15:=(ah.cell (p:=⟨w.heap.size,15,none⟩) (by exact hs1)).trans x15
           have y16:=(ah.cell (p:=⟨w.heap.size,16,none⟩) (by exact hs1)).trans x16
           have y19:=(ah.cell (p:=⟨w.heap.size,19,none⟩) (by exact hs1)).trans x19
           have hs6:w.heap.size<w6.heap.size:=Nat.lt_of_lt_of_le hs1 ah.size
           have hb6:Hid (Below W1.heap.size W1 w6):=ah
           clear ah x9 x10 x11 x12 x13 x14 x15 x16 x19)
        | (go_at_call 102;with_reducible refine(h39.out _ (aG.out.trans (hb6.out.mono aG.out.size))).mono ?_;rintro e w7 ⟨rfl,hb7⟩
           have v16:=(hb7.cell (p:=⟨w.heap.size,16,none⟩) (by exact hs6)).trans y16
           have v19:=(hb7.cell (p:=⟨w.heap.size,19,none⟩) (by exact hs6)).trans y19
           have hb8:Hid (Below W1.heap.size W1 w7):=hb6.out.trans (hb7.mono hb6.out.size)
           clear hb7 y16 y19))
       go_meet
       case rel=>exact⟨by rw[hg.out],hb8⟩
    | false=>
     by_cases p6:d.pon<=6
     ·have p6':¬(d.pon:Int) > 6:=by omega
      by_cases a6:d.arn<=6
      ·have a6':¬(d.arn:Int) > 6:=by omega
       have hg:Hid (G2=false):=bX.out (.inl rfl) p6 a6
       clear cw bU bV bX p6 a6
       go_wp2_with (first
        | (go_at_call 54;with_reducible refine(h38.out _).mono ?_;rintro e w6 ⟨rfl,ah⟩
           have y9:=(ah.cell (p:=⟨w.heap.size,9,none⟩) (by exact hs1)).trans x9
           have y10:=(ah.cell (p:=⟨w.heap.size,10,none⟩) (by exact hs1)).trans x10
           have y11:=(ah.cell (p:=⟨w.heap.size,11,none⟩) (by exact hs1)).trans x11
           have y12:=(ah.cell (p:=⟨w.heap.size,12,none⟩) (by exact hs1)).trans x12
           have y13:=(ah.cell (p:=⟨w.heap.size,13,none⟩) (by exact hs1)).trans x13
           have y14:=(ah.cell (p:=⟨w.heap.size,14,none⟩) (by exact hs1)).trans x14
           have y15:=(ah.cell (p:=⟨w.heap.size,15,none⟩) (by exact hs1)).trans x15
           have y16:=(ah.cell (p:=⟨w.heap.size,16,none⟩) (by exact hs1)).trans x16
           have y19:=(ah.cell (p:=⟨w.heap.size,19,none⟩) (by exact hs1)).trans x19
           have hs6:w.heap.size<w6.heap.size:=Nat.lt_of_lt_of_le hs1 ah.size
           have hb6:Hid (Below W1.heap.size W1 w6):=ah
           clear ah x9 x10 x11 x12 x13 x14 x15 x16 x19)
        | fail)
       go_meet
       case rel=>
        refine⟨?_,hb6⟩
        rw[hg.out]
        congr 1
        rw[decide_eq_false (by omega),decide_eq_false (by omega)]
        rfl
      ·have a6':(d.arn:Int) > 6:=by omega
       have hg:Hid (G2=true):=bV.out a6
       clear cw bU bV bX p6 a6
       go_wp2_with (first
        | (go_at_call 54;with_reducible refine(h38.out _).mono ?_;rintro e w6 ⟨rfl,ah⟩
           have y9:=(ah.cell (p:=⟨w.heap.size,9,none⟩) (by exact hs1)).trans x9
           have y10:=(ah.cell (p:=⟨w.heap.size,10,none⟩) (by exact hs1)).trans x10
           have y11:=(ah.cell (p:=⟨w.heap.size,11,none⟩) (by exact hs1)).trans x11
           have y12:=(ah.cell (p:=⟨w.heap.size,12,none⟩) (by exact hs1)).trans x12
           have y13:=(ah.cell (p:=⟨w.heap.size,13,none⟩) (by exact hs1)).trans x13
           have y14:=(ah.cell (p:=⟨w.heap.size,14,none⟩) (by exact hs1)).trans x14
           have y15:=(ah.cell (p:=⟨w.heap.size,15,none⟩) (by exact hs1)).trans x15
           have y16:=(ah.cell (p:=⟨w.heap.size,16,none⟩) (by exact hs1)).trans x16
           have y19:=(ah.cell (p:=⟨w.heap.size,19,none⟩) (by exact hs1)).trans x19
           have hs6:w.heap.size<w6.heap.size:=Nat.lt_of_lt_of_le hs1 ah.size
           have hb6:Hid (Below W1.heap.size W1 w6):=ah
           clear ah x9 x10 x11 x12 x13 x14 x15 x16 x19)
        | fail)
       go_meet
       case rel=>exact⟨by rw[hg.out],hb6⟩
     ·have p6':(d.pon:Int) > 6:=by omega
      have hg:Hid (G2=true):=bU.out p6
      clear cw bU bV bX p6
      go_wp2_with (first
       | (go_at_call 54;with_reducible refine(h38.out _).mono ?_;rintro e w6 ⟨rfl,ah⟩
          have y9:=(ah.cell (p:=⟨w.heap.size,9,none⟩) (by exact hs1)).trans x9
          have y10:=(ah.cell (p:=⟨w.heap.size,10,none⟩) (by exact hs1)).trans x10
          have y11:=(ah.cell (p:=⟨w.heap.size,11,none⟩) (by exact hs1)).trans x11
          have y12:=(ah.cell (p:=⟨w.heap.size,12,none⟩) (by exact hs1)).trans x12
          have y13:=(ah.cell (p:=⟨w.heap.size,13,none⟩) (by exact hs1)).trans x13
          have y14:=(ah.cell (p:=⟨w.heap.size,14,none⟩) (by exact hs1)).trans x14
          have y15:=(ah.cell (p:=⟨w.heap.size,15,none⟩) (by exact hs1)).trans x15
          have y16:=(ah.cell (p:=⟨w.heap.size,16,none⟩) (by exact hs1)).trans x16
          have y19:=(ah.cell (p:=⟨w.heap.size,19,none⟩) (by exact hs1)).trans x19
          have hs6:w.heap.size<w6.heap.size:=Nat.lt_of_lt_of_le hs1 ah.size
          have hb6:Hid (Below W1.heap.size W1 w6):=ah
          clear ah x9 x10 x11 x12 x13 x14 x15 x16 x19)
       | fail)
      go_meet
      case rel=>exact⟨by rw[hg.out],hb6⟩
   case rest=>
    obtain⟨rfl,hbc⟩:=hcut
    cases G2 with
    | true=>
     have hRf:=eU.out rfl
     subst hRf
     go_wp2_with fail
     go_ret
     exact⟨rfl,aG.out.trans (hbc.out.mono aG.out.size)⟩
    | false=>
     have hR3:Hid ((∀j,j<d.pon->ptB (ps j)=true)->(∀j,j<d.arn->bdB (bs j)=true)->R=true):=fR.out rfl
     clear fR eU cw bU bV bX
     have y16:=(hbc.out.cell (p:=⟨w.heap.size,16,none⟩) (by exact hs1)).trans x16
     have y19:=(hbc.out.cell (p:=⟨w.heap.size,19,none⟩) (by exact hs1)).trans x19
     have hbw:Hid (Below w.heap.size w wc):=aG.out.trans (hbc.out.mono aG.out.size)
     have hsW:w.heap.size<wc.heap.size:=Nat.lt_of_lt_of_le hs1 hbc.out.size
     clear hbc x0 x9 x10 x11 x12 x13 x14 x15 x16 x19 h38 h39 aG hs0 hs1
     have x16:=y16
     have x19:=y19
     clear y16 y19
     obtain⟨W,rfl⟩:∃z,z=wc:=⟨_,rfl⟩
     go_wp2_with fail
     go_loopw [55] (fun v wr=>∃i:Nat,i<=d.pon/\v=.int .i64 i/\Hid (∀j,j<i->ptB (ps j)=true)/\Below W.heap.size W wr) (fun v _=>d.pon - (intOf v).toNat)
     case atStart=>exact⟨0,Nat.zero_le _,rfl,fun j hj=>by omega,Below.refl _ _⟩
     case round=>
      obtain⟨i,hi,rfl,hz,hbr⟩:=hrel
      have hW:Hid (Below w.heap.size w wr):=hbw.out.trans (hbr.mono hbw.out.size)
      by_cases hlt:i<d.pon
      ·have aF:(i:Int)<(d.pon:Int):=by omega
       have hpl:=hP'.out.1
       obtain⟨b,o,rfl,hbl,ds,hds⟩:=hP'.out.2.resolve_left (by omega)
       obtain⟨z0,z1,z2,z3⟩:=(hds i hlt).1.below hW.out hbl
       have hok:Hid (PtOk wr (ps i) (ds i)):=(hds i hlt).2.below hW.out
       have hb2:Hid (Below wr.heap.size wr (wr.alloc (.cells #[.string (ds i).m,.bool (ds i).g,.slice (ds i).aq (ds i).an (ds i).ac,.slice (ds i).cq (ds i).cn (ds i).cc] 68))):=zaa wr _
       have hcl:=hlp.out (ds i) (ps i) _ (hok.out.below hb2.out)
       have aJ:Hid (Below W.heap.size W wr):=hbr
       clear hbr hds x16 x19
       obtain⟨B,hB9⟩:∃B,Hid (ptB (ps i)=B):=⟨_,rfl⟩
       rw[hB9.out] at hcl
       cases B with
       | false=>
        have hRf:=hR1.out i hlt hB9.out
        subst hRf
        go_wp2_with (go_at_call 101;with_reducible refine hcl.mono ?_;rintro e w3 ⟨rfl,hb3⟩)
        go_ret
        exact⟨rfl,hW.out.trans ((hb2.out.trans (hb3.mono hb2.out.size)).mono hW.out.size)⟩
       | true=>
        have hz':Hid (∀j,j<i+1->ptB (ps j)=true):=fun j hj=>by
         rcases Nat.lt_or_ge j i with h | h
         ·exact hz.out j h
         ·have:j=i:=by omega
          subst this;exact hB9.out
        go_wp2_with (go_at_call 101;with_reducible refine hcl.mono ?_;rintro e w3 ⟨rfl,hb3⟩)
        go_roundw
        case rel=>exact⟨i+1,by omega,by go_num,hz',aJ.out.trans ((hb2.out.trans (hb3.mono hb2.out.size)).mono aJ.out.size)⟩
        case measure=>simp[intOf];omega
      ·obtain rfl:i=d.pon:=by omega
       have hR4:Hid ((∀j,j<d.arn->bdB (bs j)=true)->R=true):=hR3.out hz.out
       have y19:=(hbr.cell (p:=⟨w.heap.size,19,none⟩) (by exact hsW)).trans x19
       have aJ:Hid (Below W.heap.size W wr):=hbr
       clear x16 x19 hbr hz hR3
       obtain⟨W2,rfl⟩:∃z,z=wr:=⟨_,rfl⟩
       go_wp2_with fail
       go_loopw [66] (fun v wz=>∃i:Nat,i<=d.arn/\v=.int .i64 i/\Hid (∀j,j<i->bdB (bs j)=true)/\Below W2.heap.size W2 wz) (fun v _=>d.arn - (intOf v).toNat)
       case atStart=>exact⟨0,Nat.zero_le _,rfl,fun j hj=>by omega,Below.refl _ _⟩
       case round=>
        obtain⟨i,hi,rfl,hz,hbr⟩:=hrel
        have hW3:Hid (Below w.heap.size w wr):=hW.out.trans (hbr.mono hW.out.size)
        by_cases hlt:i<d.arn
        ·have aF:(i:Int)<(d.arn:Int):=by omega
         have hpl:=hB'.out.1
         obtain⟨b,o,rfl,hbl,ds,hds⟩:=hB'.out.2.resolve_left (by omega)
         obtain⟨z0,z1,z2,z3,z4,z5,z6,z7⟩:=(hds i hlt).1.below hW3.out hbl
         have hok:Hid (BdOk wr (bs i) (ds i)):=(hds i hlt).2.below hW3.out
         have hb2:Hid (Below wr.heap.size wr (wr.alloc (.cells #[.string (ds i).m,.int .i64 (ds i).ek,.int .i64 (ds i).ef,.bool (ds i).eg,.slice (ds i).eaq (ds i).ean (ds i).eac,.slice (ds i).ecq (ds i).ecn (ds i).ecc,.string (ds i).em,.slice (ds i).esq (ds i).esn (ds i).esc] 71))):=zaa wr _
         have hcl:=zfk (hok.out.2.below hb2.out)
         simp only[Bi.nd,Nd.val] at hcl
         have aJ:Hid (Below W2.heap.size W2 wr):=hbr
         clear hbr hds y19
         obtain⟨B,hB9⟩:∃B,Hid (bdB (bs i)=B):=⟨_,rfl⟩
         have hB8:((bs i).x.cnt 1 0).isSome=B:=hB9.out
         rw[hB8] at hcl
         clear hB8
         cases B with
         | false=>
          have hRf:=hR2.out i hlt hB9.out
          subst hRf
          go_wp2_with (go_at_call 102;with_reducible refine hcl.mono ?_;rintro e w3 ⟨rfl,hb3⟩)
          go_ret
          exact⟨rfl,hW3.out.trans ((hb2.out.trans (hb3.mono hb2.out.size)).mono hW3.out.size)⟩
         | true=>
          have hz':Hid (∀j,j<i+1->bdB (bs j)=true):=fun j hj=>by
           rcases Nat.lt_or_ge j i with h | h
           ·exact hz.out j h
           ·have:j=i:=by omega
            subst this;exact hB9.out
          go_wp2_with (go_at_call 102;with_reducible refine hcl.mono ?_;rintro e w3 ⟨rfl,hb3⟩)
          go_roundw
          case rel=>exact⟨i+1,by omega,by go_num,hz',aJ.out.trans ((hb2.out.trans (hb3.mono hb2.out.size)).mono aJ.out.size)⟩
          case measure=>simp[intOf];omega
        ·obtain rfl:i=d.arn:=by omega
         have hRt:=hR4.out hz.out
         subst hRt
         clear hz
         go_wp2_with fail
         go_ret
         exact⟨rfl,hW3.out⟩
end Go.Proofs.YtnnhofmknilopaaGreatDoor
