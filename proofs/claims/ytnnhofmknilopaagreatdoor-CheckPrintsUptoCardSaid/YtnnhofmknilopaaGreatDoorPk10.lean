import Derived.Deep.CutBlock
import Derived.Deep.CutRange
import Derived.Outline
import Derived.Laws.CopyOwn
import Derived.Test.YtnnhofmknilopaaGreatDoorPk09
namespace Go.Proofs.YtnnhofmknilopaaGreatDoor
open Go Go.RowKit
set_option maxRecDepth 100000
set_option maxHeartbeats 16000000
def SlN (g:Nat) (w:World) (v:Value) (xs:List Int):Prop:=
 Dig xs/\xs.length<=549755813888/\∃q cap,v=.slice q xs.length cap/\xs.length<=cap/\(xs=[]\/∃b o,q=some ⟨b,o,none⟩/\b<w.heap.size/\b≠g/\∀i,i<xs.length->w.cell? ⟨b,o+i,none⟩=some (.int .u32 (xs.getD i 0)))
theorem SlN.sl {g:Nat} {w:World} {v:Value} {xs:List Int} (h:SlN g w v xs):Sl w v xs:=by
 obtain⟨h1,h2,q,cap,h3,h4,h5⟩:=h
 refine⟨h1,h2,q,cap,h3,h4,h5.imp id ?_⟩
 rintro⟨b,o,e,hlt,_,hc⟩
 exact⟨b,o,e,hlt,hc⟩
theorem Sl.ne {w:World} {v:Value} {xs:List Int} (h:Sl w v xs) {w':World} {g:Nat} (hb:Below w.heap.size w w') (hg:w.heap.size<=g):SlN g w' v xs:=by
 obtain⟨h1,h2,q,cap,h3,h4,h5⟩:=h
 refine⟨h1,h2,q,cap,h3,h4,h5.imp id ?_⟩
 rintro⟨b,o,e,hlt,hc⟩
 exact⟨b,o,e,Nat.lt_of_lt_of_le hlt hb.size,by omega,fun i hi=>(hb.cell (by exact hlt)).trans (hc i hi)⟩
theorem SlN.sav {g:Nat} {w w':World} {v:Value} {xs:List Int} (h:SlN g w v xs) (hs:Sav g w w'):SlN g w' v xs:=by
 obtain⟨h1,h2,q,cap,h3,h4,h5⟩:=h
 refine⟨h1,h2,q,cap,h3,h4,h5.imp id ?_⟩
 rintro⟨b,o,e,hlt,hne,hc⟩
 exact⟨b,o,e,Nat.lt_of_lt_of_le hlt hs.size,hne,fun i hi=>(hs.cell hlt hne).trans (hc i hi)⟩
theorem sub64 {U L b:Int} (hU:0<=U/\U<=4294967295) (hL:0<=L/\L<=4294967295) (hb:b=0\/b=1):
  ((U - L) % 18446744073709551616 - b) % 18446744073709551616 % 4294967296=(U - L - b) % 4294967296/\((U - L) % 18446744073709551616 - b) % 18446744073709551616 / 9223372036854775808=(if U - L - b<0 then 1 else 0):=by
 rcases hb with rfl | rfl
 ·refine⟨by omega,?_⟩
  split<;>omega
 ·refine⟨by omega,?_⟩
  split<;>omega
structure DgF (us vs:List Int) (m:Nat) (Q:Int):Prop where
 du:Dig us
 dv:Dig vs
 hu:us.length=m+3
 hv:vs.length=m+2
 ht:0<vs.getD (m+1) 0
 hq:val us<val vs*4294967296
 q:val us / val vs=Q
theorem DgF.facts {us vs:List Int} {m:Nat} {Q:Int} (h:DgF us vs m Q):0<val vs/\0<=Q/\Q<=4294967295/\val us % val vs=val us - Q*val vs/\0<=val us % val vs/\val us % val vs<val vs:=by
 have vp:=zes h.dv h.hv h.ht
 have u0:=zae h.du
 have h1:0<=val us / val vs:=Int.ediv_nonneg u0 (by omega)
 have h2:val us / val vs<4294967296:=Int.ediv_lt_of_lt_mul vp (by have:=h.hq;rwa [Int.mul_comm] at this)
 have h3:=Int.emod_add_mul_ediv (val us) (val vs)
 have h4:=Int.emod_nonneg (val us) (by omega:val vs≠0)
 have h5:=Int.emod_lt_of_pos (val us) vp
 rw[h.q] at h1 h2 h3
 rw[Int.mul_comm] at h3
 exact⟨vp,h1,by omega,by omega,h4,h5⟩
theorem Gs.downF {us vs:List Int} {m:Nat} {G R Q V:Int} (h:Gs us vs m G R) (f:DgF us vs m Q) (hV:vs.getD (m+1) 0=V) (hgt:4294967296<=G\/R*4294967296+us.getD m 0<G*vs.getD m 0):Gs us vs m (G - 1) (R+V)/\1<=G:=by
 have:=h.down f.du f.dv f.hu f.hv f.ht f.hq hgt
 rwa [hV] at this
theorem Gs.goodF {us vs:List Int} {m:Nat} {G R Q:Int} (h:Gs us vs m G R) (f:DgF us vs m Q) (h1:G<4294967296) (h2:G*vs.getD m 0<=R*4294967296+us.getD m 0):Q<=G/\G<=Q+1:=by
 have h3:=h.good f.du f.dv f.hu f.hv f.ht h1 h2
 have h4:=h.ge
 rw[f.q] at h3 h4
 exact⟨h4,h3⟩
theorem Gs.bigF {us vs:List Int} {m:Nat} {G R Q:Int} (h:Gs us vs m G R) (f:DgF us vs m Q) (hR:4294967296<=R):G<4294967296/\Q<=G/\G<=Q+1:=by
 have h1:=h.big f.du f.dv f.hu f.hv f.ht f.hq hR
 exact⟨h1.1,h.goodF f h1.1 h1.2⟩
theorem zkl {w:World} {g j cap m:Nat} {A us C vs:List Int} {v:Value} (hA:A.length=j) (hu:us.length=m+3) (hv:vs.length=m+2) (aR:BlkP w g (A++us++C)) (du:Dig us) (hvs:SlN g w v vs)
  (ht:0<vs.getD (m+1) 0) (hq:val us<val vs*4294967296) (_aD:m+3<=cap) (hm:m+3<=274877906944) (_hj:j<=549755813888):
  Calls Tryz.prog 403 #[.slice (some ⟨g,j,none⟩) (m+3) cap,v] w fun e w'=>∃us',e=.returned (.int .u32 (val us / val vs))/\us'.length=m+3/\Dig us'/\val us'=val us % val vs/\BlkP w' g (A++us'++C)/\Sav g w w':=by
 obtain⟨Q,hQ⟩:∃Q,val us / val vs=Q:=⟨_,rfl⟩
 rw[hQ]
 have hF:Hid (DgF us vs m Q):=⟨du,hvs.1,hu,hv,ht,hq,hQ⟩
 have hgs:Hid (Gs us vs m ((us.getD (m+2) 0*4294967296+us.getD (m+1) 0) / vs.getD (m+1) 0) ((us.getD (m+2) 0*4294967296+us.getD (m+1) 0) % vs.getD (m+1) 0)):=Gs.zero du hvs.1 hu hv ht
 have hU2:=du (m+2)
 have hU1:=du (m+1)
 have hU0:=du m
 have hV1:=hvs.1 (m+1)
 have hV2:=hvs.1 m
 have hgt:=aR.lt
 have cell:∀i,i<m+3->w.cell? ⟨g,j+i,none⟩=some (.int .u32 (us.getD i 0)):=by
  intro i hi
  have:=aR.cell (j:=A.length+i) (by simp;omega)
  rwa [zb2 (by omega),hA] at this
 obtain⟨_,_,q2,cap2,rfl,hc2,hx⟩:=hvs
 rcases hx with hx | ⟨b,o,rfl,hb,hbg,hcv⟩
 ·simp[hx] at hv
 have cu2:=cell (m+2) (by omega)
 have cu1:=cell (m+1) (by omega)
 have cu0:=cell m (by omega)
 have cv1:=hcv (m+1) (by omega)
 have cv0:=hcv m (by omega)
 have dQ:Hid (∀i,i<m+2->w.cell? ⟨b,o+i,none⟩=some (.int .u32 (vs.getD i 0))):=fun i hi=>hcv i (by omega)
 have dC:Hid (BlkP w g (A++us++C)):=aR
 have hA':Hid (A.length=j):=hA
 rw[hv] at hc2 ⊢
 have eV:Hid (vs.getD (m+1) 0=vs.getD (m+1) 0):=rfl
 obtain⟨V,hV⟩:∃V,Hid (vs.getD (m+1) 0=V):=⟨_,rfl⟩
 obtain⟨V2,hVV⟩:∃V2,Hid (vs.getD m 0=V2):=⟨_,rfl⟩
 obtain⟨U2,gb⟩:∃U2,Hid (us.getD (m+2) 0=U2):=⟨_,rfl⟩
 obtain⟨U1,jr⟩:∃U1,Hid (us.getD (m+1) 0=U1):=⟨_,rfl⟩
 obtain⟨U0,gc⟩:∃U0,Hid (us.getD m 0=U0):=⟨_,rfl⟩
 rw[hV.out] at cv1 hV1 hgs ht
 rw[hVV.out] at cv0 hV2
 rw[gb.out] at cu2 hU2 hgs
 rw[jr.out] at cu1 hU1 hgs
 rw[gc.out] at cu0 hU0
 have hor:=(or_hi hU2 hU1).1
 obtain⟨T,hT⟩:∃T,U2*4294967296+U1=T:=⟨_,rfl⟩
 rw[hT] at hor hgs
 have hT0:0<=T:=by omega
 have hT1:T<=18446744073709551615:=by omega
 clear hT du hu hv hcv aR hA cell hq hQ eV
 go_enter Tryz.func403,Tryz.ntmps403
 go_wp2
 go_quiet (fail)
 have cv1':(w.drewN nq).cell? ⟨b,o+(m+1),none⟩=some (.int .u32 V):=cv1
 have cv0':(w.drewN nq).cell? ⟨b,o+m,none⟩=some (.int .u32 V2):=cv0
 have cu0':(w.drewN nq).cell? ⟨g,j+m,none⟩=some (.int .u32 U0):=cu0
 have hB1:Below w.heap.size w (w.drewN nq):=zam (Below.refl _ _) _
 generalize w.drewN nq=wz at cv1' cv0' cu0' hB1 ⊢
 clear cv1 cv0 cu0 cu1 cu2
 go_wp2
 go_quiet (fail)
 have cv1:(wz.drewN nq).cell? ⟨b,o+(m+1),none⟩=some (.int .u32 V):=cv1'
 have cv0:(wz.drewN nq).cell? ⟨b,o+m,none⟩=some (.int .u32 V2):=cv0'
 have cu0:(wz.drewN nq).cell? ⟨g,j+m,none⟩=some (.int .u32 U0):=cu0'
 have hB2:Below w.heap.size w (wz.drewN nq):=zam hB1 _
 generalize wz.drewN nq=wy at cv1 cv0 cu0 hB2 ⊢
 clear cv1' cv0' cu0' hB1
 have ia:0<=T / V:=Int.ediv_nonneg hT0 (by omega)
 have js:T / V<=T:=Int.ediv_le_self _ hT0
 have ib:0<=T % V:=Int.emod_nonneg _ (by omega)
 have jt:T % V<V:=Int.emod_lt_of_pos _ (by omega)
 go_upto_block 0 with fail
 go_cut [7] from 50 to 85 (fun v7 wx=>∃G:Int,v7=.int .u64 G/\0<=G/\G<=4294967295/\Q<=G/\G<=Q+1/\Below w.heap.size w wx)
 case first=>
  go_wp2_with fail
  go_loopw [7,8] (fun t7 t8 wr=>∃G R:Int,t7=.int .u64 G/\t8=.int .u64 R/\Hid (Gs us vs m G R)/\0<=G/\G<=18446744073709551615/\0<=R/\R<=4294967295/\Below wy.heap.size wy wr) (fun t7 _ _=>(intOf t7).toNat)
  case atStart=>exact⟨T / V,T % V,rfl,rfl,hgs,ia,by omega,ib,by omega,Below.refl _ _⟩
  case round=>
   obtain⟨G,R,rfl,rfl,hg,hG0,hG1,hR0,hR1,hbw⟩:=hrel
   have hsz:=hbw.size
   have hbB:b<wy.heap.size:=Nat.lt_of_lt_of_le hb hB2.size
   have hgB:g<wy.heap.size:=Nat.lt_of_lt_of_le hgt hB2.size
   have c1:wr.cell? ⟨b,o+(m+1),none⟩=some (.int .u32 V):=(hbw.cell (by exact hbB)).trans cv1
   have c0:wr.cell? ⟨b,o+m,none⟩=some (.int .u32 V2):=(hbw.cell (by exact hbB)).trans cv0
   have cu:wr.cell? ⟨g,j+m,none⟩=some (.int .u32 U0):=(hbw.cell (by exact hgB)).trans cu0
   have hW:Below w.heap.size w wr:=hB2.trans (hbw.mono hB2.size)
   clear cv1 cv0 cu0
   by_cases gH:4294967296<=G
   ·have hd:=hg.out.downF hF.out hV.out (.inl gH)
    have hd':Hid (Gs us vs m (G - 1) (R+V)):=hd.1
    have hG2:=hd.2
    have ju:(G / 4294967296 != 0)=true:=by simp;omega
    clear hd
    go_wp2
    go_quiet (fail)
    have c1':(wr.drewN nq).cell? ⟨b,o+(m+1),none⟩=some (.int .u32 V):=c1
    have aH:Below wy.heap.size wy (wr.drewN nq):=zam hbw _
    have hW':Below w.heap.size w (wr.drewN nq):=zam hW _
    generalize wr.drewN nq=wx at c1' aH hW' ⊢
    clear c1 c0 cu hbw hW
    by_cases hR:4294967296<=R+V
    ·have hbf:=hd'.out.bigF hF.out hR
     have hdR:1<=(R+V) / 4294967296:=by omega
     go_wp2
     go_meet
     case rel=>exact⟨G - 1,by go_num,by omega,by omega,hbf.2.1,hbf.2.2,hW'⟩
    ·have hdR:(R+V) / 4294967296=0:=by omega
     go_wp2
     go_roundw
     case rel=>exact⟨G - 1,R+V,by go_num,by go_num,hd',by omega,by omega,by omega,by omega,aH⟩
     case measure=>simp[intOf];omega
   ·have jv:=(or_hi ⟨hR0,hR1⟩ hU0).1
    have hml:=zdc (a:=G) (b:=V2) ⟨hG0,by omega⟩ hV2
    obtain⟨P,hP⟩:∃P,G*V2=P:=⟨_,rfl⟩
    obtain⟨S,hS⟩:∃S,R*4294967296+U0=S:=⟨_,rfl⟩
    have hS0:0<=S/\S<=18446744073709551615:=by omega
    rw[hS] at jv
    rw[hP] at hml
    have ju:(G / 4294967296 != 0)=false:=by simp;omega
    by_cases gd:S<P
    ·have hd:=hg.out.downF hF.out hV.out (.inr (by rw[hVV.out,gc.out,hP,hS];exact gd))
     have hd':Hid (Gs us vs m (G - 1) (R+V)):=hd.1
     have hG2:=hd.2
     have jw:P > S:=gd
     have hSH:Hid (R*4294967296+U0=S):=hS
     clear hd hS
     go_wp2
     go_quiet (fail)
     have c1':(wr.drewN nq).cell? ⟨b,o+(m+1),none⟩=some (.int .u32 V):=c1
     have aH:Below wy.heap.size wy (wr.drewN nq):=zam hbw _
     have hW':Below w.heap.size w (wr.drewN nq):=zam hW _
     generalize wr.drewN nq=wx at c1' aH hW' ⊢
     clear c1 c0 cu hbw hW
     by_cases hR:4294967296<=R+V
     ·have hbf:=hd'.out.bigF hF.out hR
      have hdR:1<=(R+V) / 4294967296:=by omega
      go_wp2
      go_meet
      case rel=>exact⟨G - 1,by go_num,by omega,by omega,hbf.2.1,hbf.2.2,hW'⟩
     ·have hdR:(R+V) / 4294967296=0:=by omega
      go_wp2
      go_roundw
      case rel=>first | exact⟨by omega,by omega,by omega⟩ | exact⟨G - 1,R+V,by go_num,by go_num,hd',by omega,by omega,by omega,by omega,aH⟩
      case measure=>simp[intOf];omega
    ·have hgd:=hg.out.goodF hF.out (by omega) (by rw[hVV.out,gc.out,hP,hS];omega)
     have jw:¬P > S:=gd
     have hSH:Hid (R*4294967296+U0=S):=hS
     clear hS
     go_wp2
     go_quiet (fail)
     have hW':Below w.heap.size w (wr.drewN nq):=zam hW _
     generalize wr.drewN nq=wx at hW' ⊢
     clear c1 c0 cu hbw hW
     go_wp2
     go_meet
     case rel=>exact⟨G,rfl,hG0,by omega,hgd.1,hgd.2,hW'⟩
 case rest=>
  obtain⟨G,rfl,hG0,hG1,hGQ0,hGQ1,hW⟩:=hcut
  have hS1:Sav g w wc:=Sav.of hW
  have hK1:BlkP wc g (A++us++C):=dC.out.below hW
  clear hW hB2 cv1 cv0 cu0 hgs hor ia js ib jt hT0 hT1
  go_wp2
  go_loopw [9,10,88] (fun t9 t10 t88 wr=>∃(i:Nat) (cur:List Int) (c bo:Int),i<=m+2/\t88=.int .i64 i/\t9=.int .u64 bo/\t10=.int .u64 c/\Hid (Mb us vs G i cur c bo)/\BlkP wr g (A++cur++C)/\Sav g w wr) (fun _ _ t88 _=>m+2 - (intOf t88).toNat)
  case atStart=>exact⟨0,us,0,0,Nat.zero_le _,rfl,rfl,rfl,Mb.zero hF.out.du,hK1,hS1⟩
  case round=>
   clear hS1 hK1
   obtain⟨i,cur,c,bo,hi,rfl,rfl,rfl,hmb,hbk,hsv⟩:=hrel
   have hc0:=hmb.out.c0
   have hb0:=hmb.out.b0
   have hfr:=hbk.frozen (j+i)
   have hcu:wr.cell? ⟨g,j+i,none⟩=some (.int .u32 (us.getD i 0)):=by
    have h1:=hbk.cell (j:=A.length+i) (by have:=hmb.out.len;have:=hF.out.hu;simp;omega)
    rwa [zb2 (by have:=hmb.out.len;have:=hF.out.hu;omega),hA'.out,hmb.out.rest i (Nat.le_refl _)] at h1
   by_cases hlt:i<m+2
   ·have aF:(i:Int)<(m:Int)+2:=by omega
    have cy:=dQ.out i hlt
    have cy2:wr.cell? ⟨b,o+i,none⟩=some (.int .u32 (vs.getD i 0)):=(hsv.cell hb hbg).trans cy
    have aa:=fun S T hS hT=>hmb.out.step (S:=S) (T:=T) hF.out.du hF.out.dv ⟨hG0,hG1⟩ (by have:=hF.out.hu;omega) hS hT
    have hYb:=hF.out.dv i
    have hUb:=hF.out.du i
    have aY:Hid (∀d,(A++cur++C).set (j+i) d=A++cur.set i d++C):=fun d=>by
     have:=zd2 A cur C i d (by have:=hmb.out.len;have:=hF.out.hu;omega)
     rwa [hA'.out] at this
    obtain⟨Y,hY⟩:∃Y,Hid (vs.getD i 0=Y):=⟨_,rfl⟩
    obtain⟨U,hU⟩:∃U,Hid (us.getD i 0=U):=⟨_,rfl⟩
    rw[hY.out] at cy2 hYb aa
    rw[hU.out] at hcu hUb aa
    have hcb:=zfd ⟨hG0,hG1⟩ hYb hc0
    have hGY:=zdc ⟨hG0,hG1⟩ hYb
    obtain⟨GY,jx⟩:∃GY,G*Y=GY:=⟨_,rfl⟩
    rw[jx] at hcb aa hGY
    obtain⟨S,hS⟩:∃S,GY+c=S:=⟨_,rfl⟩
    rw[hS] at hcb aa
    have cZ:=sub64 hUb (by omega:0<=S % 4294967296/\S % 4294967296<=4294967295) hb0
    obtain⟨L,hL⟩:∃L,S % 4294967296=L:=⟨_,rfl⟩
    have hLb:0<=L/\L<=4294967295:=by omega
    have bY:=aa S (U - S % 4294967296 - bo) rfl rfl
    rw[hL] at cZ bY
    obtain⟨M1,hM1⟩:∃M1,(U - L) % 18446744073709551616=M1:=⟨_,rfl⟩
    rw[hM1] at cZ
    obtain⟨M2,hM2⟩:∃M2,(M1 - bo) % 18446744073709551616=M2:=⟨_,rfl⟩
    rw[hM2] at cZ
    have jy:IntKind.u64.wrap (U - L)=M1:=by rw[IntKind.wrap_u64];exact hM1
    have jA:IntKind.u64.wrap (M1 - bo)=M2:=by rw[IntKind.wrap_u64];exact hM2
    obtain⟨s1,s2⟩:=cZ
    obtain⟨Dd,hDd⟩:∃Dd,(U - L - bo) % 4294967296=Dd:=⟨_,rfl⟩
    obtain⟨Bb,hBb⟩:∃Bb:Int,(if U - L - bo<0 then 1 else 0)=Bb:=⟨_,rfl⟩
    rw[hDd] at s1 bY
    rw[hBb] at s2 bY
    have gf:Hid (Mb us vs G (i+1) (cur.set i Dd) (S / 4294967296) Bb):=bY
    have hSd:0<=S / 4294967296/\S / 4294967296<=4294967295:=by omega
    have jB:0<=M1/\M1<=18446744073709551615:=by omega
    have jC:0<=M2/\M2<=18446744073709551615:=by omega
    have hDdb:0<=Dd/\Dd<=4294967295:=by omega
    have hx1:=zab hDd
    clear aa bY hDd hBb cy hM1 hM2
    go_wp2
    go_roundw
    case rel=>
     have hbS:=hbk.set (j+i) Dd
     rw[aY.out] at hbS
     exact⟨i+1,_,_,_,by omega,by go_num,rfl,rfl,gf,hbS,hsv.setCell _ _⟩
    case measure=>simp[intOf];omega
   ·obtain rfl:i=m+2:=by omega
    rw[gb.out] at hcu
    have hfc:=hF.out.facts
    obtain⟨vp,q0,q1,hR,hR0,hR1⟩:=hfc
    obtain⟨l1,l2,l3⟩:=hmb.out.last hF.out.du hF.out.hu hF.out.hv (T:=U2 - c - bo) (by rw[gb.out])
    have l4:=za4 l2
    have l5:=zae l2
    rw[l1] at l4
    have aY:Hid ((A++cur++C).set (j+(m+2)) ((U2 - c - bo) % 4294967296)=A++cur.set (m+2) ((U2 - c - bo) % 4294967296)++C):=by
     have:=zd2 A cur C (m+2) ((U2 - c - bo) % 4294967296) (by have:=hmb.out.len;have:=hF.out.hu;omega)
     rwa [hA'.out] at this
    have cZ:=sub64 hU2 hc0 hb0
    obtain⟨M1,hM1⟩:∃M1,(U2 - c) % 18446744073709551616=M1:=⟨_,rfl⟩
    rw[hM1] at cZ
    obtain⟨M2,hM2⟩:∃M2,(M1 - bo) % 18446744073709551616=M2:=⟨_,rfl⟩
    rw[hM2] at cZ
    have jy:IntKind.u64.wrap (U2 - c)=M1:=by rw[IntKind.wrap_u64];exact hM1
    have jA:IntKind.u64.wrap (M1 - bo)=M2:=by rw[IntKind.wrap_u64];exact hM2
    obtain⟨s1,s2⟩:=cZ
    have jB:0<=M1/\M1<=18446744073709551615:=by omega
    have jC:0<=M2/\M2<=18446744073709551615:=by omega
    by_cases fL:U2 - c - bo<0
    ·rw[if_pos fL] at s2 l3
     have hGQ:G=Q+1:=by
      rcases (by omega:G=Q+1\/G=Q) with h | h
      ·exact h
      ·exfalso
       rw[h] at l3
       omega
     subst hGQ
     rw[Int.add_mul,Int.one_mul] at l3
     have hRR:Hid (val (cur.set (m+2) ((U2 - c - bo) % 4294967296))+val vs=val us % val vs+4294967296^(m+2+1)):=by
      show _=_
      omega
     have l2':=zab l2
     have ic:Hid (0<=val us % val vs/\val us % val vs<val vs):=⟨hR0,hR1⟩
     obtain⟨Dd,hDd⟩:∃Dd,(U2 - c - bo) % 4294967296=Dd:=⟨_,rfl⟩
     have hDb:0<=Dd/\Dd<=4294967295:=by omega
     rw[hDd] at s1 l1 l2' hRR aY
     have hmb':Hid (cur.length=m+3/\C.length=C.length):=⟨by have:=hmb.out.len;have:=hF.out.hu;omega,rfl⟩
     have hbS:=hbk.set (j+(m+2)) Dd
     rw[aY.out] at hbS
     have hsS:=hsv.setCell (j+(m+2)) (.int .u32 Dd)
     clear l2 l3 l4 l5 hR hR0 hR1 hM1 hM2 hDd hmb vp
     obtain⟨cur1,hc1⟩:∃cur1,Hid (cur.set (m+2) Dd=cur1):=⟨_,rfl⟩
     rw[hc1.out] at l1 l2' hRR hbS
     have hl1:Hid (cur1.length=m+3):=l1
     clear hc1 l1 aY
     go_wp2
     go_loopw [10,141] (fun t10 t141 wr=>∃(i:Nat) (cur2:List Int) (c2:Int),i<=m+2/\t141=.int .i64 i/\t10=.int .u64 c2/\Hid (Ab cur1 vs i cur2 c2)/\BlkP wr g (A++cur2++C)/\Sav g w wr) (fun _ t141 _=>m+2 - (intOf t141).toNat)
     case atStart=>exact⟨0,cur1,0,Nat.zero_le _,rfl,rfl,Ab.zero l2'.out,hbS,hsS⟩
     case round=>
      clear hbS hsS hbk hsv hfr hcu
      obtain⟨i,cur2,c2,hi,rfl,rfl,hab,hbk,hsv⟩:=hrel
      have gM:=hab.out.c01
      have hfr:=hbk.frozen (j+i)
      have fh:cur2.length=m+3:=by have:=hab.out.len;have:=hl1.out;omega
      have hcu:wr.cell? ⟨g,j+i,none⟩=some (.int .u32 (cur1.getD i 0)):=by
       have h1:=hbk.cell (j:=A.length+i) (by simp;omega)
       rwa [zb2 (by omega),hA'.out,hab.out.rest i (Nat.le_refl _)] at h1
      have hUb:=l2'.out i
      by_cases b9:i<m+2
      ·have aF:(i:Int)<(m:Int)+2:=by omega
       have cy:=dQ.out i b9
       have cy2:wr.cell? ⟨b,o+i,none⟩=some (.int .u32 (vs.getD i 0)):=(hsv.cell hb hbg).trans cy
       have hYb:=hF.out.dv i
       have aa:=hab.out.step l2'.out hF.out.dv (by have:=hl1.out;omega) rfl
       have aY:Hid (∀d,(A++cur2++C).set (j+i) d=A++cur2.set i d++C):=fun d=>by
        have:=zd2 A cur2 C i d (by omega)
        rwa [hA'.out] at this
       generalize vs.getD i 0=Y at*
       generalize cur1.getD i 0=U at*
       obtain⟨S,hS⟩:∃S,U+Y+c2=S:=⟨_,rfl⟩
       rw[hS] at aa
       have hSb:0<=S/\S<=8589934591:=by omega
       have aE:Hid (Ab cur1 vs (i+1) (cur2.set i (S % 4294967296)) (S / 4294967296)):=aa
       clear aa cy fh
       go_wp2
       go_roundw
       case rel=>
        have hbS:=hbk.set (j+i) (S % 4294967296)
        rw[aY.out] at hbS
        exact⟨i+1,_,_,by omega,by go_num,rfl,aE,hbS,hsv.setCell _ _⟩
       case measure=>simp[intOf];omega
      ·obtain rfl:i=m+2:=by omega
       obtain⟨e1,e2,e3⟩:=hab.out.last l2'.out hF.out.dv hl1.out hF.out.hv hRR.out ic.out.1 ic.out.2
       have aY:Hid ((A++cur2++C).set (j+(m+2)) ((cur1.getD (m+2) 0+c2) % 4294967296)=A++cur2.set (m+2) ((cur1.getD (m+2) 0+c2) % 4294967296)++C):=by
        have:=zd2 A cur2 C (m+2) ((cur1.getD (m+2) 0+c2) % 4294967296) (by omega)
        rwa [hA'.out] at this
       have aN:Hid ((cur2.set (m+2) ((cur1.getD (m+2) 0+c2) % 4294967296)).length=m+3/\Dig (cur2.set (m+2) ((cur1.getD (m+2) 0+c2) % 4294967296))/\val (cur2.set (m+2) ((cur1.getD (m+2) 0+c2) % 4294967296))=val us % val vs):=⟨e1,e2,e3⟩
       have hbS:=hbk.set (j+(m+2)) ((cur1.getD (m+2) 0+c2) % 4294967296)
       rw[aY.out] at hbS
       clear e1 e2 e3 aY fh
       generalize cur1.getD (m+2) 0=X at*
       obtain⟨E,hE⟩:∃E,(X+c2) % 4294967296=E:=⟨_,rfl⟩
       have hEw:IntKind.u32.wrap (X+c2)=E:=by rw[IntKind.wrap_u32];exact hE
       have hEb:0<=E/\E<=4294967295:=by omega
       rw[hE] at aN hbS
       clear hE
       go_wp2
       go_ret
       exact⟨cur2.set (m+2) E,by go_num,aN.out.1,aN.out.2.1,aN.out.2.2,hbS,hsv.setCell _ _⟩
    ·rw[if_neg fL] at s2 l3
     have hGQ:G=Q:=by
      rcases (by omega:G=Q+1\/G=Q) with h | h
      ·exfalso
       rw[h,Int.add_mul,Int.one_mul] at l3
       omega
      ·exact h
     subst hGQ
     have aN:Hid ((cur.set (m+2) ((U2 - c - bo) % 4294967296)).length=m+3/\Dig (cur.set (m+2) ((U2 - c - bo) % 4294967296))/\val (cur.set (m+2) ((U2 - c - bo) % 4294967296))=val us % val vs):=⟨l1,l2,by rw[l3,hR];omega⟩
     have hbS:=hbk.set (j+(m+2)) ((U2 - c - bo) % 4294967296)
     rw[aY.out] at hbS
     obtain⟨Dd,hDd⟩:∃Dd,(U2 - c - bo) % 4294967296=Dd:=⟨_,rfl⟩
     have hDb:0<=Dd/\Dd<=4294967295:=by omega
     rw[hDd] at s1 aN hbS
     clear l1 l2 l3 l4 l5 hR hR0 hR1 hM1 hM2 hDd hmb vp aY
     go_wp2
     go_ret
     first
      | exact⟨cur.set (m+2) Dd,by go_num,aN.out.1,aN.out.2.1,aN.out.2.2,hbS,hsv.setCell _ _⟩
      | exact⟨by go_num,cur.set (m+2) Dd,aN.out.1,aN.out.2.1,aN.out.2.2,by rw[<-List.append_assoc];exact hbS,hsv.setCell _ _⟩
theorem Sl.news {w:World} {q:Option Addr} {n cap:Nat} {ys:List Int} (h:Sl w (.slice q n cap) ys) (hp:0<ys.length):∃ad,q=some ad/\∀j v,(ys.map (Value.int .u32))[j]?=some v->w.cell? (ad.add j)=some v:=by
 obtain⟨_,_,q',cap',e,_,hx⟩:=h
 cases e
 rcases hx with rfl | ⟨b,o,rfl,_,hc⟩
 ·simp at hp
 ·refine⟨_,rfl,fun j u hj=>?_⟩
  have hjl:j<ys.length:=by
   rcases Nat.lt_or_ge j ys.length with h | h
   ·exact h
   ·simp[List.getElem?_eq_none h] at hj
  have h:=hc j hjl
  simp only[List.getElem?_map,List.getElem?_eq_getElem hjl,Option.map_some,Option.some.injEq] at hj
  rw[show ys.getD j 0=ys[j] by simp[hjl],hj] at h
  by_cases h0:j=0
  ·subst h0
   simpa [Addr.add] using h
  ·simpa [Addr.add,h0] using h
theorem Blk.p {w:World} {g:Nat} {os:List Int} (h:Blk w g os):BlkP w g os:=by
 unfold Blk at h
 exact⟨_,h,fun j hj=>by simp[cells32,hj]⟩
theorem zhr (zs:List Int) (n:Nat) (_h:zs.length<=n):splice ((List.replicate n (0:Int)).map (Value.int .u32)) 0 (zs.map (Value.int .u32))=(zs++List.replicate (n - zs.length) 0).map (Value.int .u32):=by
 unfold splice
 rw[List.map_append]
 simp
theorem zmy (zs:List Int) (k:Nat):val (zs++List.replicate k 0)=val zs:=by
 rw[za5]
 have hv:∀n:Nat,val (List.replicate n 0)=0:=by
  intro n
  induction n with
  | zero=>rfl
  | succ n ih=>simp[List.replicate_succ,val,ih]
 rw[hv,Int.mul_zero,Int.add_zero]
theorem dig_pad {zs:List Int} (h:Dig zs) (k:Nat):Dig (zs++List.replicate k 0):=zc9 h fun j=>by
 have:(List.replicate k (0:Int)).getD j 0=0:=by
  simp only[List.getD_eq_getElem?_getD,List.getElem?_replicate]
  split<;>rfl
 rw[this]
 omega
structure DivG (xs ys vs u0:List Int) (s m Lq:Nat):Prop where
 vl:vs.length=m+2
 ul:u0.length=Lq+(m+2)
 dv:Dig vs
 du:Dig u0
 vv:val vs=val ys*2^s
 vz:val u0=val xs*2^s
 ht:0<vs.getD (m+1) 0
 top:val (u0.drop Lq)<val vs
 vy:0<val ys
theorem DivG.vpos {xs ys vs u0:List Int} {s m Lq:Nat} (h:DivG xs ys vs u0 s m Lq):0<val vs:=zes h.dv h.vl h.ht
theorem zkm {Y:Int} (h0:1<=Y) (h1:Y<=4294967295):∃s:Nat,(32 - (Lib.bitLen Y.toNat:Int))=s/\s<=31/\Y*2^s<4294967296:=by
 obtain⟨s1,s2,s3⟩:=zfe Y.toNat (by omega) (by omega)
 have s4:=zff Y (by omega) h1
 generalize Lib.bitLen Y.toNat=L at*
 refine⟨32 - L,by omega,by omega,?_⟩
 have e:(2:Int)^L*2^(32 - L)=4294967296:=by
  rw[<-Int.pow_add,show L+(32 - L)=32 by omega]
  rfl
 have h2:Y<(2:Int)^L:=by
  rw[show ((2:Int)^L)=((2^L:Nat):Int) by simp]
  omega
 rw[<-e]
 exact Int.mul_lt_mul_of_pos_right h2 (zar _)
theorem zmz {xs ys vs zs:List Int} {s m Lq:Nat} (dx:Dig xs) (dy:Dig ys) (cy:Canon ys) (hy:ys.length=m+2) (hY:ys.getD (m+1) 0*2^s<4294967296) (hs:s<=31) (hL:xs.length+1=Lq+(m+2))
  (dv:Dig vs) (cv:Canon vs) (vv:val vs=val ys*2^s) (dz:Dig zs) (vz:val zs=val xs*2^s) (lz:zs.length<=xs.length+1):
  DivG xs ys vs (zs++List.replicate (xs.length+1 - zs.length) 0) s m Lq:=by
 have hp:=zar s
 have hgy:=zhq dy cy (k:=m+1) hy
 have hp1:=zav (m+1)
 have vy:0<val ys:=by omega
 have e1:=zbb (vs:=ys) (m:=m+1) hy
 have t1:=za4 (zao dy (m+1))
 have t0:=zae (zao dy (m+1))
 rw[List.length_take,Nat.min_eq_left (by omega)] at t1
 have hvl:val vs<4294967296^(m+2):=by
  rw[vv,e1,Int.add_mul,Int.pow_succ _ (m+1)]
  have h1:(ys.getD (m+1) 0*2^s+2^s)*4294967296^(m+1)<=4294967296*4294967296^(m+1):=by
   refine Int.mul_le_mul_of_nonneg_right ?_ (by omega)
   obtain⟨d,hd⟩:∃d,32=s+d:=⟨32 - s,by omega⟩
   have e32:(4294967296:Int)=2^d*2^s:=by rw[<-Int.pow_add,Nat.add_comm,<-hd];rfl
   have h2:ys.getD (m+1) 0*2^s<2^d*2^s:=by rw[<-e32];exact hY
   have h3:=Int.lt_of_mul_lt_mul_right h2 (by omega)
   have h4:=Int.mul_le_mul_of_nonneg_right (by omega:ys.getD (m+1) 0+1<=2^d) (by omega:(0:Int)<=2^s)
   rw[Int.add_mul,Int.one_mul] at h4
   omega
  have h5:val (ys.take (m+1))*2^s<4294967296^(m+1)*2^s:=Int.mul_lt_mul_of_pos_right t1 hp
  rw[Int.add_mul] at h1
  have h6:ys.getD (m+1) 0*4294967296^(m+1)*2^s=ys.getD (m+1) 0*2^s*4294967296^(m+1):=by rw[Int.mul_assoc,Int.mul_comm (4294967296^(m+1)),<-Int.mul_assoc]
  rw[h6]
  rw[Int.mul_comm (2^s)] at h1
  omega
 have hle:val ys<=val vs:=by
  rw[vv]
  have:=Int.mul_le_mul_of_nonneg_left (by omega:(1:Int)<=2^s) (by omega:0<=val ys)
  omega
 have l1:=zf2 dv cv hvl
 have l2:=zbc dy dv cy hle
 have vl:vs.length=m+2:=by omega
 have c1:=cv (m+1) vl
 have d1:=dv (m+1)
 have hul:(zs++List.replicate (xs.length+1 - zs.length) 0).length=Lq+(m+2):=by simp;omega
 have hdu:=dig_pad dz (xs.length+1 - zs.length)
 refine⟨vl,hul,dv,hdu,vv,by rw[zmy,vz],by omega,?_,vy⟩
 rw[zeh hdu Lq (by omega),zmy,vz]
 have hx:=za4 dx
 have hxl:xs.length=Lq+(m+1):=by omega
 rw[hxl,Int.pow_add] at hx
 have h7:val xs*2^s<4294967296^Lq*(4294967296^(m+1)*2^s):=by
  rw[<-Int.mul_assoc]
  exact Int.mul_lt_mul_of_pos_right hx hp
 rw[Int.mul_comm (4294967296^Lq)] at h7
 have h8:=Int.ediv_lt_of_lt_mul (zav Lq) h7
 have h9:4294967296^(m+1)*2^s<=val vs:=by
  rw[vv]
  exact Int.mul_le_mul_of_nonneg_right hgy (by omega)
 omega
theorem zkn {w2 wr:World} {gu:Nat} {v:Value} {xs ys vs u0 us q:List Int} {s m Lq k cap:Nat} (h:DivG xs ys vs u0 s m Lq) (hk:k<Lq) (hd:Dvb u0 vs (k+1) us q) (hsv:SlN gu w2 v vs) (hb:BlkP wr gu us) (hs:Sav gu w2 wr)
  (aD:m+3<=cap) (hn:m+3<=274877906944) (hL:Lq<=549755813888):
  ∃d:Int,(0<=d/\d<=4294967295)/\Calls Tryz.prog 403 #[.slice (some ⟨gu,k,none⟩) (m+3) cap,v] wr fun e w'=>e=.returned (.int .u32 d)/\∃us',BlkP w' gu us'/\Dvb u0 vs k us' (q.set k d)/\Sav gu wr w':=by
 have hz:=h.ul
 have hv:=h.vl
 have hql:=hd.qlen
 have hul:=hd.len
 have bB:=h.vpos
 obtain⟨_,_,h3⟩:=hd.window (by omega) h.dv
 have hus:us=us.take k++(us.drop k).take (vs.length+1)++us.drop (k+(vs.length+1)):=by
  rw[List.append_assoc,<-List.drop_drop,List.take_append_drop,List.take_append_drop]
 have hw0:((us.drop k).take (vs.length+1)).length=m+3:=by rw[List.length_take,List.length_drop];omega
 have dW:=zao (zbg hd.dig k) (vs.length+1)
 have w0:=zae dW
 rw[hus] at hb
 have cS:=zkl (cap:=cap) (by rw[List.length_take,Nat.min_eq_left (by omega)]:(us.take k).length=k) hw0 hv hb dW (hsv.sav hs) h.ht h3 aD hn (by omega)
 have aa:=fun W hW dW cK=>hd.step (W:=W) (by omega) h.dv (by omega) hW dW cK
 refine⟨val ((us.drop k).take (vs.length+1)) / val vs,⟨Int.ediv_nonneg w0 (by omega),?_⟩,cS.mono ?_⟩
 ·have:=Int.ediv_lt_of_lt_mul (by omega:0<val vs) (by rwa [Int.mul_comm] at h3)
  omega
 ·rintro e w' ⟨us',rfl,hl',hd',hv',hb',hs'⟩
  exact⟨rfl,_,hb',aa us' (by omega) hd' hv',hs'⟩
theorem zm0 {xs ys vs u0 us q:List Int} {s m Lq:Nat} (h:DivG xs ys vs u0 s m Lq) (hd:Dvb u0 vs 0 us q):val q=val xs / val ys/\val us=val xs % val ys*2^s:=by
 have ht:=hd.top
 have he:=hd.eq
 rw[List.drop_zero] at ht
 have h0:=zae hd.dig
 have h2:=zar s
 have hv:=h.vpos
 have e1:val q=val u0 / val vs:=by
  rw[<-he,Int.add_mul_ediv_left _ _ (by omega),Int.ediv_eq_zero_of_lt h0 ht,Int.zero_add]
 have e2:val us=val u0 % val vs:=by
  rw[<-he,Int.add_mul_emod_self_left,Int.emod_eq_of_lt h0 ht]
 rw[h.vv,h.vz] at e1 e2
 rw[Int.mul_ediv_mul_of_pos_left _ _ h2] at e1
 rw[Int.mul_comm (val xs),Int.mul_comm (val ys),Int.mul_emod_mul_of_pos _ _ h2,Int.mul_comm] at e2
 exact⟨e1,e2⟩
theorem Blk.sl32 {w:World} {g:Nat} {q:List Int} (h:BlkP w g q) (dq:Dig q) (hl:q.length<=549755813888):Sl w (.slice (some ⟨g,0,none⟩) q.length q.length) q:=
 ⟨dq,hl,_,_,rfl,Nat.le_refl _,.inr ⟨g,0,rfl,h.lt,fun i hi=>by simpa using h.cell hi⟩⟩
end Go.Proofs.YtnnhofmknilopaaGreatDoor
