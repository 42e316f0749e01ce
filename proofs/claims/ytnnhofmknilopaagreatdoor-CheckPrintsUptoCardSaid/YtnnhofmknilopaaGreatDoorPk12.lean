import Derived.Lib.ItoaNum
import Derived.Test.YtnnhofmknilopaaGreatDoorPk11
namespace Go.Proofs.YtnnhofmknilopaaGreatDoor
open Go Go.RowKit
set_option maxRecDepth 100000
theorem zau {P:Program} {fn:Func} {p u:Tmp} {ty:TypeId} (h:fn.results=#[.cell p ty,.tmp u]) (tmps:Array Value) (w:World) (b:Nat) (cs:List Value) (d:TypeDesc)
  (hp:tmps.getD p undef=.pointer (some ⟨b,0,none⟩)) (hc:w.rangeAt b 0 cs) (hu:P.underlying ty=some d) (hd:d.isRow=true) (hi:(P.info? ty).map (·.size)=some cs.length):
  (results fn tmps).run P w=.ok (.tuple #[.agg cs.toArray,tmps.getD u undef]) w:=by
 rw[results_cell_tmp h,hp]
 simp[asAddr,run_loadVar_mid w b 0 ty cs d hc hu hd hi]
def pw (k:Nat):Int:=4294967296^k
theorem zhj {xs:List Int} (dx:Dig xs) (cx:Canon xs) (k:Nat):xs.length<=k↔val xs<pw k:=by
 constructor
 ·intro h
  have h1:=za4 dx
  have h2:=zeb h
  unfold pw
  omega
 ·intro h
  exact zf2 dx cx h
def large (n d:Int):Bool:=!(decide (n<pw 256)&&decide (d<pw 256)&&decide (mkN n (denI d)<pw 64)&&decide (mkD n (denI d)<pw 64))
theorem zmk {w:World} {v:Value} {g:Bool} {n d:Int} (h:FAt w v g n d):
  Calls Tryz.prog 210 #[v] w (Rt w (.bool (decide (n<pw 64)&&decide (d<pw 64)))):=by
 obtain⟨a,b,ns,ds,rfl,h2,h3,rfl,h5,h6,rfl,h8,h9⟩:=h
 have e1:decide (val ns<pw 64)=decide (ns.length<=64):=decide_eq_decide.2 (zhj h2.1 h3 64).symm
 have e2:decide (val ds<pw 64)=decide (ds.length<=64):=decide_eq_decide.2 (zhj h5.1 h6 64).symm
 rw[e1,e2]
 clear e1 e2
 obtain⟨q,cap,rfl⟩:=h2.form
 obtain⟨q',cap',rfl⟩:=h5.form
 clear h2 h3 h5 h6
 by_cases h1:ns.length<=64
 ·have h1':(ns.length:Int)<=64:=by omega
  by_cases h2:ds.length<=64
  ·have h2':(ds.length:Int)<=64:=by omega
   go_enter Tryz.func210,Tryz.ntmps210
   go_wp2
   go_ret
   exact⟨by simp[h1,h2],zaa _ _⟩
  ·have h2':¬(ds.length:Int)<=64:=by omega
   go_enter Tryz.func210,Tryz.ntmps210
   go_wp2
   go_ret
   exact⟨by simp,zaa _ _⟩
 ·have h1':¬(ns.length:Int)<=64:=by omega
  go_enter Tryz.func210,Tryz.ntmps210
  go_wp2
  go_ret
  exact⟨by simp,zaa _ _⟩
theorem zgn {w:World} {v:Value} {g:Bool} {n d:Int} (h:FAt w v g n d):
  Calls Tryz.prog 118 #[v] w (Rt w (.int .i64 (if n=0 then 0 else if g then -1 else 1))):=by
 obtain⟨a,b,ns,ds,rfl,h2,h3,rfl,h5,h6,rfl,h8,h9⟩:=h
 obtain⟨q,cap,rfl⟩:=h2.form
 obtain⟨q',cap',rfl⟩:=h5.form
 have hz:=fun z=>zbi q ns.length cap z
 by_cases h1:ns=[]
 ·have hv:val ns=0:=by rw[h1];rfl
  have hl:ns.length=0:=by rw[h1];rfl
  rw[hl] at hz ⊢
  rw[hv]
  clear h2 h5
  go_enter Tryz.func118,Tryz.ntmps118
  go_wp2_with (go_at_call 207;with_reducible refine(hz _).mono ?_;rintro e w1 ⟨rfl,rfl⟩)
  go_ret
  exact⟨rfl,zaa _ _⟩
 ·have hp:=zby h2.1 h3 h1
  have hl:¬ns.length=0:=by have:=List.length_pos_iff.2 h1;omega
  have hz':∀z,Calls Tryz.prog 207 #[.slice q ns.length cap] z fun e w'=>e=.returned (.bool false)/\w'=z:=fun z=>by
   have:=hz z
   rwa [decide_eq_false hl] at this
  have hn:¬val ns=0:=by omega
  rw[if_neg hn]
  clear h2 h5 hz hn hp
  cases g with
  | false=>
   go_enter Tryz.func118,Tryz.ntmps118
   go_wp2_with (go_at_call 207;with_reducible refine(hz' _).mono ?_;rintro e w1 ⟨rfl,rfl⟩)
   go_ret
   exact⟨rfl,zaa _ _⟩
  | true=>
   go_enter Tryz.func118,Tryz.ntmps118
   go_wp2_with (go_at_call 207;with_reducible refine(hz' _).mono ?_;rintro e w1 ⟨rfl,rfl⟩)
   go_ret
   exact⟨rfl,zaa _ _⟩
set_option maxHeartbeats 16000000
theorem FNew.drew {w:World} {N nq:Nat} (h:FNew w N):FNew (w.drewN nq) N:=h
theorem zds {n d:Int} (h:¬n<pw 256\/¬d<pw 256):large n d=true:=by
 unfold large
 rcases h with h | h<;>simp[h]
theorem zml {n d:Int} (h1:n<pw 256) (h2:d<pw 256):(decide (mkN n (denI d)<pw 64)&&decide (mkD n (denI d)<pw 64))=!large n d:=by
 unfold large
 simp[h1,h2]
theorem zc7 {w:World} {g:Bool} {q1 p1:Option Addr} {c1 e1:Nat} {nu de:List Int} (h1:Sl w (.slice q1 nu.length c1) nu) (h2:Sl w (.slice p1 de.length e1) de) (ln:nu.length<=274877906000) (ld:de.length<=274877906000) (hT:Tb w):
  Calls Tryz.prog 117 #[.agg #[.bool g,.slice q1 nu.length c1,.slice p1 de.length e1]] w fun e w'=>∃f g' n' d',e=.returned (.tuple #[f,.bool (!large (val nu) (val de))])/\FAt w' f g' n' d'/\(large (val nu) (val de)=false->g'=mkG g (val nu) (denI (val de))/\n'=mkN (val nu) (denI (val de))/\d'=mkD (val nu) (denI (val de)))/\Below w.heap.size w w':=by
 obtain⟨u1,s1,k1⟩:=zfg h1
 obtain⟨u2,s2,k2⟩:=zfg h2
 obtain⟨qa,ca,rfl⟩:=s1.form
 obtain⟨qb,cb,rfl⟩:=s2.form
 have v1:val (trim nu)=val nu:=zbp nu
 have v2:val (trim de)=val de:=zbp de
 have cn:=zal nu
 have cd:=zal de
 have l1:(trim nu).length<=274877906000:=by
  have:=zan nu nu.length
  rw[zag];omega
 have l2:(trim de).length<=274877906000:=by
  have:=zan de de.length
  rw[zag];omega
 have L1:=zhj s1.1 cn 256
 have L2:=zhj s2.1 cd 256
 rw[v1] at L1
 rw[v2] at L2
 generalize trim nu=N at*
 generalize trim de=D at*
 generalize val nu=X at*
 generalize val de=Y at*
 have hs:Hid (Sl w (.slice qa N.length ca) N/\Sl w (.slice qb D.length cb) D/\val N=X/\val D=Y/\Canon N/\Canon D/\N.length<=274877906000/\D.length<=274877906000/\Tb w):=⟨s1,s2,v1,v2,cn,cd,l1,l2,hT⟩
 have hb:=zdg w (Obj.cells #[.bool g,.slice q1 nu.length c1,.slice p1 de.length e1] 24) (Obj.cells #[.bool false,.slice none 0 0,.slice none 0 0] 156)
 obtain⟨dd,hu,hd⟩:=f_row
 have hL:Hid ((N.length<=256↔X<pw 256)/\(D.length<=256↔Y<pw 256)):=⟨L1,L2⟩
 clear s1 s2 v1 v2 cn cd hT h1 h2 L1 L2
 go_enter Tryz.func117,Tryz.ntmps117
 go_wp2_with fail
 go_quiet (first
  | (go_at_call_of 206 (Value.slice q1 nu.length c1);refine Calls.quiet_of_same (k1 _ (zam hb _)))
  | (go_at_call_of 206 (Value.slice p1 de.length e1);refine Calls.quiet_of_same (k2 _ (zam hb _))))
 clear k1 k2
 have hb1:=zam hb nq
 have x0:(((w.alloc (Obj.cells #[.bool g,.slice q1 nu.length c1,.slice p1 de.length e1] 24)).alloc (Obj.cells #[.bool false,.slice none 0 0,.slice none 0 0] 156)).drewN nq).cell? ⟨w.heap.size,0,none⟩=some (.bool g):=by simp
 have hsz:(((w.alloc (Obj.cells #[.bool g,.slice q1 nu.length c1,.slice p1 de.length e1] 24)).alloc (Obj.cells #[.bool false,.slice none 0 0,.slice none 0 0] 156)).drewN nq).heap.size=w.heap.size+2:=by simp
 have am:FNew (((w.alloc (Obj.cells #[.bool g,.slice q1 nu.length c1,.slice p1 de.length e1] 24)).alloc (Obj.cells #[.bool false,.slice none 0 0,.slice none 0 0] 156)).drewN nq) (w.heap.size+1):=by
  have:=FNew.made (w.alloc (Obj.cells #[.bool g,.slice q1 nu.length c1,.slice p1 de.length e1] 24))
  have e:(w.alloc (Obj.cells #[.bool g,.slice q1 nu.length c1,.slice p1 de.length e1] 24)).heap.size=w.heap.size+1:=by simp
  rw[e] at this
  exact this.drew
 clear hb
 generalize (((w.alloc (Obj.cells #[.bool g,.slice q1 nu.length c1,.slice p1 de.length e1] 24)).alloc (Obj.cells #[.bool false,.slice none 0 0,.slice none 0 0] 156)).drewN nq)=W1 at hb1 x0 hsz am ⊢
 have bg:Hid (FNew W1 (w.heap.size+1)):=am
 have bD:Hid (Below w.heap.size w W1):=hb1
 have c0:=am.c0
 have c1:=am.c1
 have c2:=am.c2
 have fr:=am.fr
 clear am hb1
 by_cases hA:N.length<=256
 ·have hA':((N.length:Int) > 256)=False:=by simp;omega
  by_cases hB:D.length<=256
  ·have hB':((D.length:Int) > 256)=False:=by simp;omega
   have hz:=fun z=>zbi qb D.length cb z
   obtain⟨bz,hbz⟩:∃bz,Hid (decide (D.length=0)=bz):=⟨_,rfl⟩
   simp only[hbz.out] at hz
   have hof:=fun z=>zed z 1 (by omega) (by omega)
   have hs1:Hid _:=zfh (x:=1) (by omega) (by omega)
   go_upto_if 23 with(go_at_call 207;with_reducible refine(hz _).mono ?_;rintro e w1 ⟨rfl,hw1⟩;subst w1)
   go_cut [5] from 23 to 24 (fun v5 wx=>∃qd nd cd ds,v5=.slice qd nd cd/\Hid (Sl wx (.slice qd nd cd) ds/\Canon ds/\val ds=denI Y/\ds≠[]/\ds.length<=274877906000)/\Hid (Below W1.heap.size W1 wx))
   case first=>
    cases bz with
    | true=>
     have hY:denI Y=1:=by
      have:=hs.out.2.2.2.1
      rw[List.eq_nil_of_length_eq_zero (of_decide_eq_true hbz.out)] at this
      simp[denI,<-this,val]
     go_wp2_with (go_at_call 208;with_reducible refine(hof _).mono ?_;rintro e w2 ⟨r,rfl,hz2,hb2⟩
                  obtain⟨qr,cr,rfl⟩:=hz2.form)
     have aN:Hid (Sl w2 (.slice qr (smallW 1).length cr) (smallW 1)/\Canon (smallW 1)/\val (smallW 1)=denI Y/\smallW 1≠[]/\(smallW 1).length<=274877906000):=⟨hz2,hs1.out.2.1,by rw[hY];exact hs1.out.2.2.1,by decide,by have:=hs1.out.2.2.2;omega⟩
     go_meet
     case rel=>exact⟨_,_,_,_,rfl,aN,hb2⟩
    | false=>
     have hD:Hid (D≠[]):=by
      rintro rfl
      exact of_decide_eq_false hbz.out rfl
     have hY:denI Y=Y:=by
      have:=zby hs.out.2.1.1 hs.out.2.2.2.2.2.1 hD.out
      rw[hs.out.2.2.2.1] at this
      simp[denI];omega
     have aN:Hid (Sl (W1) (.slice qb D.length cb) D/\Canon D/\val D=denI Y/\D≠[]/\D.length<=274877906000):=⟨hs.out.2.1.below bD.out,hs.out.2.2.2.2.2.1,by rw[hY];exact hs.out.2.2.2.1,hD.out,hs.out.2.2.2.2.2.2.2.1⟩
     go_wp2_with fail
     go_meet
     case rel=>exact⟨_,_,_,_,rfl,aN,Below.refl _ _⟩
   case rest=>
    obtain⟨qd,nd,cd,ds,rfl,hds,hbw⟩:=hcut
    have fM:=zix (g:=g) ((hs.out.1.below bD.out).below hbw.out) hds.out.1 hs.out.2.2.2.2.1 hds.out.2.1 hds.out.2.2.2.1 hs.out.2.2.2.2.2.2.1 hds.out.2.2.2.2 ((hs.out.2.2.2.2.2.2.2.2.below bD.out).below hbw.out)
    rw[hs.out.2.2.1,hds.out.2.2.1] at fM
    have hlf:Hid _:=zml (hL.out.1.1 hA) (hL.out.2.1 hB)
    have x0':wc.cell? ⟨w.heap.size,0,none⟩=some (.bool g):=(hbw.out.cell (by show w.heap.size<_;omega)).trans x0
    clear x0 hz hof hs1 c0 c1 c2 fr
    go_wp2_with (go_at_call 209;with_reducible refine fM.mono ?_;rintro e w3 ⟨f,rfl,hf,hb3⟩
                 have hf':=hf
                 obtain⟨fa,fb,ns,dsf,rfl,z1,z2,z3,z4,z5,z6,z7,z8⟩:=hf'
                 obtain⟨qn,kn,rfl⟩:=z1.form
                 obtain⟨qm,km,rfl⟩:=z4.form
                 have hzz:Hid (Sl w3 (.slice qn ns.length kn) ns/\Canon ns/\val ns=mkN X (denI Y)/\Sl w3 (.slice qm dsf.length km) dsf/\Canon dsf/\val dsf=mkD X (denI Y)/\ns.length<=274877906000/\dsf.length<=274877906000):=⟨z1,z2,z3,z4,z5,z6,z7,z8⟩
                 clear z1 z2 z3 z4 z5 z6 z7 z8 fM)
    have hB4:Below w3.heap.size w3 (w3.alloc (.cells #[.bool (mkG g X (denI Y)),.slice qn ns.length kn,.slice qm dsf.length km] 156)):=zaa _ _
    have ct:=zmk ((hf.below hB4).below (Below.refl _ _).drew)
    rw[hlf.out] at ct
    have y0:(w3.alloc (.cells #[.bool (mkG g X (denI Y)),.slice qn ns.length kn,.slice qm dsf.length km] 156)).cell? ⟨w3.heap.size,0,none⟩=some (.bool (mkG g X (denI Y))):=by simp
    have y1:(w3.alloc (.cells #[.bool (mkG g X (denI Y)),.slice qn ns.length kn,.slice qm dsf.length km] 156)).cell? ⟨w3.heap.size,1,none⟩=some (.slice qn ns.length kn):=by simp
    have y2:(w3.alloc (.cells #[.bool (mkG g X (denI Y)),.slice qn ns.length kn,.slice qm dsf.length km] 156)).cell? ⟨w3.heap.size,2,none⟩=some (.slice qm dsf.length km):=by simp
    have y5:(w3.alloc (.cells #[.bool (mkG g X (denI Y)),.slice qn ns.length kn,.slice qm dsf.length km] 156)).heap.size=w3.heap.size+1:=by simp
    have hlt:w.heap.size+1<w3.heap.size:=by
     have:=hbw.out.size
     have:=hb3.size
     omega
    have b9:w3.heap.size≠w.heap.size+1:=by omega
    have gZ:Below W1.heap.size W1 (w3.alloc (.cells #[.bool (mkG g X (denI Y)),.slice qn ns.length kn,.slice qm dsf.length km] 156)):=(hbw.out.trans (hb3.mono hbw.out.size)).trans (hB4.mono (Nat.le_trans hbw.out.size hb3.size))
    generalize (w3.alloc (.cells #[.bool (mkG g X (denI Y)),.slice qn ns.length kn,.slice qm dsf.length km] 156))=W4 at*
    have hS4:(fun z=>z.cell? ⟨w3.heap.size,0,none⟩=some (.bool (mkG g X (denI Y)))/\z.cell? ⟨w3.heap.size,1,none⟩=some (.slice qn ns.length kn)/\z.cell? ⟨w3.heap.size,2,none⟩=some (.slice qm dsf.length km)) W4.drew:=⟨y0,y1,y2⟩
    have y5':W4.drew.heap.size=w3.heap.size+1:=y5
    clear y0 y1 y2 hf x0'
    go_region_held3 (fun z=>z.cell? ⟨w3.heap.size,0,none⟩=some (.bool (mkG g X (denI Y)))/\z.cell? ⟨w3.heap.size,1,none⟩=some (.slice qn ns.length kn)/\z.cell? ⟨w3.heap.size,2,none⟩=some (.slice qm dsf.length km)) (first | exact hSs | exact hS5 | exact hS4)
     (first
       | (go_at_call 210;with_reducible refine ct.mono ?_;rintro e w5 ⟨rfl,hb5⟩
          have hS5:(fun z=>z.cell? ⟨w3.heap.size,0,none⟩=some (.bool (mkG g X (denI Y)))/\z.cell? ⟨w3.heap.size,1,none⟩=some (.slice qn ns.length kn)/\z.cell? ⟨w3.heap.size,2,none⟩=some (.slice qm dsf.length km)) w5:=⟨(hb5.cell (by show w3.heap.size<_;omega)).trans hS4.1,(hb5.cell (by show w3.heap.size<_;omega)).trans hS4.2.1,(hb5.cell (by show w3.heap.size<_;omega)).trans hS4.2.2⟩
          have fN:Below W4.heap.size W4 w5:=(Below.refl _ _).drew.trans hb5
          have fO:Below W1.heap.size W1 w5:=gZ.trans (fN.mono gZ.size)
          have bS:=hzz.out
          have fP:Below w3.heap.size w3 w5:=hB4.trans (fN.mono hB4.size)
          obtain⟨hk,af⟩:=ziw (g:=mkG g X (denI Y)) (by omega) bg.out bD.out fO (bS.1.below fP) bS.2.1 bS.2.2.1 (bS.2.2.2.1.below fP) bS.2.2.2.2.1 bS.2.2.2.2.2.1 bS.2.2.2.2.2.2.1 bS.2.2.2.2.2.2.2
          have h9:=bg.out.below fO
          have f0:=h9.c0
          have f1:=h9.c1
          have f2:=h9.c2
          have fr:=h9.fr
          have hSs:(fun z=>z.cell? ⟨w3.heap.size,0,none⟩=some (.bool (mkG g X (denI Y)))/\z.cell? ⟨w3.heap.size,1,none⟩=some (.slice qn ns.length kn)/\z.cell? ⟨w3.heap.size,2,none⟩=some (.slice qm dsf.length km)) (((w5.setCell ⟨w.heap.size+1,0,none⟩ (.bool (mkG g X (denI Y)))).setCell ⟨w.heap.size+1,1,none⟩ (.slice qn ns.length kn)).setCell ⟨w.heap.size+1,2,none⟩ (.slice qm dsf.length km)):=by
           exact⟨(World.cell?_setCell_far _ _ _ _ (by simp;omega)).trans ((World.cell?_setCell_far _ _ _ _ (by simp;omega)).trans ((World.cell?_setCell_far _ _ _ _ (by simp;omega)).trans hS5.1)),(World.cell?_setCell_far _ _ _ _ (by simp;omega)).trans ((World.cell?_setCell_far _ _ _ _ (by simp;omega)).trans ((World.cell?_setCell_far _ _ _ _ (by simp;omega)).trans hS5.2.1)),(World.cell?_setCell_far _ _ _ _ (by simp;omega)).trans ((World.cell?_setCell_far _ _ _ _ (by simp;omega)).trans ((World.cell?_setCell_far _ _ _ _ (by simp;omega)).trans hS5.2.2))⟩
          clear h9 fN fP fO hb5 bS))
    go_wp2_with fail
    refine bodyPost_ret (zau rfl _ _ (w.heap.size+1) _ dd rfl af hu hd zfi) rfl ?_
    exact⟨_,_,_,_,rfl,hk.out.1,fun _=>⟨rfl,rfl,rfl⟩,hk.out.2⟩
  ·have hB':(D.length:Int) > 256:=by omega
   have hl:=zds (n:=X) (d:=Y) (.inr (fun h=>hB (hL.out.2.2 h)))
   obtain⟨hk,af⟩:=ziw (g:=false) (by omega) bg.out bD.out (Below.refl _ _) (Sl.nil _) zbh rfl (Sl.nil _) zbh rfl (by simp) (by simp)
   go_wp2_with fail
   refine bodyPost_ret (zau rfl _ _ (w.heap.size+1) _ dd rfl af hu hd zfi) rfl ?_
   exact⟨_,false,0,0,by rw[hl];rfl,hk.out.1,fun h=>(by rw[hl] at h;cases h),hk.out.2⟩
 ·have hA':(N.length:Int) > 256:=by omega
  have hl:=zds (n:=X) (d:=Y) (.inl (fun h=>hA (hL.out.1.2 h)))
  obtain⟨hk,af⟩:=ziw (g:=false) (by omega) bg.out bD.out (Below.refl _ _) (Sl.nil _) zbh rfl (Sl.nil _) zbh rfl (by simp) (by simp)
  go_wp2_with fail
  refine bodyPost_ret (zau rfl _ _ (w.heap.size+1) _ dd rfl af hu hd zfi) rfl ?_
  exact⟨_,false,0,0,by rw[hl];rfl,hk.out.1,fun h=>(by rw[hl] at h;cases h),hk.out.2⟩
theorem zje {Y:Int} (h:0<=Y):0<denI Y:=by
 unfold denI
 split<;>omega
theorem zjf {X Y:Int} (hX:0<=X) (hY:0<=Y):mkN X (denI Y)=0↔X=0:=by
 have hd:=zje hY
 unfold mkN
 by_cases h:X=0
 ·simp[h]
 ·rw[if_neg (by omega)]
  have hg:=zep (b:=denI Y) (by omega:0<X)
  obtain⟨⟨p,hp⟩,_⟩:=gcdI_dvd hX (by omega:0<=denI Y)
  have hp2:X / gcdI X (denI Y)=p:=by
   conv=>lhs;lhs;rw[hp]
   exact Int.mul_ediv_cancel_left _ (by omega)
  rw[hp2]
  constructor
  ·rintro rfl;omega
  ·intro h2;exact absurd h2 h
def sgnQ (g:Bool) (X _Y:Int):Int:=if X=0 then 0 else if g then -1 else 1
theorem zmm {g:Bool} {X Y:Int} (hX:0<=X) (hY:0<=Y):(if mkN X (denI Y)=0 then 0 else if mkG g X (denI Y) then -1 else 1:Int)=sgnQ g X Y:=by
 have hd:=zje hY
 unfold sgnQ
 by_cases h:X=0
 ·rw[if_pos ((zjf hX hY).2 h),if_pos h]
 ·rw[if_neg (fun e=>h ((zjf hX hY).1 e)),if_neg h]
  have:mkG g X (denI Y)=g:=by
   unfold mkG
   rw[if_neg (by omega)]
  rw[this]
theorem zfx {w:World} {g:Bool} {q1 p1:Option Addr} {c1 e1:Nat} {nu de:List Int} (h1:Sl w (.slice q1 nu.length c1) nu) (h2:Sl w (.slice p1 de.length e1) de) (ln:nu.length<=274877906000) (ld:de.length<=274877906000) (hT:Tb w):
  Calls Tryz.prog 65 #[.agg #[.bool g,.slice q1 nu.length c1,.slice p1 de.length e1]] w (Rt w (.tuple #[.int .i64 (if large (val nu) (val de) then 0 else sgnQ g (val nu) (val de)),.int .i64 (if large (val nu) (val de) then 1 else 0)])):=by
 have hb:Below w.heap.size w (w.alloc (.cells #[.bool g,.slice q1 nu.length c1,.slice p1 de.length e1] 24)):=zaa w _
 have hrd:=zc7 (g:=g) (h1.below hb) (h2.below hb) ln ld (hT.below hb)
 have x0:=zae h1.1
 have y0:=zae h2.1
 generalize val nu=X at*
 generalize val de=Y at*
 have hsg:Hid _:=zmm (g:=g) x0 y0
 generalize hL:large X Y=L at*
 have hb':=zab hb
 clear h1 h2 hT hL hb
 cases L with
 | true=>
  go_enter Tryz.func65,Tryz.ntmps65
  go_wp2_with (go_at_call 117;with_reducible refine hrd.mono ?_;rintro e w1 ⟨f,g',n',d',rfl,hf,_,hb1⟩
               obtain⟨fa,fb,ns,dsf,rfl,z1,z2,z3,z4,z5,z6,z7,z8⟩:=hf
               obtain⟨qn,kn,rfl⟩:=z1.form
               obtain⟨qm,km,rfl⟩:=z4.form
               have hw:Hid (Below w.heap.size w (w1.alloc (.cells #[.bool g',.slice qn ns.length kn,.slice qm dsf.length km] 156))):=(hb'.out.trans (hb1.mono hb'.out.size)).trans ((zaa w1 _).mono (Nat.le_trans hb'.out.size hb1.size))
               clear hb1)
  go_ret2
  exact⟨rfl,hw.out⟩
 | false=>
  go_enter Tryz.func65,Tryz.ntmps65
  go_wp2_with (first
   | (go_at_call 117;with_reducible refine hrd.mono ?_;rintro e w1 ⟨f,g',n',d',rfl,hf,hgn,hb1⟩
      obtain⟨rfl,rfl,rfl⟩:=hgn rfl
      have hf':=hf
      obtain⟨fa,fb,ns,dsf,rfl,z1,z2,z3,z4,z5,z6,z7,z8⟩:=hf'
      obtain⟨qn,kn,rfl⟩:=z1.form
      obtain⟨qm,km,rfl⟩:=z4.form
      have hb2:Below w1.heap.size w1 (w1.alloc (.cells #[.bool (mkG g X (denI Y)),.slice qn ns.length kn,.slice qm dsf.length km] 156)):=zaa w1 _
      have hfs:=zgn (hf.below hb2)
      rw[hsg.out] at hfs
      have hw:Hid (Below w.heap.size w (w1.alloc (.cells #[.bool (mkG g X (denI Y)),.slice qn ns.length kn,.slice qm dsf.length km] 156))):=(hb'.out.trans (hb1.mono hb'.out.size)).trans (hb2.mono (Nat.le_trans hb'.out.size hb1.size))
      clear hb1 hb2 hf z1 z2 z3 z4 z5 z6 z7 z8)
   | (go_at_call 118;with_reducible refine hfs.mono ?_;rintro e w2 ⟨rfl,hb3⟩))
  go_ret2
  exact⟨rfl,hw.out.trans (hb3.mono hw.out.size)⟩
theorem zmn {w:World} {g:Bool} {q1 p1:Option Addr} {c1 e1:Nat} {nu de:List Int} (h1:Sl w (.slice q1 nu.length c1) nu) (h2:Sl w (.slice p1 de.length e1) de) (ln:nu.length<=274877906000) (ld:de.length<=274877906000) (hT:Tb w):
  Calls Tryz.prog 40 #[.agg #[.bool g,.slice q1 nu.length c1,.slice p1 de.length e1]] w (Rt w (.bool (!large (val nu) (val de)&&decide (val nu=0)))):=by
 have hb:Below w.heap.size w (w.alloc (.cells #[.bool g,.slice q1 nu.length c1,.slice p1 de.length e1] 24)):=zaa w _
 have hsg:=zfx (g:=g) (h1.below hb) (h2.below hb) ln ld (hT.below hb)
 generalize val nu=X at*
 generalize val de=Y at*
 generalize hL:large X Y=L at*
 have hb':=zab hb
 clear h1 h2 hT hL hb
 cases L with
 | true=>
  go_enter Tryz.func40,Tryz.ntmps40
  go_wp2_with (go_at_call 65;with_reducible refine hsg.mono ?_;rintro e w1 ⟨rfl,hb1⟩)
  go_ret
  exact⟨rfl,hb'.out.trans (hb1.mono hb'.out.size)⟩
 | false=>
  have hz:decide (sgnQ g X Y=0)=decide (X=0):=by
   unfold sgnQ
   by_cases h:X=0
   ·simp[h]
   ·cases g<;>simp[h]
  simp only[Bool.false_eq_true,if_false] at hsg
  generalize sgnQ g X Y=S at*
  rw[<-hz]
  clear hz
  by_cases hS:S=0
  ·subst hS
   go_enter Tryz.func40,Tryz.ntmps40
   go_wp2_with (go_at_call 65;with_reducible refine hsg.mono ?_;rintro e w1 ⟨rfl,hb1⟩)
   go_ret
   exact⟨rfl,hb'.out.trans (hb1.mono hb'.out.size)⟩
  ·go_enter Tryz.func40,Tryz.ntmps40
   go_wp2_with (go_at_call 65;with_reducible refine hsg.mono ?_;rintro e w1 ⟨rfl,hb1⟩)
   go_ret
   exact⟨by simp[hS],hb'.out.trans (hb1.mono hb'.out.size)⟩
theorem zim {w:World} {g:Bool} {q1 p1:Option Addr} {c1 e1:Nat} {nu de:List Int} (h1:Sl w (.slice q1 nu.length c1) nu) (h2:Sl w (.slice p1 de.length e1) de) (ln:nu.length<=274877906000) (ld:de.length<=274877906000) (hT:Tb w):
  Calls Tryz.prog 67 #[.agg #[.bool g,.slice q1 nu.length c1,.slice p1 de.length e1]] w (Rt w (.bool (!large (val nu) (val de)))):=by
 have hb:Below w.heap.size w (w.alloc (.cells #[.bool g,.slice q1 nu.length c1,.slice p1 de.length e1] 24)):=zaa w _
 have hsg:=zfx (g:=g) (h1.below hb) (h2.below hb) ln ld (hT.below hb)
 generalize val nu=X at*
 generalize val de=Y at*
 generalize hL:large X Y=L at*
 have hb':=zab hb
 clear h1 h2 hT hL hb
 cases L with
 | true=>
  go_enter Tryz.func67,Tryz.ntmps67
  go_wp2_with (go_at_call 65;with_reducible refine hsg.mono ?_;rintro e w1 ⟨rfl,hb1⟩)
  go_ret
  exact⟨rfl,hb'.out.trans (hb1.mono hb'.out.size)⟩
 | false=>
  go_enter Tryz.func67,Tryz.ntmps67
  go_wp2_with (go_at_call 65;with_reducible refine hsg.mono ?_;rintro e w1 ⟨rfl,hb1⟩)
  go_ret
  exact⟨rfl,hb'.out.trans (hb1.mono hb'.out.size)⟩
theorem zdt {xs:List Int} (dx:Dig16 xs) (cx:Canon xs) (k:Nat):xs.length<=2*k↔val16 xs<pw k:=by
 have e:pw k=65536^(2*k):=by
  rw[Int.pow_mul]
  rfl
 rw[e]
 constructor
 ·intro h
  have h1:=zbm dx
  obtain⟨d,hd⟩:∃d,2*k=xs.length+d:=⟨2*k - xs.length,by omega⟩
  rw[hd,Int.pow_add]
  have hp:(0:Int)<65536^xs.length:=Int.pow_pos (by decide)
  have hq:(0:Int)<65536^d:=Int.pow_pos (by decide)
  have:=Int.mul_le_mul_of_nonneg_left hq (by omega:(0:Int)<=65536^xs.length)
  omega
 ·intro h
  exact zly dx cx h
theorem over_ok {w:World} {v:Value} {g:Bool} {n d:Int} (h:QAt w v g n d):
  Calls Tryz.prog 185 #[v] w (Rt w (.bool (!(decide (n<pw 64)&&decide (d<pw 64))))):=by
 obtain⟨a,b,ns,ds,rfl,h2,h3,rfl,h5,h6,rfl⟩:=h
 have e1:decide (val16 ns<pw 64)=decide (ns.length<=128):=decide_eq_decide.2 (zdt h2.1 h3 64).symm
 have e2:decide (val16 ds<pw 64)=decide (ds.length<=128):=decide_eq_decide.2 (zdt h5.1 h6 64).symm
 rw[e1,e2]
 obtain⟨q,cap,rfl⟩:=h2.form
 obtain⟨q',cap',rfl⟩:=h5.form
 clear h2 h3 h5 h6 e1 e2
 by_cases h1:ns.length<=128
 ·have h1':¬(ns.length:Int) > 128:=by omega
  by_cases h2:ds.length<=128
  ·have h2':¬(ds.length:Int) > 128:=by omega
   go_enter Tryz.func185,Tryz.ntmps185
   go_wp2
   go_ret
   exact⟨by simp,zaa _ _⟩
  ·have h2':(ds.length:Int) > 128:=by omega
   go_enter Tryz.func185,Tryz.ntmps185
   go_wp2
   go_ret
   exact⟨by simp,zaa _ _⟩
 ·have h1':(ns.length:Int) > 128:=by omega
  go_enter Tryz.func185,Tryz.ntmps185
  go_wp2
  go_ret
  exact⟨by simp[h1],zaa _ _⟩
theorem zgo {w:World} {g:Bool} {q1 p1:Option Addr} {n c1 m e1:Nat} {nu:List Int} (h1:Sl w (.slice q1 n c1) nu) (ln:nu.length<=34359738000):
  Calls Tryz.prog 182 #[.agg #[.bool g,.slice q1 n c1,.slice p1 m e1]] w (Rt w (.bool (decide (val nu=0)))):=by
 have hb:Below w.heap.size w (w.alloc (.cells #[.bool g,.slice q1 n c1,.slice p1 m e1] 24)):=zaa w _
 have hw:=zdj (h1.below hb) (by omega)
 have hz:decide (val nu=0)=decide ((trim (halves nu)).length=0):=decide_eq_decide.2 (by
  rw[<-zbd nu,<-zdz (zbk h1.1)]
  exact⟨fun h=>by rw[h];rfl,fun h=>List.eq_nil_of_length_eq_zero h⟩)
 rw[hz]
 clear hz h1
 by_cases h0:(trim (halves nu)).length=0
 ·go_enter Tryz.func182,Tryz.ntmps182
  go_wp2_with (go_at_call 184;with_reducible refine hw.mono ?_;rintro e w1 ⟨r,rfl,hr,hb1⟩
               obtain⟨qr,cr,rfl⟩:=hr.form
               rw[h0])
  go_ret
  exact⟨by simp[h0],hb.trans (hb1.mono hb.size)⟩
 ·go_enter Tryz.func182,Tryz.ntmps182
  go_wp2_with (go_at_call 184;with_reducible refine hw.mono ?_;rintro e w1 ⟨r,rfl,hr,hb1⟩
               obtain⟨qr,cr,rfl⟩:=hr.form)
  go_ret
  exact⟨by simp[h0],hb.trans (hb1.mono hb.size)⟩
theorem zke {n d:Int} (h1:n<pw 256) (h2:d<pw 256):(!(decide (mkN n (denI d)<pw 64)&&decide (mkD n (denI d)<pw 64)))=large n d:=by
 unfold large
 simp[h1,h2]
theorem ze7 {w:World} {g:Bool} {q1 p1:Option Addr} {n c1 m e1:Nat} {nu de:List Int} (h1:Sl w (.slice q1 n c1) nu) (h2:Sl w (.slice p1 m e1) de) (ln:nu.length<=34359738000) (ld:de.length<=34359738000):
  Calls Tryz.prog 101 #[.agg #[.bool g,.slice q1 n c1,.slice p1 m e1]] w (Rt w (.bool (large (val nu) (val de)))):=by
 have hb:Below w.heap.size w (w.alloc (.cells #[.bool g,.slice q1 n c1,.slice p1 m e1] 24)):=zaa w _
 have hk1:=zdj (h1.below hb) (by omega)
 have hk2:∀z,Below w.heap.size w z->Calls Tryz.prog 184 #[.slice p1 m e1] z fun e w'=>∃r,e=.returned r/\Sl16 w' r (trim (halves de))/\Below z.heap.size z w':=fun z hz=>zdj (h2.below hz) (by omega)
 have hof:∀z,Below w.heap.size w z->_:=fun z hz=>zfa (g:=g) (h1.below hz) (h2.below hz) (by omega) (by omega)
 have L1:=zdt (zaw (zbk h1.1)) (zal (halves nu)) 256
 have L2:=zdt (zaw (zbk h2.1)) (zal (halves de)) 256
 rw[zaq,zbd] at L1 L2
 generalize val nu=X at*
 generalize val de=Y at*
 have hL:Hid (((trim (halves nu)).length<=512↔X<pw 256)/\((trim (halves de)).length<=512↔Y<pw 256)):=⟨L1,L2⟩
 have hb':=zab hb
 generalize (trim (halves nu))=N at*
 generalize (trim (halves de))=D at*
 clear h1 h2 L1 L2 hb
 by_cases hA:N.length<=512
 ·have hA':¬(N.length:Int) > 512:=by omega
  by_cases hB:D.length<=512
  ·have hB':¬(D.length:Int) > 512:=by omega
   have hlo:Hid _:=zke (hL.out.1.1 hA) (hL.out.2.1 hB)
   go_enter Tryz.func101,Tryz.ntmps101
   go_wp2_with (first
    | (go_at_call 184;with_reducible refine hk1.mono ?_;rintro e w1 ⟨r,rfl,hr,hb1⟩
       obtain⟨qr,cr,rfl⟩:=hr.form
       have hw1:Hid (Below w.heap.size w w1):=hb'.out.trans (hb1.mono hb'.out.size)
       have x0:w1.cell? ⟨w.heap.size,0,none⟩=some (.bool g):=(hb1.cell (by show w.heap.size<_;simp)).trans (by simp)
       have x1:w1.cell? ⟨w.heap.size,1,none⟩=some (.slice q1 n c1):=(hb1.cell (by show w.heap.size<_;simp)).trans (by simp)
       have x2:w1.cell? ⟨w.heap.size,2,none⟩=some (.slice p1 m e1):=(hb1.cell (by show w.heap.size<_;simp)).trans (by simp)
       have s1:w.heap.size<w1.heap.size:=by have:=hb1.size;simp at this;omega
       clear hk1 hb1 hr)
    | (go_at_call 184;with_reducible refine(hk2 w1 hw1.out).mono ?_;rintro e w2 ⟨r2,rfl,hr2,hb2⟩
       obtain⟨qr2,cr2,rfl⟩:=hr2.form
       have hw2:Hid (Below w.heap.size w w2):=hw1.out.trans (hb2.mono hw1.out.size)
       have y0:=(hb2.cell (p:=⟨w.heap.size,0,none⟩) (by exact s1)).trans x0
       have y1:=(hb2.cell (p:=⟨w.heap.size,1,none⟩) (by exact s1)).trans x1
       have y2:=(hb2.cell (p:=⟨w.heap.size,2,none⟩) (by exact s1)).trans x2
       clear hk2 hb2 hr2 x0 x1 x2)
    | (go_at_call 106;with_reducible refine(hof _ hw2.out).mono ?_;rintro e w3 ⟨v,rfl,hq,hb3⟩
       have hov:=over_ok hq
       rw[hlo.out] at hov
       have hw3:Hid (Below w.heap.size w w3):=hw2.out.trans (hb3.mono hw2.out.size))
    | (go_at_call 185;with_reducible refine hov.mono ?_;rintro e w4 ⟨rfl,hb4⟩))
   go_ret
   exact⟨rfl,hw3.out.trans (hb4.mono hw3.out.size)⟩
  ·have hB':(D.length:Int) > 512:=by omega
   have hl:=zds (n:=X) (d:=Y) (.inr (fun h=>hB (hL.out.2.2 h)))
   rw[hl]
   clear hl hof
   go_enter Tryz.func101,Tryz.ntmps101
   go_wp2_with (first
    | (go_at_call 184;with_reducible refine hk1.mono ?_;rintro e w1 ⟨r,rfl,hr,hb1⟩
       obtain⟨qr,cr,rfl⟩:=hr.form
       have hw1:Hid (Below w.heap.size w w1):=hb'.out.trans (hb1.mono hb'.out.size)
       have x2:w1.cell? ⟨w.heap.size,2,none⟩=some (.slice p1 m e1):=(hb1.cell (by show w.heap.size<_;simp)).trans (by simp)
       clear hk1 hb1 hr)
    | (go_at_call 184;with_reducible refine(hk2 w1 hw1.out).mono ?_;rintro e w2 ⟨r2,rfl,hr2,hb2⟩
       obtain⟨qr2,cr2,rfl⟩:=hr2.form
       have hw2:Hid (Below w.heap.size w w2):=hw1.out.trans (hb2.mono hw1.out.size)
       clear hk2 hb2 hr2 x2))
   go_ret
   exact⟨rfl,hw2.out⟩
 ·have hA':(N.length:Int) > 512:=by omega
  have hl:=zds (n:=X) (d:=Y) (.inl (fun h=>hA (hL.out.1.2 h)))
  rw[hl]
  clear hl hof hk2
  go_enter Tryz.func101,Tryz.ntmps101
  go_wp2_with (go_at_call 184;with_reducible refine hk1.mono ?_;rintro e w1 ⟨r,rfl,hr,hb1⟩
               obtain⟨qr,cr,rfl⟩:=hr.form
               have hw1:Hid (Below w.heap.size w w1):=hb'.out.trans (hb1.mono hb'.out.size)
               clear hk1 hb1 hr)
  go_ret
  exact⟨rfl,hw1.out⟩
end Go.Proofs.YtnnhofmknilopaaGreatDoor
namespace Go.Proofs.YtnnhofmknilopaaGreatDoor
open Go
def rd (n:Nat):List UInt8:=if h:n=0 then [] else UInt8.ofNat (48+n % 10)::rd (n / 10)
termination_by n
decreasing_by omega
theorem zco:rd 0=[]:=by rw[rd];simp
theorem zfy {n:Nat} (h:n≠0):rd n=UInt8.ofNat (48+n % 10)::rd (n / 10):=by rw[rd,dif_neg h]
theorem zjg (n:Nat) (h:n≠0):Lib.decDigits n=(rd n).reverse:=by
 induction n using Nat.strongRecOn with
 | ind n ih=>
  rw[Lib.decDigits,zfy h]
  by_cases h1:n<10
  ·rw[dif_pos h1,Nat.div_eq_of_lt h1,zco,Nat.mod_eq_of_lt h1];rfl
  ·rw[dif_neg h1,ih (n / 10) (by omega) (by omega)];simp
theorem rd_ne {n:Nat} (h:n≠0):rd n≠[]:=by rw[zfy h];simp
theorem zjh:∀(k n:Nat),n<10^k->(rd n).length<=k
 | 0,n,h=>by
  have:n=0:=by simpa using h
  rw[this,zco];simp
 | k+1,n,h=>by
  by_cases h0:n=0
  ·rw[h0,zco];simp
  ·rw[zfy h0]
   have:=zjh k (n / 10) (by rw[Nat.pow_succ] at h;omega)
   simpa using this
theorem rd_step {q k r:Nat} (h:q*10^(k+1)+r≠0):rd (q*10^(k+1)+r)=UInt8.ofNat (48+r % 10)::rd (q*10^k+r / 10):=by
 rw[zfy h]
 have e:q*10^(k+1)=q*10^k*10:=by rw[Nat.pow_succ,Nat.mul_assoc]
 rw[e]
 have e1:(q*10^k*10+r) % 10=r % 10:=by omega
 have e2:(q*10^k*10+r) / 10=q*10^k+r / 10:=by omega
 rw[e1,e2]
def rdk:Nat->Nat->List UInt8
 | 0,_=>[]
 | k+1,n=>UInt8.ofNat (48+n % 10)::rdk k (n / 10)
theorem zin:∀k n,(rdk k n).length=k
 | 0,_=>rfl
 | k+1,n=>by simp[rdk,zin k]
theorem zmo:∀m k n,rdk (m+k) n=rdk m n++rdk k (n / 10^m)
 | 0,k,n=>by simp[rdk]
 | m+1,k,n=>by
  rw[show m+1+k=(m+k)+1 by omega,rdk,zmo m k,rdk,Nat.div_div_eq_div_mul,Nat.pow_succ,Nat.mul_comm 10];simp
theorem zji:∀k,rdk k 0=List.replicate k 48
 | 0=>rfl
 | k+1=>by rw[rdk,Nat.zero_div,zji k,List.replicate_succ];rfl
theorem rdk_rd:∀k n,n<10^k->rdk k n=rd n++List.replicate (k - (rd n).length) 48
 | 0,n,h=>by
  have:n=0:=by simpa using h
  rw[this,zco];rfl
 | k+1,n,h=>by
  by_cases h0:n=0
  ·subst h0;rw[zji,zco];simp
  ·rw[rdk,rdk_rd k (n / 10) (by rw[Nat.pow_succ] at h;omega),zfy h0];simp
theorem rd_last (n:Nat) (h:n≠0):(rd n).getD ((rd n).length - 1) 0≠48:=by
 induction n using Nat.strongRecOn with
 | ind n ih=>
  rw[zfy h]
  by_cases h1:n / 10=0
  ·rw[h1,zco]
   have:n<10:=by omega
   have e:n % 10=n:=Nat.mod_eq_of_lt this
   rw[e]
   simp
   intro hx
   have:=congrArg UInt8.toNat hx
   simp at this
   omega
  ·have h2:=ih (n / 10) (by omega) h1
   have h3:=rd_ne h1
   have h4:(rd (n / 10)).length≠0:=by simpa using h3
   rw[List.length_cons,show(rd (n / 10)).length+1 - 1=((rd (n / 10)).length - 1)+1 by omega,List.getD_cons_succ]
   exact h2
theorem u8_digit (r:Nat):((UInt8.ofNat (48+r % 10)).toNat:Int)=48+(r:Int) % 10:=by
 have:r % 10<10:=Nat.mod_lt _ (by decide)
 simp
 omega
end Go.Proofs.YtnnhofmknilopaaGreatDoor
