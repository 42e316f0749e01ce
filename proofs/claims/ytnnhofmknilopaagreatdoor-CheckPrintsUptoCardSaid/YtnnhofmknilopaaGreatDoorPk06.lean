import Derived.Test.YtnnhofmknilopaaGreatDoorPk05
namespace Go.Proofs.YtnnhofmknilopaaGreatDoor
open Go Go.RowKit
set_option maxRecDepth 100000
set_option maxHeartbeats 16000000
theorem zig {w:World} {v u:Value} {xs ys:List Int} (hx:Sl16 w v xs) (hy:Sl16 w u ys) (cx:Canon xs) (cy:Canon ys) (hle:val16 ys<=val16 xs) {m:Nat} (h1:ys.length=m+2) (lx:xs.length<=274877906000):
  Calls Tryz.prog 116 #[v,u] w fun e w'=>∃r1 r2 qs rs,e=.returned (.tuple #[r1,r2])/\Sl16 w' r1 qs/\Canon qs/\val16 qs=val16 xs / val16 ys/\Sl16 w' r2 rs/\Canon rs/\val16 rs=val16 xs % val16 ys/\Below w.heap.size w w':=by
 obtain⟨i0,hi,hz0,hz1,hz2⟩:=info_parts (show(Tryz.prog.info? 150).map (fun i=>(i.zero,i.size,i.bytes))=some (some (.int .u32 0),1,4) by kernel_rfl)
 have bv:=zdu hx hy cx cy
 have hY0:=cy (m+1) h1
 have hY1:=hy.1 (m+1)
 have ny:ys≠[]:=by intro h;simp[h] at h1
 have vy:=za6 hy.1 cy ny
 have lyx:=zci hy.1 hx.1 cy hle
 obtain⟨q,cap,rfl⟩:=hx.form
 obtain⟨_,_,q2,cap2,rfl,cB,hyx⟩:=id hy
 rcases hyx with h | ⟨b,o,rfl,hb,hc⟩
 ·simp[h] at h1
 have c0:=hc (m+1) (by omega)
 have cC:=bv
 generalize ys.getD (m+1) 0=Y at*
 have hx':=zab hx
 have hy':Hid (Sl16 w (.slice (some ⟨b,o,none⟩) (m+2) cap2) ys):=by rw[h1] at hy;exact hy
 have ce:Hid (val16 ys<=val16 xs):=hle
 have vy':Hid (0<val16 ys):=vy
 have cx':Hid (Canon xs):=cx
 have cy':Hid (Canon ys):=cy
 have gW:Hid (ys.length<=xs.length/\ys.length=m+2):=⟨lyx,h1⟩
 rw[h1] at cC cB ⊢
 rw[h1] at lyx
 clear hx hy hle hc bv ny vy cx cy h1
 go_enter Tryz.func116,Tryz.ntmps116
 go_wp2_with (go_at_call 200;refine cC.mono ?_;rintro e w1 ⟨c,rfl,hc1,hc2,hb1⟩
              have hcn:¬c<0:=fun h=>by have:=hc1.1 h;have:=ce.out;omega)
 have bD:Below w.heap.size w w1:=hb1
 go_loopw [8] (fun t8 wr=>∃s:Nat,t8=.int .i64 s/\s<=15/\Below w.heap.size w wr) (fun t8 _=>16 - (intOf t8).toNat)
 case atStart=>exact⟨0,rfl,by omega,bD⟩
 case round=>
  clear bD hb1
  obtain⟨s,rfl,hs,hbw⟩:=hrel
  have c1:wr.cell? ⟨b,o+(m+1),none⟩=some (.int .u32 Y):=(hbw.cell (by exact hb)).trans c0
  obtain⟨hy0,hy1⟩:=zle hY1.1 hY1.2 hs
  by_cases hlt:Y*2^s<32768
  ·have hs2:=shl_lt (by omega) hlt
   go_wp2
   go_roundw
   case rel=>exact⟨s+1,by go_num,by omega,hbw⟩
   case measure=>simp[intOf];omega
  ·have hV:=zg0 (hy'.out.below hbw) cy'.out (by rw[gW.out.2];omega) s hs
   go_wp2_with (first
    | (go_at_call 202;with_reducible refine hV.mono ?_;rintro e wv ⟨rv,vs,rfl,ov,dv,cv,vv,lv,hbv⟩
       have bO:Below w.heap.size w wv:=hbw.trans (hbv.mono hbw.size)
       have hU:=zg0 (hx'.out.below bO) cx'.out (by omega) s hs
       have sv:Sl16 wv rv vs:=ov.sl dv (by rw[gW.out.2] at lv;omega)
       obtain⟨qv,capv,rfl⟩:=sv.form)
    | (go_at_call 202;with_reducible refine hU.mono ?_;rintro e wu ⟨ru,zs,rfl,ou,du,cu,vu,lu,hbu⟩
       have ou2:wu.ownsRow wv.heap.size 150 1 ru zs.length (zs.map (Value.int .u32)):=ou)
    | (at_builtin;refine wpList_append_own _ rfl _ _ 90 rfl wv.heap.size 150 i0 (.int .u32 0) 1 4 Tryz.underlying90 hi hz0 hz1 hz2 rfl (by decide) _ _ _ rfl (ou2.alloc _) ⟨wu.heap.size,0,none⟩ 1 1 [.int .u32 0] rfl rfl (World.news_of_block (heap_alloc_last wu (.cells #[.int .u32 0] 150))) (ints_oneCell .u32 [0]) (by unfold maxLen;omega) (by omega) (by have:=hbu.size;simp;omega) ?_;intro v' w2 aA ap _
       obtain⟨gu,cp,n',Lq,rfl,hcp,lv2,lu2,hL1,aO,hF⟩:=divApp bO hbu aA ap (fun g hg=>(ou2.lt g hg).1) sv ce.out vy'.out vv vu dv du cv lv lu
       have hn':=hF.out.vl
       have hzl:=hF.out.zl
       clear aA ap hbv hbu ou ou2 sv ov vv vu dv du cv cu hV hU lv lu
       rw[hn',hzl]
       clear hn' hzl)
    | (at_make;refine wpList_make_full _ rfl _ _ 90 rfl w2.heap.size 150 i0 (.int .u32 0) 1 Tryz.underlying90 hi hz0 hz1 _ _ _ _ Lq rfl rfl (by omega) (by omega) (by rw[hz2];omega) (by unfold maxLen;omega) (Nat.le_refl _) ?_;intro w3 az aC))
   have hB3:Blk w3 w2.heap.size (List.replicate Lq 0):=zb1 (by simpa [Value.cells] using az)
   have hP3:BlkP w3 gu (zs++[0]):=hF.out.blk.below ((Below.refl _ _).grown aC (Nat.le_refl _) (fun _ h=>by cases h))
   have hS3:Sav gu w2 w3:=Sav.of ((Below.refl _ _).grown aC (Nat.le_refl _) (fun _ h=>by cases h))
   clear az aC
   go_loopw [13] (fun t13 wz=>∃(k:Nat) (us qs:List Int),k<=Lq/\t13=.int .i64 ((k:Int) - 1)/\Hid (Dv (zs++[0]) vs k us qs)/\BlkP wz gu us/\Blk wz w2.heap.size qs/\Sav gu w2 wz) (fun t13 _=>(intOf t13+1).toNat)
   case atStart=>exact⟨Lq,_,_,Nat.le_refl _,by go_num,divStart hF.out,hP3,hB3,hS3⟩
   case round=>
    clear hB3 hP3 hS3
    obtain⟨k,us,qs,hk,rfl,hdv,hP,hB,hS⟩:=hrel
    have hgl:gu<w2.heap.size:=hF.out.blk.lt
    match k,hk,hdv with
    | 0,hk,hdv=>
     have hsg:=hS.size
     have hcp1:n'+1<=cp:=by omega
     have hcp2:(n':Int)+1<=(cp:Int):=by omega
     have hcp3:n'<cp:=by omega
     have hcp4:(n':Int)<(cp:Int):=by omega
     have hcp5:¬(cp:Int)<(n':Int)+1:=by omega
     have hcp6:¬(n':Int)+1<0:=by omega
     have hcp7:0<=(n':Int)+1:=by omega
     have hcp8:((n':Int)+1).toNat=n'+1:=by omega
     obtain⟨r1,r2,hr1,vr1,hr2,hr3⟩:=divEnd (cap:=cp) hF.out hdv.out hP hB hs (by omega) (by omega) (by omega) hL1
     have vr1':=zab vr1
     clear vr1
     have hbz:Below w.heap.size w wr:=aO.trans (hS.below hF.out.gu aO.size)
     go_wp2
     go_region_held3 (fun _=>True) (exact trivial)
      (first
        | (go_at_call 204;with_reducible refine(hr1 _ ?_).1.mono ?_;exact(Below.refl _ _).drew;rintro e w5 ⟨rfl,rfl⟩)
        | (go_at_call 204;with_reducible refine(hr2 _ ?_).mono ?_;exact(Below.refl _ _).drew;rintro e w6 ⟨rfl,rfl⟩)
        | (go_at_call 205;with_reducible refine(hr3 _ ?_).mono ?_;exact(Below.refl _ _).drew;rintro e w7 ⟨r3,rs,rfl,h5,h6,h7,h8⟩))
     all_goals
      have h9:Below wr.heap.size wr w7:=(Below.refl wr.heap.size wr).drew.trans h8
      go_wp2
      go_ret2
      exact⟨r1,r3,trim qs,rs,rfl,(hr1 _ (Below.refl _ _)).2.below h9,zal _,vr1'.out,h5,h6,h7,hbz.trans (h9.mono hbz.size)⟩
    | k+1,hk,hdv=>
     have e1:((k+1:Nat):Int) - 1=(k:Int):=by omega
     rw[e1]
     clear e1
     have e2:k+(n'+1)+1 - k=n'+2:=by omega
     obtain⟨d,fI,cS⟩:=divRound (cap:=cp - k) hF.out (by omega) hdv.out hP hS (by omega) (by omega) (by omega)
     obtain⟨hd0,hd1⟩:=fI
     have hvl:=hF.out.vl
     rw[hvl] at cS
     clear hvl
     go_wp2_with (go_at_call 203;with_reducible refine cS.mono ?_;rintro e w4 ⟨rfl,us',hP4,fJ,hS4⟩
                  have hB4:=hB.sav hS4 (by omega)
                  have hql:qs.length=Lq:=by
                   have h1:=hdv.out.qlen
                   have h2:=hF.out.vl
                   have h3:=hF.out.zl
                   rw[List.length_append,List.length_singleton] at h1
                   omega
                  have c2:w4.cell? ⟨w2.heap.size,k,none⟩=some (.int .u32 (qs.getD k 0)):=hB4.cell (by omega)
                  have hfr:=hB4.frozen k
                  generalize qs.getD k 0=OK at c2
                  clear hql)
     go_roundw
     case rel=>
      exact⟨k,us',qs.set k d,by omega,by go_num,fJ,hP4.setOther (by simp;omega) _,hB4.set _ _,(hS.trans hS4).setFresh (by simp) _⟩
     case measure=>simp[intOf]
theorem zcn {w:World} {v u:Value} {xs ys:List Int} (hx:Sl16 w v xs) (hy:Sl16 w u ys) (cx:Canon xs) (cy:Canon ys) (ny:ys≠[]) (lx:xs.length<=274877906000):
  Calls Tryz.prog 116 #[v,u] w fun e w'=>∃r1 r2 qs rs,e=.returned (.tuple #[r1,r2])/\Sl16 w' r1 qs/\Canon qs/\val16 qs=val16 xs / val16 ys/\Sl16 w' r2 rs/\Canon rs/\val16 rs=val16 xs % val16 ys/\Below w.heap.size w w':=by
 have x0:=zai hx.1
 by_cases hlt:val16 xs<val16 ys
 ·refine(zld hx hy cx cy ny hlt).mono ?_
  rintro e w' ⟨r1,r2,rfl,h1,h2,hb⟩
  exact⟨r1,r2,[],xs,rfl,h1,fun m hm=>by simp at hm,by rw[Int.ediv_eq_zero_of_lt x0 hlt];rfl,h2,cx,by rw[Int.emod_eq_of_lt x0 hlt],hb⟩
 ·have bB:=List.length_pos_iff.2 ny
  by_cases h1:ys.length=1
  ·exact zj0 hx hy cx cy (by omega) h1 (by omega)
  ·obtain⟨m,hm⟩:∃m,ys.length=m+2:=⟨ys.length - 2,by omega⟩
   exact zig hx hy cx cy (by omega) hm lx
def valAt (w:World) (v:Value):Nat:=
 match v with
 | .slice (some a) n _=>(val16 ((List.range n).map fun i=>match w.cell? ⟨a.block,a.off+i,none⟩ with | some (.int _ x)=>x | _=>0)).toNat
 | _=>0
theorem Sl16.valAt {w:World} {v:Value} {xs:List Int} (h:Sl16 w v xs):valAt w v=(val16 xs).toNat:=by
 obtain⟨_,_,q,cap,rfl,_,hx⟩:=h
 rcases hx with rfl | ⟨b,o,rfl,_,hc⟩
 ·cases q<;>simp[Go.Proofs.YtnnhofmknilopaaGreatDoor.valAt,val16]
 ·unfold Go.Proofs.YtnnhofmknilopaaGreatDoor.valAt
  simp only[]
  congr 2
  apply List.ext_getElem?
  intro i
  by_cases hi:i<xs.length
  ·rw[List.getElem?_map,List.getElem?_range hi]
   simp only[Option.map_some]
   rw[hc i hi]
   simp[hi]
  ·simp[hi]
def gcdI (a b:Int):Int:=(Nat.gcd a.toNat b.toNat:Nat)
theorem zhb {a b:Int} (ha:0<=a) (hb:0<b):gcdI b (a % b)=gcdI a b:=by
 unfold gcdI
 rw[Int.toNat_emod ha (by omega),Nat.gcd_comm,<-Nat.gcd_rec,Nat.gcd_comm]
theorem zhc {a:Int} (ha:0<=a):gcdI a 0=a:=by
 unfold gcdI
 simp
 omega
theorem zlu {w:World} {v u:Value} {xs ys:List Int} (hx:Sl16 w v xs) (hy:Sl16 w u ys) (cx:Canon xs) (cy:Canon ys) (lx:xs.length<=274877906000) (ly:ys.length<=274877906000):
  Calls Tryz.prog 115 #[v,u] w fun e w'=>∃r gs,e=.returned r/\Sl16 w' r gs/\Canon gs/\val16 gs=gcdI (val16 xs) (val16 ys)/\gs.length<=274877906000/\Below w.heap.size w w':=by
 have hx':Hid (Sl16 w v xs):=hx
 have hy':Hid (Sl16 w u ys):=hy
 obtain⟨G,hG⟩:∃G,Hid (gcdI (val16 xs) (val16 ys)=G):=⟨_,rfl⟩
 rw[hG.out]
 have cx':Hid (Canon xs):=cx
 have cy':Hid (Canon ys):=cy
 clear hx hy cx cy
 go_enter Tryz.func115,Tryz.ntmps115
 go_wp2
 go_loopw [0,1,5,6] (fun t0 t1 t5 t6 wr=>∃(sa sb:List Int),Hid (Sl16 wr t0 sa/\Sl16 wr t1 sb/\Canon sa/\Canon sb/\gcdI (val16 sa) (val16 sb)=G)/\sa.length<=274877906000/\sb.length<=274877906000/\Below w.heap.size w wr) (fun t0 t1 t5 t6 wr=>valAt wr t1)
 case atStart=>exact⟨xs,ys,⟨hx'.out,hy'.out,cx'.out,cy'.out,hG.out⟩,lx,ly,Below.refl _ _⟩
 case round=>
  clear hx' hy' cx' cy' lx ly
  obtain⟨sa,sb,hab,la,lb,hbw⟩:=hrel
  obtain⟨q2,cap2,rfl⟩:=hab.out.2.1.form
  obtain⟨q1,cap1,rfl⟩:=hab.out.1.form
  by_cases hne:sb=[]
  ·subst hne
   go_wp2
   go_ret
   have h:=hab.out
   have a0:=zai h.1.1
   refine⟨_,sa,rfl,h.1,h.2.2.1,?_,la,hbw⟩
   rw[<-h.2.2.2.2]
   exact(zhc a0).symm
  ·have hbl:0<sb.length:=List.length_pos_iff.2 hne
   have hdv:=zcn hab.out.1 hab.out.2.1 hab.out.2.2.1 hab.out.2.2.2.1 hne la
   go_wp2_with (go_at_call 116;with_reducible refine hdv.mono ?_;rintro e w2 ⟨r1,r2,qs,rs,rfl,h1,h2,h3,h4,h5,h6,hb2⟩)
   have a0:=zai hab.out.1.1
   have b0:=za6 hab.out.2.1.1 hab.out.2.2.2.1 hne
   have hml:=Int.emod_lt_of_pos (val16 sa) b0
   have hm0:=Int.emod_nonneg (val16 sa) (by omega:val16 sb≠0)
   have lrs:=zci h4.1 hab.out.2.1.1 h5 (by omega)
   go_roundw
   case rel=>
    refine⟨sb,rs,⟨hab.out.2.1.below hb2,h4,hab.out.2.2.2.1,h5,?_⟩,lb,by omega,hbw.trans (hb2.mono hbw.size)⟩
    rw[h6,zhb a0 b0]
    exact hab.out.2.2.2.2
   case measure=>
    rw[h4.valAt,hab.out.2.1.valAt,h6]
    omega
def QAt (w:World) (v:Value) (g:Bool) (n d:Int):Prop:=
 ∃a b ns ds,v=.agg #[.bool g,a,b]/\Sl16 w a ns/\Canon ns/\val16 ns=n/\Sl16 w b ds/\Canon ds/\val16 ds=d
theorem QAt.below {w w':World} {v:Value} {g:Bool} {n d:Int} (h:QAt w v g n d) (hb:Below w.heap.size w w'):QAt w' v g n d:=by
 obtain⟨a,b,ns,ds,h1,h2,h3,h4,h5,h6,h7⟩:=h
 exact⟨a,b,ns,ds,h1,h2.below hb,h3,h4,h5.below hb,h6,h7⟩
def mkG (g:Bool) (n d:Int):Bool:=if n=0\/d=0 then false else g
def mkN (n d:Int):Int:=if n=0\/d=0 then 0 else n / gcdI n d
def mkD (n d:Int):Int:=if n=0\/d=0 then 1 else d / gcdI n d
theorem zi9 {a:Int}:gcdI a 1=1:=by
 unfold gcdI
 simp
theorem zep {a b:Int} (ha:0<a):0<gcdI a b:=by
 unfold gcdI
 have:=Nat.gcd_pos_of_pos_left b.toNat (by omega:0<a.toNat)
 omega
theorem zlv {ds:List Int} (h1:ds.length=1):val16 ds=ds.getD 0 0:=by
 have:=zc0 (m:=0) h1
 rw[this]
 simp[val16]
def QNew (w:World) (N:Nat):Prop:=w.heap[N]?=some (.cells #[.bool false,.slice none 0 0,.slice none 0 0] 92 (0,0))
theorem QNew.made (w:World):QNew (w.alloc (.cells #[.bool false,.slice none 0 0,.slice none 0 0] 92)) w.heap.size:=heap_alloc_new w _
theorem QNew.below {w w':World} {N:Nat} (h:QNew w N) (hb:Below w.heap.size w w'):QNew w' N:=by
 unfold QNew at h ⊢
 rw[hb.block N (Array.getElem?_eq_some_iff.1 h).1]
 exact h
theorem QNew.c0 {w:World} {N:Nat} (h:QNew w N):w.cell? ⟨N,0,none⟩=some (.bool false):=by unfold QNew at h;simp[World.cell?,h]
theorem QNew.c1 {w:World} {N:Nat} (h:QNew w N):w.cell? ⟨N,1,none⟩=some (.slice none 0 0):=by unfold QNew at h;simp[World.cell?,h]
theorem QNew.c2 {w:World} {N:Nat} (h:QNew w N):w.cell? ⟨N,2,none⟩=some (.slice none 0 0):=by unfold QNew at h;simp[World.cell?,h]
theorem QNew.fr {w:World} {N:Nat} (h:QNew w N) (j:Nat):w.frozen? ⟨N,j,none⟩=false:=by unfold QNew at h;simp[World.frozen?,h]
theorem QNew.no {w:World} {N:Nat} (h:QNew w N) (j:Nat) (x:Int):w.cell? ⟨N,j,none⟩≠some (.int .u32 x):=by
 unfold QNew at h
 simp only[World.cell?,h]
 match j with
 | 0=>simp
 | 1=>simp
 | 2=>simp
 | j+3=>simp
theorem Sl16.notQ {w:World} {v:Value} {xs:List Int} {N:Nat} (h:Sl16 w v xs) (hN:QNew w N):Sl16N N w v xs:=by
 obtain⟨h1,h2,q,cap,h3,h4,h5⟩:=h
 refine⟨h1,h2,q,cap,h3,h4,?_⟩
 by_cases hx:xs=[]
 ·exact .inl hx
 ·rcases h5 with h5 | ⟨b,o,e,hlt,hc⟩
  ·exact absurd h5 hx
  ·refine .inr ⟨b,o,e,hlt,?_,hc⟩
   rintro rfl
   exact hN.no _ _ (hc 0 (List.length_pos_iff.2 hx))
theorem zdp {w:World} {N:Nat} (h:QNew w N) (x0 x1 x2:Value):(((w.setCell ⟨N,0,none⟩ x0).setCell ⟨N,1,none⟩ x1).setCell ⟨N,2,none⟩ x2).rangeAt N 0 [x0,x1,x2]/\Sav N w (((w.setCell ⟨N,0,none⟩ x0).setCell ⟨N,1,none⟩ x1).setCell ⟨N,2,none⟩ x2):=by
 refine⟨fun j v hv=>?_,((Sav.of (Below.refl _ _)).setCell 0 x0 |>.setCell 1 x1).setCell 2 x2⟩
 match j,hv with
 | 0,hv=>
  simp only[List.getElem?_cons_zero,Option.some.injEq] at hv
  subst hv
  rw[World.cell?_setCell_other _ _ _ _ (by simp),World.cell?_setCell_other _ _ _ _ (by simp),World.cell?_setCell_same _ _ _ h.c0]
 | 1,hv=>
  simp only[List.getElem?_cons_succ,List.getElem?_cons_zero,Option.some.injEq] at hv
  subst hv
  rw[World.cell?_setCell_other _ _ _ _ (by simp),World.cell?_setCell_same _ _ _ (by rw[World.cell?_setCell_other _ _ _ _ (by simp)];exact h.c1)]
 | 2,hv=>
  simp only[List.getElem?_cons_succ,List.getElem?_cons_zero,Option.some.injEq] at hv
  subst hv
  rw[World.cell?_setCell_same _ _ _ (by rw[World.cell?_setCell_other _ _ _ _ (by simp),World.cell?_setCell_other _ _ _ _ (by simp)];exact h.c2)]
theorem zlw:∃d,Tryz.prog.underlying 92=some d/\d.isRow=true:=⟨_,Tryz.underlying92,rfl⟩
theorem zdq:(Tryz.prog.info? 92).map (·.size)=some 3:=by kernel_rfl
theorem zhd {w:World} {g:Bool} {q q':Option Addr} {m n cap cap':Nat} (h:((m:Int)==0)=true\/((m:Int)==0)=false/\((n:Int)==0)=true):
  Calls Tryz.prog 63 #[.bool g,.slice q m cap,.slice q' n cap'] w fun e w'=>∃v,e=.returned v/\QAt w' v false 0 1/\Below w.heap.size w w':=by
 have hof:=fun z=>zbs z 1 (by omega) (by omega)
 have am:=QNew.made w
 have hb0:Below w.heap.size w (w.alloc (.cells #[.bool false,.slice none 0 0,.slice none 0 0] 92)):=zaa w _
 obtain⟨dd,hu,hd⟩:=zlw
 have key:∀w1 r zs,Below (w.alloc (.cells #[.bool false,.slice none 0 0,.slice none 0 0] 92)).heap.size (w.alloc (.cells #[.bool false,.slice none 0 0,.slice none 0 0] 92)) w1->Sl16 w1 r zs->Canon zs->val16 zs=1->
   Hid (QAt (((w1.setCell ⟨w.heap.size,0,none⟩ (.bool false)).setCell ⟨w.heap.size,1,none⟩ (.slice none 0 0)).setCell ⟨w.heap.size,2,none⟩ r) (.agg #[.bool false,.slice none 0 0,r]) false 0 1/\Below w.heap.size w (((w1.setCell ⟨w.heap.size,0,none⟩ (.bool false)).setCell ⟨w.heap.size,1,none⟩ (.slice none 0 0)).setCell ⟨w.heap.size,2,none⟩ r)):=by
  intro w1 r zs hb1 hz hzc hzv
  have h1:=am.below hb1
  obtain⟨_,h3⟩:=zdp h1 (.bool false) (.slice none 0 0) r
  exact⟨⟨_,r,[],zs,rfl,⟨fun j=>by simp[List.getD],by simp,none,0,rfl,Nat.le_refl _,.inl rfl⟩,fun m hm=>by simp at hm,rfl,((hz.notQ h1).sav h3).sl,hzc,hzv⟩,(hb0.trans (hb1.mono hb0.size)).trans (h3.below (Nat.le_refl _) (Nat.le_trans hb0.size hb1.size))⟩
 rcases h with h | ⟨h,h2⟩
 ·go_enter Tryz.func63,Tryz.ntmps63
  go_wp2_with (go_at_call 64;with_reducible refine(hof _).mono ?_;rintro e w1 ⟨r,zs,rfl,hz,hzc,hzv,hzl,hb1⟩
               obtain⟨qr,cr,rfl⟩:=hz.form
               have hk:=key _ _ _ hb1 hz hzc hzv
               have h1:=am.below hb1
               have c0:=h1.c0
               have c1:=h1.c1
               have c2:=h1.c2
               have fr:=h1.fr
               have af:=(zdp h1 (.bool false) (.slice none 0 0) (.slice qr zs.length cr)).1
               clear key hb1 h1 am hb0)
  refine bodyPost_ret (zaj rfl _ _ w.heap.size _ dd rfl af hu hd zdq) rfl ?_
  exact⟨_,rfl,hk.out⟩
 ·go_enter Tryz.func63,Tryz.ntmps63
  go_wp2_with (go_at_call 64;with_reducible refine(hof _).mono ?_;rintro e w1 ⟨r,zs,rfl,hz,hzc,hzv,hzl,hb1⟩
               obtain⟨qr,cr,rfl⟩:=hz.form
               have hk:=key _ _ _ hb1 hz hzc hzv
               have h1:=am.below hb1
               have c0:=h1.c0
               have c1:=h1.c1
               have c2:=h1.c2
               have fr:=h1.fr
               have af:=(zdp h1 (.bool false) (.slice none 0 0) (.slice qr zs.length cr)).1
               clear key hb1 h1 am hb0)
  refine bodyPost_ret (zaj rfl _ _ w.heap.size _ dd rfl af hu hd zdq) rfl ?_
  exact⟨_,rfl,hk.out⟩
theorem zlx {w W0 w1:World} {g:Bool} {a b:Value} {ns ds:List Int} {n d:Int} (h0:QNew W0 w.heap.size) (hb0:Below w.heap.size w W0) (hb1:Below W0.heap.size W0 w1) (ha:Sl16 w1 a ns) (ca:Canon ns) (va:val16 ns=n) (hb:Sl16 w1 b ds) (cb:Canon ds) (vb:val16 ds=d):
  Hid (QAt (((w1.setCell ⟨w.heap.size,0,none⟩ (.bool g)).setCell ⟨w.heap.size,1,none⟩ a).setCell ⟨w.heap.size,2,none⟩ b) (.agg #[.bool g,a,b]) g n d/\Below w.heap.size w (((w1.setCell ⟨w.heap.size,0,none⟩ (.bool g)).setCell ⟨w.heap.size,1,none⟩ a).setCell ⟨w.heap.size,2,none⟩ b))/\
  (((w1.setCell ⟨w.heap.size,0,none⟩ (.bool g)).setCell ⟨w.heap.size,1,none⟩ a).setCell ⟨w.heap.size,2,none⟩ b).rangeAt w.heap.size 0 [.bool g,a,b]:=by
 have h1:=h0.below hb1
 obtain⟨h2,h3⟩:=zdp h1 (.bool g) a b
 exact⟨⟨⟨a,b,ns,ds,rfl,((ha.notQ h1).sav h3).sl,ca,va,((hb.notQ h1).sav h3).sl,cb,vb⟩,(hb0.trans (hb1.mono hb0.size)).trans (h3.below (Nat.le_refl _) (Nat.le_trans hb0.size hb1.size))⟩,h2⟩
theorem zj5 {w:World} {g:Bool} {q q':Option Addr} {cap cap':Nat} {xs ys:List Int} (hx:Sl16 w (.slice q xs.length cap) xs) (hy:Sl16 w (.slice q' 1 cap') ys) (cx:Canon xs) (nx:((xs.length:Int)==0)=false) (hy0:ys.length=1) (hy1:ys.getD 0 0=1):
  Calls Tryz.prog 63 #[.bool g,.slice q xs.length cap,.slice q' 1 cap'] w fun e w'=>∃v,e=.returned v/\QAt w' v g (val16 xs) 1/\Below w.heap.size w w':=by
 have hof:=fun z=>zbs z 1 (by omega) (by omega)
 have am:=QNew.made w
 have hb0:Below w.heap.size w (w.alloc (.cells #[.bool false,.slice none 0 0,.slice none 0 0] 92)):=zaa w _
 obtain⟨dd,hu,hd⟩:=zlw
 have lx:=hx.2.1
 obtain⟨_,_,q2,cap2,e,_,hyx⟩:=hy
 simp only[Value.slice.injEq] at e
 obtain⟨rfl,he,rfl⟩:=e
 clear he
 rcases hyx with h | ⟨b,o,rfl,hb,hc⟩
 ·simp[h] at hy0
 have h00:=hc 0 (by omega)
 rw[hy1] at h00
 have c9:(w.alloc (.cells #[.bool false,.slice none 0 0,.slice none 0 0] 92)).cell? ⟨b,o,none⟩=some (.int .u32 1):=(hb0.cell (p:=⟨b,o,none⟩) (by exact hb)).trans h00
 clear h00
 have hx1:=(hx.below hb0).below (zaa (w.alloc (.cells #[.bool false,.slice none 0 0,.slice none 0 0] 92)) (.cells #[] 150))
 have hx':=zab hx
 have cx':Hid (Canon xs):=cx
 have ja:Hid (Sl16 ((w.alloc (.cells #[.bool false,.slice none 0 0,.slice none 0 0] 92)).alloc (.cells #[] 150)) (.slice q xs.length cap) xs):=hx1
 clear hx hc hy0 hy1 cx hx1
 have own1:Hid (((w.alloc (.cells #[.bool false,.slice none 0 0,.slice none 0 0] 92)).alloc (.cells #[] 150)).ownsRow (w.alloc (.cells #[.bool false,.slice none 0 0,.slice none 0 0] 92)).heap.size 150 1 (.slice (some ⟨w.heap.size+1,0,none⟩) 0 0) 0 []):=by
  have:=zdl (w.alloc (.cells #[.bool false,.slice none 0 0,.slice none 0 0] 92))
  have e:(w.alloc (.cells #[.bool false,.slice none 0 0,.slice none 0 0] 92)).heap.size=w.heap.size+1:=by simp
  rw[e] at this ⊢
  exact this
 go_enter Tryz.func63,Tryz.ntmps63
 go_wp2_with (first
  | (at_builtin;refine za2 rfl _ _ rfl (w.alloc (.cells #[.bool false,.slice none 0 0,.slice none 0 0] 92)).heap.size (.slice (some ⟨w.heap.size+1,0,none⟩) 0 0) 0 [] rfl own1.out xs (.slice q xs.length cap) rfl ja.out (by omega) (by simp) ?_;intro v' w2 aA dj
     have hb2:Below (w.alloc (.cells #[.bool false,.slice none 0 0,.slice none 0 0] 92)).heap.size (w.alloc (.cells #[.bool false,.slice none 0 0,.slice none 0 0] 92)) w2:=(zaa (w.alloc (.cells #[.bool false,.slice none 0 0,.slice none 0 0] 92)) _).grown dj (by simp) (fun g hg=>by cases hg;simp)
     have hs2:Sl16 w2 v' xs:=zem (base:=(w.alloc (.cells #[.bool false,.slice none 0 0,.slice none 0 0] 92)).heap.size) rfl (by simpa using aA) hx'.out.1 lx
     obtain⟨q3,cap3,rfl⟩:=hs2.form)
  | (go_at_call 64;with_reducible refine(hof _).mono ?_;rintro e w3 ⟨r,zs,rfl,hz,hzc,hzv,hzl,hb3⟩
     obtain⟨qr,cr,rfl⟩:=hz.form
     have aU:Below (w.alloc (.cells #[.bool false,.slice none 0 0,.slice none 0 0] 92)).heap.size (w.alloc (.cells #[.bool false,.slice none 0 0,.slice none 0 0] 92)) w3:=hb2.trans (hb3.mono hb2.size)
     obtain⟨hk,af⟩:=zlx (g:=g) am hb0 aU (hs2.below hb3) cx'.out rfl hz hzc hzv
     have h1:=am.below aU
     have c0:=h1.c0
     have c1:=h1.c1
     have c2:=h1.c2
     have fr:=h1.fr
     clear hb3 h1 am hb0 hb2 aU))
 refine bodyPost_ret (zaj rfl _ _ w.heap.size _ dd rfl af hu hd zdq) rfl ?_
 exact⟨_,rfl,hk.out⟩
theorem zja {w:World} {g:Bool} {q q':Option Addr} {cap cap':Nat} {xs ys:List Int} (hx:Sl16 w (.slice q xs.length cap) xs) (hy:Sl16 w (.slice q' ys.length cap') ys) (cx:Canon xs) (cy:Canon ys) (nx:((xs.length:Int)==0)=false) (ny:((ys.length:Int)==0)=false)
  (lx:xs.length<=274877906000) (ly:ys.length<=274877906000)
  (h1:((ys.length:Int)==1)=false\/((ys.length:Int)==1)=true/\∃b o X,q'=some ⟨b,o,none⟩/\b<w.heap.size/\w.cell? ⟨b,o,none⟩=some (.int .u32 X)/\(X==1)=false/\0<ys.length):
  Calls Tryz.prog 63 #[.bool g,.slice q xs.length cap,.slice q' ys.length cap'] w fun e w'=>∃v,e=.returned v/\QAt w' v g (val16 xs / gcdI (val16 xs) (val16 ys)) (val16 ys / gcdI (val16 xs) (val16 ys))/\Below w.heap.size w w':=by
 have am:=QNew.made w
 have hb0:Below w.heap.size w (w.alloc (.cells #[.bool false,.slice none 0 0,.slice none 0 0] 92)):=zaa w _
 obtain⟨dd,hu,hd⟩:=zlw
 have x0:xs≠[]:=by rintro rfl;simp at nx
 have vx:=za6 hx.1 cx x0
 have hgp:=zep (b:=val16 ys) vx
 have hx0:Hid (Sl16 w (.slice q xs.length cap) xs/\Canon xs):=⟨hx,cx⟩
 have hy0:Hid (Sl16 w (.slice q' ys.length cap') ys/\Canon ys):=⟨hy,cy⟩
 have cU:=zlu (hx.below hb0) (hy.below hb0) cx cy lx ly
 obtain⟨G,hG⟩:∃G,gcdI (val16 xs) (val16 ys)=G:=⟨_,rfl⟩
 rw[hG] at cU hgp ⊢
 have eR:Hid (0<G):=hgp
 clear hx hy cx cy hG x0 vx hgp
 rcases h1 with h1 | ⟨h1,b,o,X,rfl,hb,hc,hX,hyl⟩
 ·go_enter Tryz.func63,Tryz.ntmps63
  go_wp2_with (first
   | (go_at_call 115;with_reducible refine cU.mono ?_;rintro e w1 ⟨rg,gs,rfl,hg,cg,vg,lg,hb1⟩
      have ng:gs≠[]:=by
       rintro rfl
       have:=eR.out
       simp only[val16] at vg
       omega
      have hd1:=zcn ((hx0.out.1.below hb0).below hb1) hg hx0.out.2 cg ng lx)
   | (go_at_call 116;with_reducible refine hd1.mono ?_;rintro e w2 ⟨r1,r2,ns,rs,rfl,hn,cn,vn,_,_,_,hb2⟩
      have hd2:=zcn (((hy0.out.1.below hb0).below hb1).below hb2) (hg.below hb2) hy0.out.2 cg ng ly)
   | (go_at_call 116;with_reducible refine hd2.mono ?_;rintro e w3 ⟨r3,r4,ds,rs',rfl,hdd,cd,vd,_,_,_,hb3⟩
      rw[vg] at vn vd
      obtain⟨qn,kn,rfl⟩:=hn.form
      obtain⟨qd,kd,rfl⟩:=hdd.form
      have aU:Below (w.alloc (.cells #[.bool false,.slice none 0 0,.slice none 0 0] 92)).heap.size (w.alloc (.cells #[.bool false,.slice none 0 0,.slice none 0 0] 92)) w3:=hb1.trans ((hb2.trans (hb3.mono hb2.size)).mono hb1.size)
      obtain⟨hk,af⟩:=zlx (g:=g) am hb0 aU (hn.below hb3) cn vn hdd cd vd
      have h9:=am.below aU
      have c0:=h9.c0
      have c1:=h9.c1
      have c2:=h9.c2
      have fr:=h9.fr
      clear hb3 h9 am hb0 hb2 aU hb1 hd1 hd2 cU))
  refine bodyPost_ret (zaj rfl _ _ w.heap.size _ dd rfl af hu hd zdq) rfl ?_
  exact⟨_,rfl,hk.out⟩
 ·have c9:(w.alloc (.cells #[.bool false,.slice none 0 0,.slice none 0 0] 92)).cell? ⟨b,o,none⟩=some (.int .u32 X):=(hb0.cell (by exact hb)).trans hc
  clear hc
  go_enter Tryz.func63,Tryz.ntmps63
  go_wp2_with (first
   | (go_at_call 115;with_reducible refine cU.mono ?_;rintro e w1 ⟨rg,gs,rfl,hg,cg,vg,lg,hb1⟩
      have ng:gs≠[]:=by
       rintro rfl
       have:=eR.out
       simp only[val16] at vg
       omega
      have hd1:=zcn ((hx0.out.1.below hb0).below hb1) hg hx0.out.2 cg ng lx)
   | (go_at_call 116;with_reducible refine hd1.mono ?_;rintro e w2 ⟨r1,r2,ns,rs,rfl,hn,cn,vn,_,_,_,hb2⟩
      have hd2:=zcn (((hy0.out.1.below hb0).below hb1).below hb2) (hg.below hb2) hy0.out.2 cg ng ly)
   | (go_at_call 116;with_reducible refine hd2.mono ?_;rintro e w3 ⟨r3,r4,ds,rs',rfl,hdd,cd,vd,_,_,_,hb3⟩
      rw[vg] at vn vd
      obtain⟨qn,kn,rfl⟩:=hn.form
      obtain⟨qd,kd,rfl⟩:=hdd.form
      have aU:Below (w.alloc (.cells #[.bool false,.slice none 0 0,.slice none 0 0] 92)).heap.size (w.alloc (.cells #[.bool false,.slice none 0 0,.slice none 0 0] 92)) w3:=hb1.trans ((hb2.trans (hb3.mono hb2.size)).mono hb1.size)
      obtain⟨hk,af⟩:=zlx (g:=g) am hb0 aU (hn.below hb3) cn vn hdd cd vd
      have h9:=am.below aU
      have c0:=h9.c0
      have c1:=h9.c1
      have c2:=h9.c2
      have fr:=h9.fr
      clear hb3 h9 am hb0 hb2 aU hb1 hd1 hd2 cU))
  refine bodyPost_ret (zaj rfl _ _ w.heap.size _ dd rfl af hu hd zdq) rfl ?_
  exact⟨_,rfl,hk.out⟩
theorem zgg {w:World} {a b:Value} {g:Bool} {xs ys:List Int} (hx:Sl16 w a xs) (hy:Sl16 w b ys) (cx:Canon xs) (cy:Canon ys) (lx:xs.length<=274877906000) (ly:ys.length<=274877906000):
  Calls Tryz.prog 63 #[.bool g,a,b] w fun e w'=>∃v,e=.returned v/\QAt w' v (mkG g (val16 xs) (val16 ys)) (mkN (val16 xs) (val16 ys)) (mkD (val16 xs) (val16 ys))/\Below w.heap.size w w':=by
 obtain⟨q,cap,rfl⟩:=hx.form
 obtain⟨q',cap',rfl⟩:=hy.form
 by_cases hx0:xs=[]
 ·subst hx0
  simpa [mkG,mkN,mkD,val16] using zhd (g:=g) (q:=q) (q':=q') (m:=0) (n:=ys.length) (cap:=cap) (cap':=cap') (w:=w) (.inl rfl)
 ·have vx:=za6 hx.1 cx hx0
  have nx:((xs.length:Int)==0)=false:=by
   have:xs.length≠0:=fun h=>hx0 (List.eq_nil_of_length_eq_zero h)
   simp;omega
  by_cases hy0:ys=[]
  ·subst hy0
   simpa [mkG,mkN,mkD,val16] using zhd (g:=g) (q:=q) (q':=q') (m:=xs.length) (n:=0) (cap:=cap) (cap':=cap') (w:=w) (.inr ⟨nx,rfl⟩)
  ·have vy:=za6 hy.1 cy hy0
   have ny:((ys.length:Int)==0)=false:=by
    have:ys.length≠0:=fun h=>hy0 (List.eq_nil_of_length_eq_zero h)
    simp;omega
   have e1:¬(val16 xs=0\/val16 ys=0):=by omega
   unfold mkG mkN mkD
   rw[if_neg e1,if_neg e1,if_neg e1]
   by_cases h1:ys.length=1
   ·have hv:=zlv h1
    by_cases h2:ys.getD 0 0=1
    ·rw[hv,h2,zi9,Int.ediv_one,Int.ediv_one]
     have hm:=zj5 (g:=g) hx (by rw[h1] at hy;exact hy) cx nx h1 h2
     rw[h1]
     exact hm
    ·obtain⟨_,_,q2,cap2,e,_,hyx⟩:=id hy
     simp only[Value.slice.injEq] at e
     obtain⟨rfl,_,rfl⟩:=e
     rcases hyx with h | ⟨b,o,rfl,hb,hc⟩
     ·exact absurd h hy0
     ·exact zja hx hy cx cy nx ny lx ly (.inr ⟨by simp[h1],b,o,_,rfl,hb,by simpa using hc 0 (by omega),by simpa using h2,by omega⟩)
   ·exact zja hx hy cx cy nx ny lx ly (.inl (by simp;omega))
theorem canon_ge {xs:List Int} {k:Nat} (dx:Dig16 xs) (cx:Canon xs) (h1:xs.length=k+1):65536^k<=val16 xs:=by
 have h2:=cx k h1
 have h3:=dx k
 have h4:=zc0 h1
 have h5:=zai (zax dx k)
 have h6:=Int.mul_le_mul_of_nonneg_right (by omega:1<=xs.getD k 0) (by have:=za0 k;omega:(0:Int)<=65536^k)
 omega
theorem zly {xs:List Int} {k:Nat} (dx:Dig16 xs) (cx:Canon xs) (h:val16 xs<65536^k):xs.length<=k:=by
 rcases Nat.lt_or_ge k xs.length with h1 | h1
 ·obtain⟨m,hm⟩:∃m,xs.length=m+1:=⟨xs.length - 1,by omega⟩
  have h2:=canon_ge dx cx hm
  have h3:=zjz (by omega:k<=m)
  omega
 ·exact h1
def denI (d:Int):Int:=if d=0 then 1 else d
theorem zlz {w:World} {v:Value} {g:Bool} {n d:Int} (h:QAt w v g n d):Calls Tryz.prog 390 #[v] w (Rt w (.int .i64 (if n=0 then 0 else if g then -1 else 1))):=by
 obtain⟨a,b,ns,ds,rfl,h2,h3,h4,h5,h6,h7⟩:=h
 obtain⟨q,cap,rfl⟩:=h2.form
 obtain⟨q',cap',rfl⟩:=h5.form
 by_cases hx:ns=[]
 ·subst hx
  have hn:n=0:=by rw[<-h4];rfl
  subst hn
  clear h2 h3 h4 h5 h6 h7
  go_enter Tryz.func390,Tryz.ntmps390
  go_wp2
  go_ret
  exact⟨rfl,zaa _ _⟩
 ·have ae:¬(ns.length:Int)=0:=by
   have:=List.length_pos_iff.2 hx
   omega
  have hp:=za6 h2.1 h3 hx
  rw[h4] at hp
  have hn:¬n=0:=by omega
  clear h2 h3 h4 h5 h6 h7 hp
  cases g
  ·go_enter Tryz.func390,Tryz.ntmps390
   go_wp2
   go_ret
   exact⟨by simp,zaa _ _⟩
  ·go_enter Tryz.func390,Tryz.ntmps390
   go_wp2
   go_ret
   exact⟨by simp,zaa _ _⟩
def sg (g:Bool):Int:=if g then -1 else 1
theorem q_endN {w W0 w1:World} {N:Nat} {g:Bool} {a b:Value} {ns ds:List Int} {n d:Int} (hN:w.heap.size<=N) (h0:QNew W0 N) (hb0:Below w.heap.size w W0) (hb1:Below W0.heap.size W0 w1) (ha:Sl16 w1 a ns) (ca:Canon ns) (va:val16 ns=n) (hb:Sl16 w1 b ds) (cb:Canon ds) (vb:val16 ds=d):
  Hid (QAt (((w1.setCell ⟨N,0,none⟩ (.bool g)).setCell ⟨N,1,none⟩ a).setCell ⟨N,2,none⟩ b) (.agg #[.bool g,a,b]) g n d/\Below w.heap.size w (((w1.setCell ⟨N,0,none⟩ (.bool g)).setCell ⟨N,1,none⟩ a).setCell ⟨N,2,none⟩ b))/\
  (((w1.setCell ⟨N,0,none⟩ (.bool g)).setCell ⟨N,1,none⟩ a).setCell ⟨N,2,none⟩ b).rangeAt N 0 [.bool g,a,b]:=by
 have h1:=h0.below hb1
 obtain⟨h2,h3⟩:=zdp h1 (.bool g) a b
 exact⟨⟨⟨a,b,ns,ds,rfl,((ha.notQ h1).sav h3).sl,ca,va,((hb.notQ h1).sav h3).sl,cb,vb⟩,(hb0.trans (hb1.mono hb0.size)).trans (h3.below hN (Nat.le_trans hb0.size hb1.size))⟩,h2⟩
end Go.Proofs.YtnnhofmknilopaaGreatDoor
