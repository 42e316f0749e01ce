import Derived.Test.YtnnhofmknilopaaGreatDoorPk10
namespace Go.Proofs.YtnnhofmknilopaaGreatDoor
open Go Go.RowKit
set_option maxRecDepth 100000
set_option maxHeartbeats 16000000
theorem div32_lt {w:World} {v u:Value} {xs ys:List Int} (hx:Sl w v xs) (hy:Sl w u ys) (cx:Canon xs) (cy:Canon ys) (hlt:val xs<val ys):
  Calls Tryz.prog 319 #[v,u] w fun e w'=>∃r1 r2,e=.returned (.tuple #[r1,r2])/\Sl w' r1 []/\Sl w' r2 xs/\Below w.heap.size w w':=by
 have bv:=zgh hx hy cx cy
 obtain⟨q,cap,rfl⟩:=hx.form
 obtain⟨q2,cap2,rfl⟩:=hy.form
 have hx':=zab hx
 have aF:Hid (val xs<val ys):=hlt
 clear hx hy hlt
 go_enter Tryz.func319,Tryz.ntmps319
 go_wp2_with (go_at_call 373;refine bv.mono ?_;rintro e w1 ⟨c,rfl,hc1,hc2,hb1⟩
              have hcn:c<0:=hc1.2 aF.out)
 go_ret2
 exact⟨_,_,rfl,Sl.nil _,hx'.out.below hb1,hb1⟩
theorem zm4 {w:World} {v u:Value} {xs ys:List Int} (hx:Sl w v xs) (hy:Sl w u ys) (cx:Canon xs) (cy:Canon ys) (hle:val ys<=val xs) (h1:ys.length=1) (lx:xs.length<=274877906944):
  Calls Tryz.prog 319 #[v,u] w fun e w'=>∃r1 r2 qs rs,e=.returned (.tuple #[r1,r2])/\Sl w' r1 qs/\Canon qs/\val qs=val xs / val ys/\Sl w' r2 rs/\Canon rs/\val rs=val xs % val ys/\Below w.heap.size w w':=by
 have bv:=zgh hx hy cx cy
 obtain⟨Y,rfl⟩:=List.length_eq_one_iff.1 h1
 have hY:val [Y]=Y:=by simp[val]
 rw[hY] at hle bv ⊢
 have hd:=hy.1 0
 have hY0:=cy 0 rfl
 simp only[List.getD_cons_zero] at hd hY0
 have ie:xs≠[]:=by rintro rfl;simp[val] at hle;omega
 obtain⟨q,cap,rfl⟩:=hx.form
 obtain⟨_,_,q2,cap2,rfl,cB,hyx⟩:=hy
 rcases hyx with h | ⟨b,o,rfl,hb,hc⟩
 ·cases h
 have c0:w.cell? ⟨b,o,none⟩=some (.int .u32 Y):=by simpa using hc 0 (by simp)
 have hx':=zab hx
 have ce:Hid (Y<=val xs):=hle
 have ig:Hid (xs≠[]):=ie
 have x0:=zae hx.1
 have hm0:=Int.emod_nonneg (val xs) (by omega:Y≠0)
 have hm1:=Int.emod_lt_of_pos (val xs) (by omega:0<Y)
 obtain⟨X,hX⟩:∃X,Hid (val xs=X):=⟨_,rfl⟩
 rw[hX.out] at hm0 hm1 ⊢
 clear hx hle ie hc x0
 go_enter Tryz.func319,Tryz.ntmps319
 go_wp2_with (first
  | (go_at_call 373;refine bv.mono ?_;rintro e w1 ⟨c,rfl,hc1,hc2,hb1⟩
     have hcn:¬c<0:=fun h=>by have:=hc1.1 h;have:=ce.out;omega
     have c1:w1.cell? ⟨b,o,none⟩=some (.int .u32 Y):=(hb1.cell (by exact hb)).trans c0
     have hds:=zik (hx'.out.below hb1) ig.out lx Y (by omega) (by omega)
     rw[hX.out] at hds)
  | (go_at_call 294;refine hds.mono ?_;rintro e w2 ⟨r,zs,rfl,hr,hrc,hrv,hb2⟩
     have hsm:=zed w2 (X % Y) hm0 (by omega))
  | (go_at_call 208;refine hsm.mono ?_;rintro e w3 ⟨r3,rfl,hr3,hb3⟩))
 go_ret2
 obtain⟨s1,s2,s3,s4⟩:=zfh hm0 (by omega:X % Y<=18446744073709551615)
 exact⟨r,r3,zs,smallW (X % Y),rfl,hr.below hb3,hrc,hrv,hr3,s2,s3,hb1.trans ((hb2.trans (hb3.mono hb2.size)).mono hb1.size)⟩
theorem zko {w:World} {v u:Value} {xs ys:List Int} (hx:Sl w v xs) (hy:Sl w u ys) (cx:Canon xs) (cy:Canon ys) (hle:val ys<=val xs) {m:Nat} (h1:ys.length=m+2) (lx:xs.length<=274877906000):
  Calls Tryz.prog 319 #[v,u] w fun e w'=>∃r1 r2 qs rs,e=.returned (.tuple #[r1,r2])/\Sl w' r1 qs/\Canon qs/\val qs=val xs / val ys/\Sl w' r2 rs/\Canon rs/\val rs=val xs % val ys/\Below w.heap.size w w':=by
 obtain⟨i0,hi,hz0,hz1,hz2⟩:=info_parts (show(Tryz.prog.info? 150).map (fun i=>(i.zero,i.size,i.bytes))=some (some (.int .u32 0),1,4) by kernel_rfl)
 have bv:=zgh hx hy cx cy
 have lyx:=zbc hy.1 hx.1 cy hle
 have hY0:=cy (m+1) h1
 have hY1:=hy.1 (m+1)
 obtain⟨Lq,hLq⟩:∃Lq,xs.length+1=Lq+(m+2):=⟨xs.length+1 - (m+2),by omega⟩
 have hL1:1<=Lq:=by omega
 obtain⟨q,cap,rfl⟩:=hx.form
 obtain⟨_,_,q2,cap2,rfl,cB,hyx⟩:=id hy
 rcases hyx with h | ⟨b,o,rfl,hb,hc⟩
 ·simp[h] at h1
 have c0:=hc (m+1) (by omega)
 have hY':Hid (ys.getD (m+1) 0=ys.getD (m+1) 0):=rfl
 obtain⟨Y,hY⟩:∃Y,Hid (ys.getD (m+1) 0=Y):=⟨_,rfl⟩
 rw[hY.out] at c0 hY0 hY1
 obtain⟨s,es,hs,hys⟩:=zkm (Y:=Y) (by omega) hY1.2
 have eG:=fun z=>zm1 Y z hY1.1 hY1.2
 rw[es] at eG
 have hx':=zab hx
 have hy':Hid (Sl w (.slice (some ⟨b,o,none⟩) (m+2) cap2) ys):=by rw[h1] at hy;exact hy
 have ce:Hid (val ys<=val xs):=hle
 have cy':Hid (Canon ys):=cy
 have hh:Hid (ys.length=m+2/\xs.length+1=Lq+(m+2)/\Y*2^s<4294967296):=⟨h1,hLq,hys⟩
 rw[h1] at bv cB ⊢
 have e5:(xs.length:Int) - ((m:Int)+2)+1=(Lq:Int):=by omega
 have hlx:m+2<=xs.length:=by omega
 clear hx hy hle hc cy h1 hys es hY' lyx hLq
 go_enter Tryz.func319,Tryz.ntmps319
 go_wp2_with (first
  | (go_at_call 373;refine bv.mono ?_;rintro e w1 ⟨c,rfl,hc1,hc2,hb1⟩
     have hcn:¬c<0:=fun h=>by have:=hc1.1 h;have:=ce.out;omega
     have c1:w1.cell? ⟨b,o+(m+1),none⟩=some (.int .u32 Y):=(hb1.cell (by exact hb)).trans c0
     have hV:=zjc (hy'.out.below hb1) (by have:=hh.out.1;omega) s hs)
  | (go_at_call 401;refine(eG _).mono ?_;rintro e w2 ⟨rfl,rfl⟩)
  | (go_at_call 402;with_reducible refine hV.mono ?_;rintro e wv ⟨rv,vs,rfl,sv,cv,vv,lv,hbv⟩
     have bO:Below w.heap.size w wv:=hb1.trans (hbv.mono hb1.size)
     obtain⟨qv,capv,rfl⟩:=sv.form)
  | (at_make;refine wpList_make_full _ rfl _ _ 22 rfl wv.heap.size 150 i0 (.int .u32 0) 1 Tryz.underlying22 hi hz0 hz1 _ _ _ _ (xs.length+1) rfl rfl (by omega) (by omega) (by rw[hz2];omega) (by unfold maxLen;omega) (Nat.le_refl _) ?_;intro w2 az aC
     have hbm:Below wv.heap.size wv w2:=(Below.refl _ _).grown aC (Nat.le_refl _) (fun _ h=>by cases h)
     have hB2:Blk w2 wv.heap.size (List.replicate (xs.length+1) 0):=zb1 (by simpa [Value.cells] using az)
     have ii:Below w.heap.size w w2:=bO.trans (hbm.mono bO.size)
     have hU:=zjc (hx'.out.below ii) (by omega) s hs
     clear az aC)
  | (go_at_call 402;with_reducible refine hU.mono ?_;rintro e wu ⟨ru,zs,rfl,su,cu,vu,lu,hbu⟩
     have hB3:wu.heap[wv.heap.size]?=some (.cells ((List.replicate (xs.length+1) (0:Int)).map (Value.int .u32)).toArray 150 (0,0)):=(hbu.block _ (by have:=hB2.p.lt;exact this)).trans hB2
     have ij:Below wv.heap.size wv wu:=hbm.trans (hbu.mono hbm.size)
     obtain⟨qu,capu,rfl⟩:=su.form)
  | (refine wpList_copy_splice rfl (.tmp 47) (.tmp 50) 22 154 rfl 150 Tryz.underlying22 (by rw[hi];exact congrArg some hz1) (some ⟨wv.heap.size,0,none⟩) qu (xs.length+1) (xs.length+1) zs.length capu rfl rfl wv.heap.size 0 ((List.replicate (xs.length+1) (0:Int)).map (Value.int .u32)) 150 hB3 (zs.map (Value.int .u32)) (by rw[List.length_map];exact(Nat.min_eq_left lu).symm) (fun hp=>⟨rfl,su.news (by simpa using hp)⟩) (by simp;omega) (ints_oneCell .u32 zs) wv.heap.size wv ij (Nat.le_refl _) ?_;intro w3 hH3 hb3)
  | (at_make;refine wpList_make_full _ rfl _ _ 22 rfl w3.heap.size 150 i0 (.int .u32 0) 1 Tryz.underlying22 hi hz0 hz1 _ _ _ _ Lq rfl rfl (by omega) (by omega) (by rw[hz2];omega) (by unfold maxLen;omega) (Nat.le_refl _) ?_;intro w4 az aC))
 have hG:Hid (DivG xs ys vs (zs++List.replicate (xs.length+1 - zs.length) 0) s m Lq):=zmz hx'.out.1 hy'.out.1 cy'.out hh.out.1 (by rw[hY.out];exact hh.out.2.2) hs hh.out.2.1 sv.1 cv vv su.1 vu lu
 have hvl:=hG.out.vl
 have fk:Below w.heap.size w w3:=bO.trans (hb3.mono bO.size)
 have hgu:wv.heap.size<w3.heap.size:=by
  have:=hH3.out
  exact(Array.getElem?_eq_some_iff.1 this).1
 have hP3:BlkP w3 wv.heap.size (zs++List.replicate (xs.length+1 - zs.length) 0):=by
  refine Blk.p ?_
  have:=hH3.out
  rw[zhr zs _ lu] at this
  exact this
 have gh:Below w3.heap.size w3 w4:=(Below.refl _ _).grown aC (Nat.le_refl _) (fun _ h=>by cases h)
 have hP4:BlkP w4 wv.heap.size (zs++List.replicate (xs.length+1 - zs.length) 0):=hP3.below gh
 have hB4:Blk w4 w3.heap.size (List.replicate Lq 0):=zb1 (by simpa [Value.cells] using az)
 have hS4:Sav wv.heap.size w3 w4:=Sav.of gh
 have sv3:Hid (SlN wv.heap.size w3 (.slice qv (m+2) capv) vs):=by
  have:=sv.ne hb3 (Nat.le_refl _)
  rwa [hvl] at this
 have hBw:Hid (w.heap.size<=wv.heap.size/\Below w.heap.size w w3):=⟨bO.size,fk⟩
 rw[hvl]
 clear az aC hbv hbu su sv vv vu cv cu hV hU lv lu hP3 gh hH3 hb3 ij hbm ii hB2 hB3 fk hvl hi hz0 hz1 hz2 bO c0 c1 eG bv hb1
 obtain⟨u0,hu0⟩:∃u0,Hid (zs++List.replicate (xs.length+1 - zs.length) 0=u0):=⟨zs++List.replicate (xs.length+1 - zs.length) 0,by exact rfl⟩
 rw[hu0.out] at hG hP4
 have jE:Hid (u0.length=xs.length+1):=by
  have:=hG.out.ul
  have:=hh.out.2.1
  show u0.length=xs.length+1
  omega
 have hst:Hid (Dvb u0 vs Lq u0 (List.replicate Lq 0)):=Dvb.zero (by have:=hG.out.vl;have:=hG.out.ul;omega) hG.out.du hG.out.top
 generalize wv.heap.size=gu at*
 go_loopw [12] (fun t12 wz=>∃(k:Nat) (us qs:List Int),k<=Lq/\t12=.int .i64 ((k:Int) - 1)/\Hid (Dvb u0 vs k us qs)/\BlkP wz gu us/\Blk wz w3.heap.size qs/\Sav gu w3 wz) (fun t12 _=>(intOf t12+1).toNat)
 case atStart=>exact⟨Lq,_,_,Nat.le_refl _,by go_num,hst,hP4,hB4,hS4⟩
 case round=>
  clear hB4 hP4 hS4 hst
  obtain⟨k,us,qs,hk,rfl,hdv,hP,hB,hS⟩:=hrel
  match k,hk,hdv with
  | 0,hk,hdv=>
   obtain⟨dq,du⟩:=zm0 hG.out hdv.out
   have hql:qs.length=Lq:=by
    have h1:=hdv.out.qlen
    have h2:=hG.out.vl
    have h3:=hG.out.ul
    omega
   have hus:us.length=xs.length+1:=by
    have h1:=hdv.out.len
    have h3:=jE.out
    omega
   obtain⟨r1,hr1,sr1⟩:=zgk (Blk.sl32 hB.p hdv.out.qdig (by omega))
   obtain⟨r2,hr2,sr2⟩:=zgk (Blk.sl32 hP hdv.out.dig (by omega))
   rw[hql] at hr1
   rw[hus] at hr2
   have htl:(trim us).length<=274877906944:=by
    rw[zag]
    have:=zan us us.length
    omega
   have hr3:=zgl sr2 htl s (by omega)
   have hbz:Below w.heap.size w wr:=hBw.out.2.trans (hS.below hBw.out.1 hBw.out.2.size)
   have dq':Hid (val qs=val xs / val ys):=dq
   have du':=zab du
   have sr1':Hid (Sl wr r1 (trim qs)):=sr1
   clear dq du sr1 hql hus
   go_wp2_with (first
    | (go_at_call 206;with_reducible refine hr1.mono ?_;rintro e w5 ⟨rfl,rfl⟩)
    | (go_at_call 206;with_reducible refine hr2.mono ?_;rintro e w6 ⟨rfl,rfl⟩)
    | (go_at_call 316;with_reducible refine hr3.mono ?_;rintro e w7 ⟨r3,rs,rfl,h5,h6,h7,_,h8⟩))
   go_ret2
   refine⟨r1,r3,trim qs,rs,rfl,sr1'.out.below h8,zal _,by rw[zbp];exact dq'.out,h5,h6,?_,hbz.trans (h8.mono hbz.size)⟩
   rw[h7,zbp,du'.out,Int.mul_ediv_cancel _ (by have:=zar s;omega)]
  | k+1,hk,hdv=>
   have e1:((k+1:Nat):Int) - 1=(k:Int):=by omega
   rw[e1]
   clear e1
   have e2:k+(m+2)+1 - k=m+3:=by omega
   obtain⟨d,fI,cS⟩:=zkn (cap:=xs.length+1 - k) hG.out (by omega) hdv.out sv3.out hP hS (by omega) (by omega) (by omega)
   obtain⟨hd0,hd1⟩:=fI
   have hkx:(k:Int)+((m:Int)+2)+1<=(xs.length:Int)+1:=by omega
   go_wp2_with (go_at_call 403;with_reducible refine cS.mono ?_;rintro e w4 ⟨rfl,us',hP4,fJ,hS4⟩
                have hB4:=hB.p
                have hB5:Blk w4 w3.heap.size qs:=by
                 unfold Blk at hB ⊢
                 rw[hS4.block _ (by have:=hB4.lt;exact this) (by omega)]
                 exact hB
                have hql:qs.length=Lq:=by
                 have h1:=hdv.out.qlen
                 have h2:=hG.out.vl
                 have h3:=hG.out.ul
                 omega
                have c2:w4.cell? ⟨w3.heap.size,k,none⟩=some (.int .u32 (qs.getD k 0)):=hB5.cell (by omega)
                have hfr:=hB5.frozen k
                generalize qs.getD k 0=OK at c2
                clear hql)
   go_roundw
   case rel=>
    exact⟨k,us',qs.set k d,by omega,by go_num,fJ,hP4.setOther (by simp;omega) _,hB5.set _ _,(hS.trans hS4).setFresh (by simp) _⟩
   case measure=>simp[intOf]
theorem zgq {w:World} {v u:Value} {xs ys:List Int} (hx:Sl w v xs) (hy:Sl w u ys) (cx:Canon xs) (cy:Canon ys) (ny:ys≠[]) (lx:xs.length<=274877906000):
  Calls Tryz.prog 319 #[v,u] w fun e w'=>∃r1 r2 qs rs,e=.returned (.tuple #[r1,r2])/\Sl w' r1 qs/\Canon qs/\val qs=val xs / val ys/\Sl w' r2 rs/\Canon rs/\val rs=val xs % val ys/\Below w.heap.size w w':=by
 have x0:=zae hx.1
 by_cases hlt:val xs<val ys
 ·refine(div32_lt hx hy cx cy hlt).mono ?_
  rintro e w' ⟨r1,r2,rfl,h1,h2,hb⟩
  exact⟨r1,r2,[],xs,rfl,h1,zbh,by rw[Int.ediv_eq_zero_of_lt x0 hlt];rfl,h2,cx,by rw[Int.emod_eq_of_lt x0 hlt],hb⟩
 ·have bB:=List.length_pos_iff.2 ny
  by_cases h1:ys.length=1
  ·exact zm4 hx hy cx cy (by omega) h1 (by omega)
  ·obtain⟨m,hm⟩:∃m,ys.length=m+2:=⟨ys.length - 2,by omega⟩
   exact zko hx hy cx cy (by omega) hm lx
def valAtb (w:World) (v:Value):Nat:=
 match v with
 | .slice (some a) n _=>(val ((List.range n).map fun i=>match w.cell? ⟨a.block,a.off+i,none⟩ with | some (.int _ x)=>x | _=>0)).toNat
 | _=>0
theorem Sl.valAtb {w:World} {v:Value} {xs:List Int} (h:Sl w v xs):valAtb w v=(val xs).toNat:=by
 obtain⟨_,_,q,cap,rfl,_,hx⟩:=h
 rcases hx with rfl | ⟨b,o,rfl,_,hc⟩
 ·cases q<;>simp[Go.Proofs.YtnnhofmknilopaaGreatDoor.valAtb,val]
 ·unfold Go.Proofs.YtnnhofmknilopaaGreatDoor.valAtb
  simp only[]
  congr 2
  apply List.ext_getElem?
  intro i
  by_cases hi:i<xs.length
  ·rw[List.getElem?_map,List.getElem?_range hi]
   simp only[Option.map_some]
   rw[hc i hi]
   simp[hi]
  ·simp[hi]
theorem gcd32_ok {w:World} {v u:Value} {xs ys:List Int} (hx:Sl w v xs) (hy:Sl w u ys) (cx:Canon xs) (cy:Canon ys) (lx:xs.length<=274877906000) (ly:ys.length<=274877906000):
  Calls Tryz.prog 318 #[v,u] w fun e w'=>∃r gs,e=.returned r/\Sl w' r gs/\Canon gs/\val gs=gcdI (val xs) (val ys)/\gs.length<=274877906000/\Below w.heap.size w w':=by
 have hx':Hid (Sl w v xs):=hx
 have hy':Hid (Sl w u ys):=hy
 obtain⟨G,hG⟩:∃G,Hid (gcdI (val xs) (val ys)=G):=⟨_,rfl⟩
 rw[hG.out]
 have cx':Hid (Canon xs):=cx
 have cy':Hid (Canon ys):=cy
 clear hx hy cx cy
 go_enter Tryz.func318,Tryz.ntmps318
 go_wp2
 go_loopw [0,1,5,6] (fun t0 t1 t5 t6 wr=>∃(sa sb:List Int),Hid (Sl wr t0 sa/\Sl wr t1 sb/\Canon sa/\Canon sb/\gcdI (val sa) (val sb)=G)/\sa.length<=274877906000/\sb.length<=274877906000/\Below w.heap.size w wr) (fun t0 t1 t5 t6 wr=>valAtb wr t1)
 case atStart=>exact⟨xs,ys,⟨hx'.out,hy'.out,cx'.out,cy'.out,hG.out⟩,lx,ly,Below.refl _ _⟩
 case round=>
  clear hx' hy' cx' cy' lx ly
  obtain⟨sa,sb,hab,la,lb,hbw⟩:=hrel
  obtain⟨q2,cap2,rfl⟩:=hab.out.2.1.form
  obtain⟨q1,cap1,rfl⟩:=hab.out.1.form
  by_cases hne:sb=[]
  ·subst hne
   go_wp2
   go_ret
   have h:=hab.out
   have a0:=zae h.1.1
   refine⟨_,sa,rfl,h.1,h.2.2.1,?_,la,hbw⟩
   rw[<-h.2.2.2.2]
   exact(zhc a0).symm
  ·have hbl:0<sb.length:=List.length_pos_iff.2 hne
   have hdv:=zgq hab.out.1 hab.out.2.1 hab.out.2.2.1 hab.out.2.2.2.1 hne la
   go_wp2_with (go_at_call 319;with_reducible refine hdv.mono ?_;rintro e w2 ⟨r1,r2,qs,rs,rfl,h1,h2,h3,h4,h5,h6,hb2⟩)
   have a0:=zae hab.out.1.1
   have b0:=zby hab.out.2.1.1 hab.out.2.2.2.1 hne
   have hml:=Int.emod_lt_of_pos (val sa) b0
   have hm0:=Int.emod_nonneg (val sa) (by omega:val sb≠0)
   have lrs:=zbc h4.1 hab.out.2.1.1 h5 (by omega)
   go_roundw
   case rel=>
    refine⟨sb,rs,⟨hab.out.2.1.below hb2,h4,hab.out.2.2.2.1,h5,?_⟩,lb,by omega,hbw.trans (hb2.mono hbw.size)⟩
    rw[h6,zhb a0 b0]
    exact hab.out.2.2.2.2
   case measure=>
    rw[h4.valAtb,hab.out.2.1.valAtb,h6]
    omega
def FAt (w:World) (v:Value) (g:Bool) (n d:Int):Prop:=
 ∃a b ns ds,v=.agg #[.bool g,a,b]/\Sl w a ns/\Canon ns/\val ns=n/\Sl w b ds/\Canon ds/\val ds=d/\ns.length<=274877906000/\ds.length<=274877906000
theorem FAt.below {w w':World} {v:Value} {g:Bool} {n d:Int} (h:FAt w v g n d) (hb:Below w.heap.size w w'):FAt w' v g n d:=by
 obtain⟨a,b,ns,ds,h1,h2,h3,h4,h5,h6,h7,h8⟩:=h
 exact⟨a,b,ns,ds,h1,h2.below hb,h3,h4,h5.below hb,h6,h7,h8⟩
def FNew (w:World) (N:Nat):Prop:=w.heap[N]?=some (.cells #[.bool false,.slice none 0 0,.slice none 0 0] 156 (0,0))
theorem FNew.made (w:World):FNew (w.alloc (.cells #[.bool false,.slice none 0 0,.slice none 0 0] 156)) w.heap.size:=heap_alloc_new w _
theorem FNew.below {w w':World} {N:Nat} (h:FNew w N) (hb:Below w.heap.size w w'):FNew w' N:=by
 unfold FNew at h ⊢
 rw[hb.block N (Array.getElem?_eq_some_iff.1 h).1]
 exact h
theorem FNew.c0 {w:World} {N:Nat} (h:FNew w N):w.cell? ⟨N,0,none⟩=some (.bool false):=by unfold FNew at h;simp[World.cell?,h]
theorem FNew.c1 {w:World} {N:Nat} (h:FNew w N):w.cell? ⟨N,1,none⟩=some (.slice none 0 0):=by unfold FNew at h;simp[World.cell?,h]
theorem FNew.c2 {w:World} {N:Nat} (h:FNew w N):w.cell? ⟨N,2,none⟩=some (.slice none 0 0):=by unfold FNew at h;simp[World.cell?,h]
theorem FNew.fr {w:World} {N:Nat} (h:FNew w N) (j:Nat):w.frozen? ⟨N,j,none⟩=false:=by unfold FNew at h;simp[World.frozen?,h]
theorem FNew.no {w:World} {N:Nat} (h:FNew w N) (j:Nat) (x:Int):w.cell? ⟨N,j,none⟩≠some (.int .u32 x):=by
 unfold FNew at h
 simp only[World.cell?,h]
 match j with
 | 0=>simp
 | 1=>simp
 | 2=>simp
 | j+3=>simp
theorem Sl.notF {w:World} {v:Value} {xs:List Int} {N:Nat} (h:Sl w v xs) (hN:FNew w N):SlN N w v xs:=by
 obtain⟨h1,h2,q,cap,h3,h4,h5⟩:=h
 refine⟨h1,h2,q,cap,h3,h4,?_⟩
 by_cases hx:xs=[]
 ·exact .inl hx
 ·rcases h5 with h5 | ⟨b,o,e,hlt,hc⟩
  ·exact absurd h5 hx
  ·refine .inr ⟨b,o,e,hlt,?_,hc⟩
   rintro rfl
   exact hN.no _ _ (hc 0 (List.length_pos_iff.2 hx))
theorem setF_row {w:World} {N:Nat} (h:FNew w N) (x0 x1 x2:Value):(((w.setCell ⟨N,0,none⟩ x0).setCell ⟨N,1,none⟩ x1).setCell ⟨N,2,none⟩ x2).rangeAt N 0 [x0,x1,x2]/\Sav N w (((w.setCell ⟨N,0,none⟩ x0).setCell ⟨N,1,none⟩ x1).setCell ⟨N,2,none⟩ x2):=by
 refine⟨fun j v hv=>?_,((Sav.of (Below.refl _ _)).setCell 0 x0 |>.setCell 1 x1).setCell 2 x2⟩
 match j,hv with
 | 0,hv=>
  simp only[List.getElem?_cons_zero,Option.some.injEq] at hv
  subst hv
  rw[World.cell?_setCell_other _ _ _ _ (by simp),World.cell?_setCell_other _ _ _ _ (by simp),World.cell?_setCell_same _ _ _ h.c0]
 | 1,hv=>
  simp only[List.getElem?_cons_succ,List.getElem?_cons_zero,Option.some.injEq] at hv
  subst hv
  rw[World.cell?_setCell_other _ _ _ _ (by simp),World.cell?_setCell_same _ _ _ (by rw[World.cell?_setCell_other _ _ _ _ (by simp)];exact h.c1)]
 | 2,hv=>
  simp only[List.getElem?_cons_succ,List.getElem?_cons_zero,Option.some.injEq] at hv
  subst hv
  rw[World.cell?_setCell_same _ _ _ (by rw[World.cell?_setCell_other _ _ _ _ (by simp),World.cell?_setCell_other _ _ _ _ (by simp)];exact h.c2)]
theorem f_row:∃d,Tryz.prog.underlying 156=some d/\d.isRow=true:=⟨_,Tryz.underlying156,rfl⟩
theorem zfi:(Tryz.prog.info? 156).map (·.size)=some 3:=by kernel_rfl
theorem ziw {w W0 w1:World} {N:Nat} {g:Bool} {a b:Value} {ns ds:List Int} {n d:Int} (hN:w.heap.size<=N) (h0:FNew W0 N) (hb0:Below w.heap.size w W0) (hb1:Below W0.heap.size W0 w1) (ha:Sl w1 a ns) (ca:Canon ns) (va:val ns=n) (hb:Sl w1 b ds) (cb:Canon ds) (vb:val ds=d) (la:ns.length<=274877906000) (lb:ds.length<=274877906000):
  Hid (FAt (((w1.setCell ⟨N,0,none⟩ (.bool g)).setCell ⟨N,1,none⟩ a).setCell ⟨N,2,none⟩ b) (.agg #[.bool g,a,b]) g n d/\Below w.heap.size w (((w1.setCell ⟨N,0,none⟩ (.bool g)).setCell ⟨N,1,none⟩ a).setCell ⟨N,2,none⟩ b))/\
  (((w1.setCell ⟨N,0,none⟩ (.bool g)).setCell ⟨N,1,none⟩ a).setCell ⟨N,2,none⟩ b).rangeAt N 0 [.bool g,a,b]:=by
 have h1:=h0.below hb1
 obtain⟨h2,h3⟩:=setF_row h1 (.bool g) a b
 exact⟨⟨⟨a,b,ns,ds,rfl,((ha.notF h1).sav h3).sl,ca,va,((hb.notF h1).sav h3).sl,cb,vb,la,lb⟩,(hb0.trans (hb1.mono hb0.size)).trans (h3.below hN (Nat.le_trans hb0.size hb1.size))⟩,h2⟩
theorem zgr {a b:Nat} (h:a<=b):(2:Int)^a<=2^b:=by
 obtain⟨d,rfl⟩:∃d,b=a+d:=⟨b - a,by omega⟩
 have hp:=zar a
 have hq:=zar d
 rw[Int.pow_add]
 have h2:(2:Int)^a*1<=2^a*2^d:=Int.mul_le_mul_of_nonneg_left hq (by omega)
 omega
theorem TwosIs.some:∀(n:Nat),0<n->∃t,TwosIs (n:Int) t:=by
 intro n
 induction n using Nat.strongRecOn with
 | ind n ih=>
  intro h
  by_cases h2:n % 2=1
  ·exact⟨0,n / 2,by simp;omega⟩
  ·obtain⟨t,m,hm⟩:=ih (n / 2) (by omega) (by omega)
   refine⟨t+1,m,?_⟩
   rw[Int.pow_succ,Int.mul_right_comm,<-hm]
   omega
theorem TwosIs.ex {x:Int} (h:0<x):∃t,TwosIs x t:=by
 obtain⟨n,rfl⟩:=Int.eq_ofNat_of_zero_le (by omega:0<=x)
 exact TwosIs.some n (by omega)
theorem zht {w:World} {v:Value} {xs:List Int} {t:Nat} (h:Sl w v xs) (ht:TwosIs (val xs) t) (lx:xs.length<=274877906944) (hT:Tb w):
  t<=8796093022208->Calls Tryz.prog 315 #[v] w fun e w'=>e=.returned (.int .i64 t)/\w'=w:=by
 intro _
 refine(zl2 h ht.pos lx hT).mono ?_
 rintro e w' ⟨s,rfl,hs,_,rfl⟩
 rw[hs.unique ht]
 exact⟨rfl,rfl⟩
theorem TwosIs.le {x:Int} {t n:Nat} (h:TwosIs x t) (hx:x<2^n):t<n:=by
 obtain⟨m,rfl⟩:=h
 rcases Nat.lt_or_ge t n with h | h
 ·exact h
 ·obtain⟨d,rfl⟩:∃d,t=n+d:=⟨t - n,by omega⟩
  have hp:=zar n
  have hq:=zar d
  rw[Int.pow_add,Int.mul_assoc] at hx
  have h1:(1:Int)<=2^d*(2*(m:Int)+1):=Int.mul_pos hq (by omega)
  have h2:(2:Int)^n*1<=2^n*(2^d*(2*(m:Int)+1)):=Int.mul_le_mul_of_nonneg_left h1 (by omega)
  omega
theorem zf3 {xs:List Int} (dx:Dig xs):val xs<2^(32*xs.length):=by
 have h:=za4 dx
 rw[Int.pow_mul]
 exact h
theorem TwosIs.lt {xs:List Int} {t:Nat} (dx:Dig xs) (h:TwosIs (val xs) t):t<32*xs.length:=h.le (zf3 dx)
theorem zjk {X Y:Int} {tx ty k:Nat} (hx:TwosIs X tx) (hy:TwosIs Y ty) (hk:k=min tx ty):
  X / gcdI X Y=X / 2^k / gcdI (X / 2^k) (Y / 2^k)/\Y / gcdI X Y=Y / 2^k / gcdI (X / 2^k) (Y / 2^k)/\0<X / 2^k/\0<Y / 2^k/\TwosIs (X / 2^k) (tx - k)/\TwosIs (Y / 2^k) (ty - k):=by
 have h1:=hx.div (k:=k) (by omega)
 have h2:=hy.div (k:=k) (by omega)
 obtain⟨a,b,c,d⟩:=ziv hx.pos hy.pos h1.1 h2.1
 exact⟨a,b,c,d,h1.2,h2.2⟩
theorem red_pow {X Y:Int} {tx ty k n:Nat} (hx:TwosIs X tx) (hy:TwosIs Y ty) (hk:k=min tx ty) (h2:Y / 2^k<2^(n+1)) (he:ty - k=n):
  gcdI (X / 2^k) (Y / 2^k)=1:=by
 obtain⟨_,_,c,d,e,f⟩:=zjk hx hy hk
 subst he
 rw[f.pow h2]
 refine gcdI_pow (by omega) ?_
 rcases Nat.eq_zero_or_pos (ty - k) with h | h
 ·exact .inl h
 ·right
  have:tx - k=0:=by omega
  rw[this] at e
  obtain⟨m,hm⟩:=e
  exact⟨m,by simpa using hm⟩
structure RedT (w:World) (va vb:Value) (ns ds:List Int) (X Y:Int) (t:Nat):Prop where
 sn:Sl w va ns
 sd:Sl w vb ds
 cn:Canon ns
 cd:Canon ds
 vn:val ns=X
 vd:val ds=Y
 px:0<X
 py:0<Y
 ln:ns.length<=274877906000
 ld:ds.length<=274877906000
 tw:TwosIs Y t
 tb:Tb w
theorem RedT.nn {w:World} {va vb:Value} {ns ds:List Int} {X Y:Int} {t:Nat} (h:RedT w va vb ns ds X Y t):ns≠[]/\ds≠[]:=by
 have h1:=h.vn
 have h2:=h.vd
 have h3:=h.px
 have h4:=h.py
 constructor
 ·rintro rfl
  simp only[val] at h1
  omega
 ·rintro rfl
  simp only[val] at h2
  omega
theorem RedT.twos {w:World} {va vb:Value} {ns ds:List Int} {X Y:Int} {t:Nat} (h:RedT w va vb ns ds X Y t):Calls Tryz.prog 315 #[vb] w fun e w'=>e=.returned (.int .i64 t)/\w'=w:=
 zht h.sd (by rw[h.vd];exact h.tw) (by have:=h.ld;omega) h.tb (by
  have h1:=h.tw
  rw[<-h.vd] at h1
  have:=h1.lt h.sd.1
  have:=h.ld
  omega)
theorem RedT.bits {w:World} {va vb:Value} {ns ds:List Int} {X Y:Int} {t:Nat} (h:RedT w va vb ns ds X Y t) {n:Nat} (h1:2^n<=Y) (h2:Y<2^(n+1)):Calls Tryz.prog 317 #[vb] w fun e w'=>e=.returned (.int .i64 (n+1))/\w'=w:=by
 refine(zl1 h.sd h.cd h.nn.2 (by have:=h.ld;omega)).mono ?_
 rintro e w' ⟨m,rfl,h3,h4,_,rfl⟩
 rw[h.vd] at h3 h4
 have:m=n:=by
  rcases Nat.lt_trichotomy m n with hh | hh | hh
  ·have:=zgr (by omega:m+1<=n)
   omega
  ·exact hh
  ·have:=zgr (by omega:n+1<=m)
   omega
 subst this
 exact⟨rfl,rfl⟩
theorem RedT.bn {w:World} {va vb:Value} {ns ds:List Int} {X Y:Int} {t:Nat} (h:RedT w va vb ns ds X Y t) {n:Nat} (h1:2^n<=Y):n<=8796093022208:=by
 have h2:=zf3 h.sd.1
 rw[h.vd] at h2
 have h3:=h.ld
 rcases Nat.lt_or_ge n (32*ds.length) with h | h
 ·omega
 ·have:=zgr h
  omega
theorem bits_ex {Y:Int} (h:0<Y):∃n:Nat,2^n<=Y/\Y<2^(n+1):=by
 have key:∀k:Nat,Y<2^k->∃n:Nat,2^n<=Y/\Y<2^(n+1):=by
  intro k
  induction k with
  | zero=>intro h1;simp at h1;omega
  | succ k ih=>
   intro h1
   by_cases h2:Y<2^k
   ·exact ih h2
   ·exact⟨k,by omega,h1⟩
 refine key Y.toNat ?_
 have:Y.toNat<2^Y.toNat:=Nat.lt_two_pow_self
 have e:((2^Y.toNat:Nat):Int)=(2:Int)^Y.toNat:=by simp
 omega
theorem red_zero {w:World} {g:Bool} {q q':Option Addr} {n cap cap':Nat}:
  Calls Tryz.prog 209 #[.bool g,.slice q 0 cap,.slice q' n cap'] w fun e w'=>∃f,e=.returned f/\FAt w' f false 0 1/\Below w.heap.size w w':=by
 have hof:=fun z=>zed z 1 (by omega) (by omega)
 have eY:=fun z=>zbi q 0 cap z
 have am:=FNew.made w
 have hb0:Below w.heap.size w (w.alloc (.cells #[.bool false,.slice none 0 0,.slice none 0 0] 156)):=zaa w _
 obtain⟨dd,hu,hd⟩:=f_row
 have hs1:=zfh (x:=1) (by omega) (by omega)
 go_enter Tryz.func209,Tryz.ntmps209
 go_wp2_with (first
  | (go_at_call 207;with_reducible refine(eY _).mono ?_;rintro e w1 ⟨rfl,rfl⟩)
  | (go_at_call 208;with_reducible refine(hof _).mono ?_;rintro e w1 ⟨r,rfl,hz,hb1⟩
     obtain⟨qr,cr,rfl⟩:=hz.form
     obtain⟨hk,af⟩:=ziw (g:=false) (Nat.le_refl _) am hb0 hb1 (Sl.nil _) zbh rfl hz hs1.2.1 hs1.2.2.1 (by simp) (by have:=hs1.2.2.2;omega)
     have h9:=am.below hb1
     have c0:=h9.c0
     have c1:=h9.c1
     have c2:=h9.c2
     have fr:=h9.fr
     clear hb1 h9 am hb0))
 refine bodyPost_ret (zaj rfl _ _ w.heap.size _ dd rfl af hu hd zfi) rfl ?_
 exact⟨_,rfl,hk.out⟩
theorem red_walk {w:World} {g:Bool} {q q':Option Addr} {m n cap cap':Nat} {xs ys:List Int} {X Y:Int} {tx ty k:Nat} (hm:m≠0) (hR0:RedT (w.alloc (.cells #[.bool false,.slice none 0 0,.slice none 0 0] 156)) (.slice q m cap) (.slice q' n cap') xs ys X Y ty) (hx:TwosIs X tx) (hk:k=min tx ty) (hkk:min (tx:Int) (ty:Int)=(k:Int)):
  Calls Tryz.prog 209 #[.bool g,.slice q m cap,.slice q' n cap'] w fun e w'=>∃f,e=.returned f/\FAt w' f g (X / gcdI X Y) (Y / gcdI X Y)/\Below w.heap.size w w':=by
 have eY:∀z,Calls Tryz.prog 207 #[.slice q m cap] z fun e w'=>e=.returned (.bool false)/\w'=z:=fun z=>by
  have:=zbi q m cap z
  rwa [decide_eq_false hm] at this
 have am:=FNew.made w
 have hb0:Below w.heap.size w (w.alloc (.cells #[.bool false,.slice none 0 0,.slice none 0 0] 156)):=zaa w _
 obtain⟨dd,hu,hd⟩:=f_row
 have hrv:Hid (_/\_/\_/\_/\_/\_):=zjk hx hR0.tw hk
 have hty:=hR0.twos
 have htx:Calls Tryz.prog 315 #[.slice q m cap] (w.alloc (.cells #[.bool false,.slice none 0 0,.slice none 0 0] 156)) fun e w'=>e=.returned (.int .i64 tx)/\w'=(w.alloc (.cells #[.bool false,.slice none 0 0,.slice none 0 0] 156)):=
  zht hR0.sn (by rw[hR0.vn];exact hx) (by have:=hR0.ln;omega) hR0.tb (by
   have h1:=hx
   rw[<-hR0.vn] at h1
   have:=h1.lt hR0.sn.1
   have:=hR0.ln
   omega)
 have hkb:k<=8796093022208:=by
  have h1:=hR0.tw
  rw[<-hR0.vd] at h1
  have:=h1.lt hR0.sd.1
  have:=hR0.ld
  omega
 have hpw:Hid (k=min tx ty/\TwosIs X tx/\TwosIs Y ty):=⟨hk,hx,hR0.tw⟩
 have hR':=zab hR0
 have bg:Hid (FNew (w.alloc (.cells #[.bool false,.slice none 0 0,.slice none 0 0] 156)) w.heap.size):=am
 have cI:=zab hb0
 obtain⟨t,ht⟩:∃t,Hid (ty - k=t):=⟨_,rfl⟩
 clear hR0 hx hk am hb0
 go_enter Tryz.func209,Tryz.ntmps209
 go_upto_if 19 with(first
  | (go_at_call 207;with_reducible refine(eY _).mono ?_;rintro e w1 ⟨rfl,rfl⟩)
  | (go_at_call 315;with_reducible refine htx.mono ?_;rintro e w1 ⟨rfl,rfl⟩)
  | (go_at_call 315;with_reducible refine hty.mono ?_;rintro e w1 ⟨rfl,rfl⟩))
 go_cut [1,2] from 19 to 25 (fun v1 v2 wx=>∃q1 n1 c1 q2 n2 c2 ns ds,v1=.slice q1 n1 c1/\v2=.slice q2 n2 c2/\Hid (RedT wx (.slice q1 n1 c1) (.slice q2 n2 c2) ns ds (X / 2^k) (Y / 2^k) t/\Below (w.alloc (.cells #[.bool false,.slice none 0 0,.slice none 0 0] 156)).heap.size (w.alloc (.cells #[.bool false,.slice none 0 0,.slice none 0 0] 156)) wx))
 case first=>
  by_cases hk0:k=0
  ·have aN:Hid (RedT (w.alloc (.cells #[.bool false,.slice none 0 0,.slice none 0 0] 156)) (.slice q m cap) (.slice q' n cap') xs ys (X / 2^k) (Y / 2^k) t/\Below (w.alloc (.cells #[.bool false,.slice none 0 0,.slice none 0 0] 156)).heap.size (w.alloc (.cells #[.bool false,.slice none 0 0,.slice none 0 0] 156)) (w.alloc (.cells #[.bool false,.slice none 0 0,.slice none 0 0] 156))):=by
    refine⟨?_,Below.refl _ _⟩
    rw[<-ht.out,hk0]
    simpa using hR'.out
   have hkn:¬0<k:=by omega
   clear hk0
   go_wp2_with fail
   go_meet
   case rel=>exact⟨_,_,_,_,_,_,xs,ys,rfl,rfl,aN⟩
  ·have hkn:0<k:=by omega
   have hs1:=zgl hR'.out.sn (by have:=hR'.out.ln;omega) k hkb
   have hs2:∀z,Below (w.alloc (.cells #[.bool false,.slice none 0 0,.slice none 0 0] 156)).heap.size (w.alloc (.cells #[.bool false,.slice none 0 0,.slice none 0 0] 156)) z->_:=fun z hz=>zgl (hR'.out.sd.below hz) (by have:=hR'.out.ld;omega) k hkb
   go_wp2_with (first
    | (go_at_call 316;with_reducible refine hs1.mono ?_;rintro e w2 ⟨r1,ns,rfl,z1,z2,z3,z4,hb2⟩
       obtain⟨qa,ca,rfl⟩:=z1.form)
    | (go_at_call 316;with_reducible refine(hs2 _ hb2).mono ?_;rintro e w3 ⟨r2,ds,rfl,y1,y2,y3,y4,hb3⟩
       obtain⟨qb,cb,rfl⟩:=y1.form))
   have hr:=hrv.out
   have hh:=hR'.out
   have ik:=hb2.trans (hb3.mono hb2.size)
   have aN:Hid (RedT w3 (.slice qa ns.length ca) (.slice qb ds.length cb) ns ds (X / 2^k) (Y / 2^k) t/\Below (w.alloc (.cells #[.bool false,.slice none 0 0,.slice none 0 0] 156)).heap.size (w.alloc (.cells #[.bool false,.slice none 0 0,.slice none 0 0] 156)) w3):=
    ⟨⟨z1.below hb3,y1,z2,y2,by rw[z3,hh.vn],by rw[y3,hh.vd],hr.2.2.1,hr.2.2.2.1,by have:=hh.ln;omega,by have:=hh.ld;omega,by rw[<-ht.out];exact hr.2.2.2.2.2,hh.tb.below ik⟩,ik⟩
   go_meet
   case rel=>exact⟨_,_,_,_,_,_,ns,ds,rfl,rfl,aN⟩
 case rest=>
  obtain⟨q1,n1,c1,q2,n2,c2,ns,ds,rfl,rfl,hcc⟩:=hcut
  clear htx hty hR' hkk eY
  obtain⟨bn,b1,b2⟩:=bits_ex hcc.out.1.py
  have hbn:=hcc.out.1.bn b1
  have htw:=hcc.out.1.twos
  have hbt:=hcc.out.1.bits b1 b2
  have hl1:=hcc.out.1.sn.form
  have hl2:=hcc.out.1.sd.form
  by_cases hp:t=bn
  ·have hg1:gcdI (X / 2^k) (Y / 2^k)=1:=red_pow hpw.out.2.1 hpw.out.2.2 hpw.out.1 b2 (ht.out.trans hp)
   have hmb:((t:Int) != (bn:Int))=false:=by simp[hp]
   have e1:X / 2^k=X / gcdI X Y:=by rw[hrv.out.1,hg1,Int.ediv_one]
   have e2:Y / 2^k=Y / gcdI X Y:=by rw[hrv.out.2.1,hg1,Int.ediv_one]
   have ee:Hid (X / 2^k=X / gcdI X Y/\Y / 2^k=Y / gcdI X Y):=⟨e1,e2⟩
   clear hp hg1 e1 e2 b1 b2
   go_wp2_with (first
    | (go_at_call 315;with_reducible refine htw.mono ?_;rintro e w4 ⟨rfl,rfl⟩)
    | (go_at_call 317;with_reducible refine hbt.mono ?_;rintro e w4 ⟨rfl,rfl⟩
       have hh:=hcc.out.1
       have aU:=hcc.out.2
       obtain⟨hk,af⟩:=ziw (g:=g) (Nat.le_refl _) bg.out cI.out aU hh.sn hh.cn (hh.vn.trans ee.out.1) hh.sd hh.cd (hh.vd.trans ee.out.2) hh.ln hh.ld
       have h9:=bg.out.below aU
       have c0:=h9.c0
       have c1:=h9.c1
       have c2:=h9.c2
       have fr:=h9.fr
       clear h9
       clear hh aU))
   refine bodyPost_ret (zaj rfl _ _ w.heap.size _ dd rfl af hu hd zfi) rfl ?_
   exact⟨_,rfl,hk.out⟩
  ·have hmb:((t:Int) != (bn:Int))=true:=by simp;omega
   obtain⟨G,hG⟩:∃G,gcdI (X / 2^k) (Y / 2^k)=G:=⟨_,rfl⟩
   have hgp:=zep (b:=Y / 2^k) hcc.out.1.px
   have cU:=gcd32_ok hcc.out.1.sn hcc.out.1.sd hcc.out.1.cn hcc.out.1.cd hcc.out.1.ln hcc.out.1.ld
   rw[hcc.out.1.vn,hcc.out.1.vd,hG] at cU
   rw[hG] at hgp
   have ee:Hid (X / 2^k / G=X / gcdI X Y/\Y / 2^k / G=Y / gcdI X Y):=⟨by rw[hrv.out.1,hG],by rw[hrv.out.2.1,hG]⟩
   have eR:Hid (0<G):=hgp
   clear hG hgp b1 b2 hp
   go_upto_region 8 with(first
    | (go_at_call 315;with_reducible refine htw.mono ?_;rintro e w4 ⟨rfl,rfl⟩)
    | (go_at_call 317;with_reducible refine hbt.mono ?_;rintro e w4 ⟨rfl,rfl⟩)
    | (go_at_call 318;with_reducible refine cU.mono ?_;rintro e w5 ⟨rg,gs,rfl,hg,cg,vg,lg,hb5⟩
       have bu:=zgi hg
       have ng:gs≠[]:=by
        rintro rfl
        have:=eR.out
        simp only[val] at vg
        omega))
   by_cases h1:gs=[1]
   ·have vg1:G=1:=by
     rw[h1] at vg
     simpa [val] using vg.symm
    have e3:Hid (X / 2^k=X / gcdI X Y/\Y / 2^k=Y / gcdI X Y):=by
     have:=ee.out
     rw[vg1,Int.ediv_one,Int.ediv_one] at this
     exact this
    rw[decide_eq_true h1] at bu
    go_wp2_with (go_at_call 179;with_reducible refine bu.mono ?_;rintro e w6 ⟨rfl,hb6⟩
                 have hh:=hcc.out.1
                 have cL:=hb5.trans (hb6.mono hb5.size)
                 have aU:=hcc.out.2.trans (cL.mono hcc.out.2.size)
                 obtain⟨hk,af⟩:=ziw (g:=g) (Nat.le_refl _) bg.out cI.out aU (hh.sn.below cL) hh.cn (hh.vn.trans e3.out.1) (hh.sd.below cL) hh.cd (hh.vd.trans e3.out.2) hh.ln hh.ld
                 have h9:=bg.out.below aU
                 have c0:=h9.c0
                 have c1:=h9.c1
                 have c2:=h9.c2
                 have fr:=h9.fr
                 clear h9
                 clear hh aU cL hb5 hb6)
    refine bodyPost_ret (zaj rfl _ _ w.heap.size _ dd rfl af hu hd zfi) rfl ?_
    exact⟨_,rfl,hk.out⟩
   ·rw[decide_eq_false h1] at bu
    go_wp2_with (first
     | (go_at_call 179;with_reducible refine bu.mono ?_;rintro e w6 ⟨rfl,hb6⟩
        have cL:=hb5.trans (hb6.mono hb5.size)
        have hd1:=zgq (hcc.out.1.sn.below cL) (hg.below hb6) hcc.out.1.cn cg ng hcc.out.1.ln)
     | (go_at_call 319;with_reducible refine hd1.mono ?_;rintro e w7 ⟨r1,r2,na,rs,rfl,hn,cn,vn,_,_,_,hb7⟩
        obtain⟨qn,kn,rfl⟩:=hn.form
        have hd2:=zgq ((hcc.out.1.sd.below cL).below hb7) ((hg.below hb6).below hb7) hcc.out.1.cd cg ng hcc.out.1.ld)
     | (go_at_call 319;with_reducible refine hd2.mono ?_;rintro e w8 ⟨r3,r4,da,rs',rfl,hdd,cd,vd,_,_,_,hb8⟩
        rw[vg] at vn vd
        rw[hcc.out.1.vn] at vn
        rw[hcc.out.1.vd] at vd
        obtain⟨qd,kd,rfl⟩:=hdd.form
        have hh:=hcc.out.1
        have il:=hb7.trans (hb8.mono hb7.size)
        have im:=cL.trans (il.mono cL.size)
        have aU:=hcc.out.2.trans (im.mono hcc.out.2.size)
        have l1:na.length<=274877906000:=by
         have h0:=Int.ediv_le_self G (by have:=hh.px;omega:(0:Int)<=X / 2^k)
         have:=zbc hn.1 hh.sn.1 cn (by rw[vn,hh.vn];exact h0)
         have:=hh.ln
         omega
        have l2:da.length<=274877906000:=by
         have h0:=Int.ediv_le_self G (by have:=hh.py;omega:(0:Int)<=Y / 2^k)
         have:=zbc hdd.1 hh.sd.1 cd (by rw[vd,hh.vd];exact h0)
         have:=hh.ld
         omega
        obtain⟨hk,af⟩:=ziw (g:=g) (Nat.le_refl _) bg.out cI.out aU (hn.below hb8) cn (vn.trans ee.out.1) hdd cd (vd.trans ee.out.2) l1 l2
        have h9:=bg.out.below aU
        have c0:=h9.c0
        have c1:=h9.c1
        have c2:=h9.c2
        have fr:=h9.fr
        clear h9
        clear hh aU im il hb7 hb8 hd1 hd2))
    refine bodyPost_ret (zaj rfl _ _ w.heap.size _ dd rfl af hu hd zfi) rfl ?_
    exact⟨_,rfl,hk.out⟩
theorem zix {w:World} {a b:Value} {g:Bool} {xs ys:List Int} (hx:Sl w a xs) (hy:Sl w b ys) (cx:Canon xs) (cy:Canon ys) (ny:ys≠[]) (lx:xs.length<=274877906000) (ly:ys.length<=274877906000) (hT:Tb w):
  Calls Tryz.prog 209 #[.bool g,a,b] w fun e w'=>∃f,e=.returned f/\FAt w' f (mkG g (val xs) (val ys)) (mkN (val xs) (val ys)) (mkD (val xs) (val ys))/\Below w.heap.size w w':=by
 obtain⟨q,cap,rfl⟩:=hx.form
 obtain⟨q',cap',rfl⟩:=hy.form
 by_cases hx0:xs=[]
 ·subst hx0
  simpa [mkG,mkN,mkD,val] using red_zero (g:=g) (q:=q) (q':=q') (n:=ys.length) (cap:=cap) (cap':=cap') (w:=w)
 ·have vx:=zby hx.1 cx hx0
  have vy:=zby hy.1 cy ny
  obtain⟨tx,htx⟩:=TwosIs.ex vx
  obtain⟨ty,hty⟩:=TwosIs.ex vy
  have hb0:Below w.heap.size w (w.alloc (.cells #[.bool false,.slice none 0 0,.slice none 0 0] 156)):=zaa w _
  have hne:¬(val xs=0\/val ys=0):=by omega
  simp only[mkG,mkN,mkD,if_neg hne]
  exact red_walk (k:=min tx ty) (by have:=List.length_pos_iff.2 hx0;omega) ⟨hx.below hb0,hy.below hb0,cx,cy,rfl,rfl,vx,vy,lx,ly,hty,hT.below hb0⟩ htx rfl (by omega)
end Go.Proofs.YtnnhofmknilopaaGreatDoor
