import Derived.Laws.CopyOwn
import Derived.Test.YtaonejnicgbifaaGreatDoorQk13
namespace Go.Proofs.YtaonejnicgbifaaGreatDoor
open Go Go.RowKit
set_option maxRecDepth 100000
theorem Sl.news {w:World} {q:Option Addr} {n cap:Nat} {ys:List Int} (h:Sl w (.slice q n cap) ys) (hp:0<ys.length):∃ad,q=some ad/\∀j v,(ys.map (Value.int .u32))[j]?=some v->w.cell? (ad.add j)=some v:=by
 obtain⟨_,_,q',cap',e,_,hx⟩:=h
 cases e
 rcases hx with rfl | ⟨b,o,rfl,_,hc⟩
 ·simp at hp
 ·refine⟨_,rfl,fun j u hj=>?_⟩
  have hjl:j<ys.length:=by
   rcases Nat.lt_or_ge j ys.length with h | h
   ·exact h
   ·simp[List.getElem?_eq_none h] at hj
  have h:=hc j hjl
  simp only[List.getElem?_map,List.getElem?_eq_getElem hjl,Option.map_some,Option.some.injEq] at hj
  rw[show ys.getD j 0=ys[j] by simp[hjl],hj] at h
  by_cases h0:j=0
  ·subst h0
   simpa [Addr.add] using h
  ·simpa [Addr.add,h0] using h
theorem Blk.p {w:World} {g:Nat} {os:List Int} (h:Blk w g os):BlkP w g os:=by
 unfold Blk at h
 exact⟨_,h,fun j hj=>by simp[cells32,hj]⟩
theorem zgt (zs:List Int) (n:Nat) (_h:zs.length<=n):splice ((List.replicate n (0:Int)).map (Value.int .u32)) 0 (zs.map (Value.int .u32))=(zs++List.replicate (n - zs.length) 0).map (Value.int .u32):=by
 unfold splice
 rw[List.map_append]
 simp
theorem zl3 (zs:List Int) (k:Nat):val (zs++List.replicate k 0)=val zs:=by
 rw[za6]
 have hv:∀n:Nat,val (List.replicate n 0)=0:=by
  intro n
  induction n with
  | zero=>rfl
  | succ n ih=>simp[List.replicate_succ,val,ih]
 rw[hv,Int.mul_zero,Int.add_zero]
theorem dig_pad {zs:List Int} (h:Dig zs) (k:Nat):Dig (zs++List.replicate k 0):=zcz h fun j=>by
 have:(List.replicate k (0:Int)).getD j 0=0:=by
  simp only[List.getD_eq_getElem?_getD,List.getElem?_replicate]
  split<;>rfl
 rw[this]
 omega
structure DivG (xs ys vs u0:List Int) (s m Lq:Nat):Prop where
 vl:vs.length=m+2
 ul:u0.length=Lq+(m+2)
 dv:Dig vs
 du:Dig u0
 vv:val vs=val ys*2^s
 vz:val u0=val xs*2^s
 ht:0<vs.getD (m+1) 0
 top:val (u0.drop Lq)<val vs
 vy:0<val ys
theorem DivG.vpos {xs ys vs u0:List Int} {s m Lq:Nat} (h:DivG xs ys vs u0 s m Lq):0<val vs:=zd4 h.dv h.vl h.ht
theorem zjy {Y:Int} (h0:1<=Y) (h1:Y<=4294967295):∃s:Nat,(32 - (Lib.bitLen Y.toNat:Int))=s/\s<=31/\Y*2^s<4294967296:=by
 obtain⟨s1,s2,s3⟩:=zeb Y.toNat (by omega) (by omega)
 have s4:=zec Y (by omega) h1
 generalize Lib.bitLen Y.toNat=L at*
 refine⟨32 - L,by omega,by omega,?_⟩
 have e:(2:Int)^L*2^(32 - L)=4294967296:=by
  rw[<-Int.pow_add,show L+(32 - L)=32 by omega]
  rfl
 have h2:Y<(2:Int)^L:=by
  rw[show ((2:Int)^L)=((2^L:Nat):Int) by simp]
  omega
 rw[<-e]
 exact Int.mul_lt_mul_of_pos_right h2 (zaq _)
theorem zl4 {xs ys vs zs:List Int} {s m Lq:Nat} (dx:Dig xs) (dy:Dig ys) (cy:Canon ys) (hy:ys.length=m+2) (hY:ys.getD (m+1) 0*2^s<4294967296) (hs:s<=31) (hL:xs.length+1=Lq+(m+2))
  (dv:Dig vs) (cv:Canon vs) (vv:val vs=val ys*2^s) (dz:Dig zs) (vz:val zs=val xs*2^s) (lz:zs.length<=xs.length+1):
  DivG xs ys vs (zs++List.replicate (xs.length+1 - zs.length) 0) s m Lq:=by
 have hp:=zaq s
 have hgy:=zgn dy cy (k:=m+1) hy
 have hp1:=zat (m+1)
 have vy:0<val ys:=by omega
 have e1:=zbc (vs:=ys) (m:=m+1) hy
 have t1:=za3 (zan dy (m+1))
 have t0:=zaf (zan dy (m+1))
 rw[List.length_take,Nat.min_eq_left (by omega)] at t1
 have hvl:val vs<4294967296^(m+2):=by
  rw[vv,e1,Int.add_mul,Int.pow_succ _ (m+1)]
  have h1:(ys.getD (m+1) 0*2^s+2^s)*4294967296^(m+1)<=4294967296*4294967296^(m+1):=by
   refine Int.mul_le_mul_of_nonneg_right ?_ (by omega)
   obtain⟨d,hd⟩:∃d,32=s+d:=⟨32 - s,by omega⟩
   have e32:(4294967296:Int)=2^d*2^s:=by rw[<-Int.pow_add,Nat.add_comm,<-hd];rfl
   have h2:ys.getD (m+1) 0*2^s<2^d*2^s:=by rw[<-e32];exact hY
   have h3:=Int.lt_of_mul_lt_mul_right h2 (by omega)
   have h4:=Int.mul_le_mul_of_nonneg_right (by omega:ys.getD (m+1) 0+1<=2^d) (by omega:(0:Int)<=2^s)
   rw[Int.add_mul,Int.one_mul] at h4
   omega
  have h5:val (ys.take (m+1))*2^s<4294967296^(m+1)*2^s:=Int.mul_lt_mul_of_pos_right t1 hp
  rw[Int.add_mul] at h1
  have h6:ys.getD (m+1) 0*4294967296^(m+1)*2^s=ys.getD (m+1) 0*2^s*4294967296^(m+1):=by rw[Int.mul_assoc,Int.mul_comm (4294967296^(m+1)),<-Int.mul_assoc]
  rw[h6]
  rw[Int.mul_comm (2^s)] at h1
  omega
 have hle:val ys<=val vs:=by
  rw[vv]
  have:=Int.mul_le_mul_of_nonneg_left (by omega:(1:Int)<=2^s) (by omega:0<=val ys)
  omega
 have l1:=ze3 dv cv hvl
 have l2:=zbd dy dv cy hle
 have vl:vs.length=m+2:=by omega
 have c1:=cv (m+1) vl
 have d1:=dv (m+1)
 have hul:(zs++List.replicate (xs.length+1 - zs.length) 0).length=Lq+(m+2):=by simp;omega
 have hdu:=dig_pad dz (xs.length+1 - zs.length)
 refine⟨vl,hul,dv,hdu,vv,by rw[zl3,vz],by omega,?_,vy⟩
 rw[zdu hdu Lq (by omega),zl3,vz]
 have hx:=za3 dx
 have hxl:xs.length=Lq+(m+1):=by omega
 rw[hxl,Int.pow_add] at hx
 have h7:val xs*2^s<4294967296^Lq*(4294967296^(m+1)*2^s):=by
  rw[<-Int.mul_assoc]
  exact Int.mul_lt_mul_of_pos_right hx hp
 rw[Int.mul_comm (4294967296^Lq)] at h7
 have h8:=Int.ediv_lt_of_lt_mul (zat Lq) h7
 have h9:4294967296^(m+1)*2^s<=val vs:=by
  rw[vv]
  exact Int.mul_le_mul_of_nonneg_right hgy (by omega)
 omega
theorem zjz {w2 wr:World} {gu:Nat} {v:Value} {xs ys vs u0 us q:List Int} {s m Lq k cap:Nat} (h:DivG xs ys vs u0 s m Lq) (hk:k<Lq) (hd:Dvb u0 vs (k+1) us q) (hsv:SlN gu w2 v vs) (hb:BlkP wr gu us) (hs:Sav gu w2 wr)
  (aH:m+3<=cap) (hn:m+3<=274877906944) (hL:Lq<=549755813888):
  ∃d:Int,(0<=d/\d<=4294967295)/\Calls Tryz.prog 196 #[.slice (some ⟨gu,k,none⟩) (m+3) cap,v] wr fun e w'=>e=.returned (.int .u32 d)/\∃us',BlkP w' gu us'/\Dvb u0 vs k us' (q.set k d)/\Sav gu wr w':=by
 have hz:=h.ul
 have hv:=h.vl
 have hql:=hd.qlen
 have hul:=hd.len
 have bN:=h.vpos
 obtain⟨_,_,h3⟩:=hd.window (by omega) h.dv
 have hus:us=us.take k++(us.drop k).take (vs.length+1)++us.drop (k+(vs.length+1)):=by
  rw[List.append_assoc,<-List.drop_drop,List.take_append_drop,List.take_append_drop]
 have hw0:((us.drop k).take (vs.length+1)).length=m+3:=by rw[List.length_take,List.length_drop];omega
 have dW:=zan (zbi hd.dig k) (vs.length+1)
 have w0:=zaf dW
 rw[hus] at hb
 have dh:=zjl (cap:=cap) (by rw[List.length_take,Nat.min_eq_left (by omega)]:(us.take k).length=k) hw0 hv hb dW (hsv.sav hs) h.ht h3 aH hn (by omega)
 have ak:=fun W hW dW bW=>hd.step (W:=W) (by omega) h.dv (by omega) hW dW bW
 refine⟨val ((us.drop k).take (vs.length+1)) / val vs,⟨Int.ediv_nonneg w0 (by omega),?_⟩,dh.mono ?_⟩
 ·have:=Int.ediv_lt_of_lt_mul (by omega:0<val vs) (by rwa [Int.mul_comm] at h3)
  omega
 ·rintro e w' ⟨us',rfl,hl',hd',hv',hb',hs'⟩
  exact⟨rfl,_,hb',ak us' (by omega) hd' hv',hs'⟩
theorem zl5 {xs ys vs u0 us q:List Int} {s m Lq:Nat} (h:DivG xs ys vs u0 s m Lq) (hd:Dvb u0 vs 0 us q):val q=val xs / val ys/\val us=val xs % val ys*2^s:=by
 have ht:=hd.top
 have he:=hd.eq
 rw[List.drop_zero] at ht
 have h0:=zaf hd.dig
 have h2:=zaq s
 have hv:=h.vpos
 have e1:val q=val u0 / val vs:=by
  rw[<-he,Int.add_mul_ediv_left _ _ (by omega),Int.ediv_eq_zero_of_lt h0 ht,Int.zero_add]
 have e2:val us=val u0 % val vs:=by
  rw[<-he,Int.add_mul_emod_self_left,Int.emod_eq_of_lt h0 ht]
 rw[h.vv,h.vz] at e1 e2
 rw[Int.mul_ediv_mul_of_pos_left _ _ h2] at e1
 rw[Int.mul_comm (val xs),Int.mul_comm (val ys),Int.mul_emod_mul_of_pos _ _ h2,Int.mul_comm] at e2
 exact⟨e1,e2⟩
theorem Blk.sl32 {w:World} {g:Nat} {q:List Int} (h:BlkP w g q) (dq:Dig q) (hl:q.length<=549755813888):Sl w (.slice (some ⟨g,0,none⟩) q.length q.length) q:=
 ⟨dq,hl,_,_,rfl,Nat.le_refl _,.inr ⟨g,0,rfl,h.lt,fun i hi=>by simpa using h.cell hi⟩⟩
set_option maxHeartbeats 16000000
theorem div32_lt {w:World} {v u:Value} {xs ys:List Int} (hx:Sl w v xs) (hy:Sl w u ys) (cx:Canon xs) (cy:Canon ys) (hlt:val xs<val ys):
  Calls Tryz.prog 172 #[v,u] w fun e w'=>∃r1 r2,e=.returned (.tuple #[r1,r2])/\Sl w' r1 []/\Sl w' r2 xs/\Below w.heap.size w w':=by
 have aU:=zfe hx hy cx cy
 obtain⟨q,cap,rfl⟩:=hx.form
 obtain⟨q2,cap2,rfl⟩:=hy.form
 have hx':=zac hx
 have aA:Hid (val xs<val ys):=hlt
 clear hx hy hlt
 go_enter Tryz.func172,Tryz.ntmps172
 go_wp2_with (go_at_call 89;refine aU.mono ?_;rintro e w1 ⟨c,rfl,hc1,hc2,hb1⟩
              have hcn:c<0:=hc1.2 aA.out)
 go_ret2
 exact⟨_,_,rfl,Sl.nil _,hx'.out.below hb1,hb1⟩
theorem zl6 {w:World} {v u:Value} {xs ys:List Int} (hx:Sl w v xs) (hy:Sl w u ys) (cx:Canon xs) (cy:Canon ys) (hle:val ys<=val xs) (h1:ys.length=1) (lx:xs.length<=274877906944):
  Calls Tryz.prog 172 #[v,u] w fun e w'=>∃r1 r2 qs rs,e=.returned (.tuple #[r1,r2])/\Sl w' r1 qs/\Canon qs/\val qs=val xs / val ys/\Sl w' r2 rs/\Canon rs/\val rs=val xs % val ys/\Below w.heap.size w w':=by
 have aU:=zfe hx hy cx cy
 obtain⟨Y,rfl⟩:=List.length_eq_one_iff.1 h1
 have hY:val [Y]=Y:=by simp[val]
 rw[hY] at hle aU ⊢
 have hd:=hy.1 0
 have hY0:=cy 0 rfl
 simp only[List.getD_cons_zero] at hd hY0
 have iP:xs≠[]:=by rintro rfl;simp[val] at hle;omega
 obtain⟨q,cap,rfl⟩:=hx.form
 obtain⟨_,_,q2,cap2,rfl,bQ,hyx⟩:=hy
 rcases hyx with h | ⟨b,o,rfl,hb,hc⟩
 ·cases h
 have c0:w.cell? ⟨b,o,none⟩=some (.int .u32 Y):=by simpa using hc 0 (by simp)
 have hx':=zac hx
 have ct:Hid (Y<=val xs):=hle
 have iQ:Hid (xs≠[]):=iP
 have x0:=zaf hx.1
 have hm0:=Int.emod_nonneg (val xs) (by omega:Y≠0)
 have hm1:=Int.emod_lt_of_pos (val xs) (by omega:0<Y)
 obtain⟨X,hX⟩:∃X,Hid (val xs=X):=⟨_,rfl⟩
 rw[hX.out] at hm0 hm1 ⊢
 clear hx hle iP hc x0
 go_enter Tryz.func172,Tryz.ntmps172
 go_wp2_with (first
  | (go_at_call 89;refine aU.mono ?_;rintro e w1 ⟨c,rfl,hc1,hc2,hb1⟩
     have hcn:¬c<0:=fun h=>by have:=hc1.1 h;have:=ct.out;omega
     have c1:w1.cell? ⟨b,o,none⟩=some (.int .u32 Y):=(hb1.cell (by exact hb)).trans c0
     have hds:=zhl (hx'.out.below hb1) iQ.out lx Y (by omega) (by omega)
     rw[hX.out] at hds)
  | (go_at_call 193;refine hds.mono ?_;rintro e w2 ⟨r,zs,rfl,hr,hrc,hrv,hb2⟩
     have hsm:=zdm w2 (X % Y) hm0 (by omega))
  | (go_at_call 144;refine hsm.mono ?_;rintro e w3 ⟨r3,rfl,hr3,hb3⟩))
 go_ret2
 obtain⟨s1,s2,s3,s4⟩:=zed hm0 (by omega:X % Y<=18446744073709551615)
 exact⟨r,r3,zs,smallW (X % Y),rfl,hr.below hb3,hrc,hrv,hr3,s2,s3,hb1.trans ((hb2.trans (hb3.mono hb2.size)).mono hb1.size)⟩
theorem zj0 {w:World} {v u:Value} {xs ys:List Int} (hx:Sl w v xs) (hy:Sl w u ys) (cx:Canon xs) (cy:Canon ys) (hle:val ys<=val xs) {m:Nat} (h1:ys.length=m+2) (lx:xs.length<=274877906000):
  Calls Tryz.prog 172 #[v,u] w fun e w'=>∃r1 r2 qs rs,e=.returned (.tuple #[r1,r2])/\Sl w' r1 qs/\Canon qs/\val qs=val xs / val ys/\Sl w' r2 rs/\Canon rs/\val rs=val xs % val ys/\Below w.heap.size w w':=by
 obtain⟨i0,hi,hz0,hz1,hz2⟩:=info_parts (show(Tryz.prog.info? 150).map (fun i=>(i.zero,i.size,i.bytes))=some (some (.int .u32 0),1,4) by kernel_rfl)
 have aU:=zfe hx hy cx cy
 have lyx:=zbd hy.1 hx.1 cy hle
 have hY0:=cy (m+1) h1
 have hY1:=hy.1 (m+1)
 obtain⟨Lq,hLq⟩:∃Lq,xs.length+1=Lq+(m+2):=⟨xs.length+1 - (m+2),by omega⟩
 have hL1:1<=Lq:=by omega
 obtain⟨q,cap,rfl⟩:=hx.form
 obtain⟨_,_,q2,cap2,rfl,bQ,hyx⟩:=id hy
 rcases hyx with h | ⟨b,o,rfl,hb,hc⟩
 ·simp[h] at h1
 have c0:=hc (m+1) (by omega)
 have hY':Hid (ys.getD (m+1) 0=ys.getD (m+1) 0):=rfl
 obtain⟨Y,hY⟩:∃Y,Hid (ys.getD (m+1) 0=Y):=⟨_,rfl⟩
 rw[hY.out] at c0 hY0 hY1
 obtain⟨s,es,hs,hys⟩:=zjy (Y:=Y) (by omega) hY1.2
 have eY:=fun z=>zkm Y z hY1.1 hY1.2
 rw[es] at eY
 have hx':=zac hx
 have hy':Hid (Sl w (.slice (some ⟨b,o,none⟩) (m+2) cap2) ys):=by rw[h1] at hy;exact hy
 have ct:Hid (val ys<=val xs):=hle
 have cy':Hid (Canon ys):=cy
 have hh:Hid (ys.length=m+2/\xs.length+1=Lq+(m+2)/\Y*2^s<4294967296):=⟨h1,hLq,hys⟩
 rw[h1] at aU bQ ⊢
 have e5:(xs.length:Int) - ((m:Int)+2)+1=(Lq:Int):=by omega
 have hlx:m+2<=xs.length:=by omega
 clear hx hy hle hc cy h1 hys es hY' lyx hLq
 go_enter Tryz.func172,Tryz.ntmps172
 go_wp2_with (first
  | (go_at_call 89;refine aU.mono ?_;rintro e w1 ⟨c,rfl,hc1,hc2,hb1⟩
     have hcn:¬c<0:=fun h=>by have:=hc1.1 h;have:=ct.out;omega
     have c1:w1.cell? ⟨b,o+(m+1),none⟩=some (.int .u32 Y):=(hb1.cell (by exact hb)).trans c0
     have hV:=zic (hy'.out.below hb1) (by have:=hh.out.1;omega) s hs)
  | (go_at_call 194;refine(eY _).mono ?_;rintro e w2 ⟨rfl,rfl⟩)
  | (go_at_call 195;with_reducible refine hV.mono ?_;rintro e wv ⟨rv,vs,rfl,sv,cv,vv,lv,hbv⟩
     have bZ:Below w.heap.size w wv:=hb1.trans (hbv.mono hb1.size)
     obtain⟨qv,capv,rfl⟩:=sv.form)
  | (at_make;refine wpList_make_full _ rfl _ _ 25 rfl wv.heap.size 150 i0 (.int .u32 0) 1 Tryz.underlying25 hi hz0 hz1 _ _ _ _ (xs.length+1) rfl rfl (by omega) (by omega) (by rw[hz2];omega) (by unfold maxLen;omega) (Nat.le_refl _) ?_;intro w2 aB aO
     have hbm:Below wv.heap.size wv w2:=(Below.refl _ _).grown aO (Nat.le_refl _) (fun _ h=>by cases h)
     have hB2:Blk w2 wv.heap.size (List.replicate (xs.length+1) 0):=zbq (by simpa [Value.cells] using aB)
     have iR:Below w.heap.size w w2:=bZ.trans (hbm.mono bZ.size)
     have hU:=zic (hx'.out.below iR) (by omega) s hs
     clear aB aO)
  | (go_at_call 195;with_reducible refine hU.mono ?_;rintro e wu ⟨ru,zs,rfl,su,cu,vu,lu,hbu⟩
     have hB3:wu.heap[wv.heap.size]?=some (.cells ((List.replicate (xs.length+1) (0:Int)).map (Value.int .u32)).toArray 150 (0,0)):=(hbu.block _ (by have:=hB2.p.lt;exact this)).trans hB2
     have iS:Below wv.heap.size wv wu:=hbm.trans (hbu.mono hbm.size)
     obtain⟨qu,capu,rfl⟩:=su.form)
  | (refine wpList_copy_splice rfl (.tmp 47) (.tmp 50) 25 105 rfl 150 Tryz.underlying25 (by rw[hi];exact congrArg some hz1) (some ⟨wv.heap.size,0,none⟩) qu (xs.length+1) (xs.length+1) zs.length capu rfl rfl wv.heap.size 0 ((List.replicate (xs.length+1) (0:Int)).map (Value.int .u32)) 150 hB3 (zs.map (Value.int .u32)) (by rw[List.length_map];exact(Nat.min_eq_left lu).symm) (fun hp=>⟨rfl,su.news (by simpa using hp)⟩) (by simp;omega) (ints_oneCell .u32 zs) wv.heap.size wv iS (Nat.le_refl _) ?_;intro w3 hH3 hb3)
  | (at_make;refine wpList_make_full _ rfl _ _ 25 rfl w3.heap.size 150 i0 (.int .u32 0) 1 Tryz.underlying25 hi hz0 hz1 _ _ _ _ Lq rfl rfl (by omega) (by omega) (by rw[hz2];omega) (by unfold maxLen;omega) (Nat.le_refl _) ?_;intro w4 aB aO))
 have hG:Hid (DivG xs ys vs (zs++List.replicate (xs.length+1 - zs.length) 0) s m Lq):=zl4 hx'.out.1 hy'.out.1 cy'.out hh.out.1 (by rw[hY.out];exact hh.out.2.2) hs hh.out.2.1 sv.1 cv vv su.1 vu lu
 have hvl:=hG.out.vl
 have fI:Below w.heap.size w w3:=bZ.trans (hb3.mono bZ.size)
 have hgu:wv.heap.size<w3.heap.size:=by
  have:=hH3.out
  exact(Array.getElem?_eq_some_iff.1 this).1
 have hP3:BlkP w3 wv.heap.size (zs++List.replicate (xs.length+1 - zs.length) 0):=by
  refine Blk.p ?_
  have:=hH3.out
  rw[zgt zs _ lu] at this
  exact this
 have cI:Below w3.heap.size w3 w4:=(Below.refl _ _).grown aO (Nat.le_refl _) (fun _ h=>by cases h)
 have hP4:BlkP w4 wv.heap.size (zs++List.replicate (xs.length+1 - zs.length) 0):=hP3.below cI
 have hB4:Blk w4 w3.heap.size (List.replicate Lq 0):=zbq (by simpa [Value.cells] using aB)
 have hS4:Sav wv.heap.size w3 w4:=Sav.of cI
 have sv3:Hid (SlN wv.heap.size w3 (.slice qv (m+2) capv) vs):=by
  have:=sv.ne hb3 (Nat.le_refl _)
  rwa [hvl] at this
 have hBw:Hid (w.heap.size<=wv.heap.size/\Below w.heap.size w w3):=⟨bZ.size,fI⟩
 rw[hvl]
 clear aB aO hbv hbu su sv vv vu cv cu hV hU lv lu hP3 cI hH3 hb3 iS hbm iR hB2 hB3 fI hvl hi hz0 hz1 hz2 bZ c0 c1 eY aU hb1
 obtain⟨u0,hu0⟩:∃u0,Hid (zs++List.replicate (xs.length+1 - zs.length) 0=u0):=⟨zs++List.replicate (xs.length+1 - zs.length) 0,by exact rfl⟩
 rw[hu0.out] at hG hP4
 have j5:Hid (u0.length=xs.length+1):=by
  have:=hG.out.ul
  have:=hh.out.2.1
  show u0.length=xs.length+1
  omega
 have hst:Hid (Dvb u0 vs Lq u0 (List.replicate Lq 0)):=Dvb.zero (by have:=hG.out.vl;have:=hG.out.ul;omega) hG.out.du hG.out.top
 generalize wv.heap.size=gu at*
 go_loopw [12] (fun t12 wz=>∃(k:Nat) (us qs:List Int),k<=Lq/\t12=.int .i64 ((k:Int) - 1)/\Hid (Dvb u0 vs k us qs)/\BlkP wz gu us/\Blk wz w3.heap.size qs/\Sav gu w3 wz) (fun t12 _=>(intOf t12+1).toNat)
 case atStart=>exact⟨Lq,_,_,Nat.le_refl _,by go_num,hst,hP4,hB4,hS4⟩
 case round=>
  clear hB4 hP4 hS4 hst
  obtain⟨k,us,qs,hk,rfl,hdv,hP,hB,hS⟩:=hrel
  match k,hk,hdv with
  | 0,hk,hdv=>
   obtain⟨dq,du⟩:=zl5 hG.out hdv.out
   have hql:qs.length=Lq:=by
    have h1:=hdv.out.qlen
    have h2:=hG.out.vl
    have h3:=hG.out.ul
    omega
   have hus:us.length=xs.length+1:=by
    have h1:=hdv.out.len
    have h3:=j5.out
    omega
   obtain⟨r1,hr1,sr1⟩:=zeg (Blk.sl32 hB.p hdv.out.qdig (by omega))
   obtain⟨r2,hr2,sr2⟩:=zeg (Blk.sl32 hP hdv.out.dig (by omega))
   rw[hql] at hr1
   rw[hus] at hr2
   have htl:(trim us).length<=274877906944:=by
    rw[zai]
    have:=zam us us.length
    omega
   have hr3:=zfj sr2 htl s (by omega)
   have hbz:Below w.heap.size w wr:=hBw.out.2.trans (hS.below hBw.out.1 hBw.out.2.size)
   have dq':Hid (val qs=val xs / val ys):=dq
   have du':=zac du
   have sr1':Hid (Sl wr r1 (trim qs)):=sr1
   clear dq du sr1 hql hus
   go_wp2_with (first
    | (go_at_call 108;with_reducible refine hr1.mono ?_;rintro e w5 ⟨rfl,rfl⟩)
    | (go_at_call 108;with_reducible refine hr2.mono ?_;rintro e w6 ⟨rfl,rfl⟩)
    | (go_at_call 168;with_reducible refine hr3.mono ?_;rintro e w7 ⟨r3,rs,rfl,h5,h6,h7,_,h8⟩))
   go_ret2
   refine⟨r1,r3,trim qs,rs,rfl,sr1'.out.below h8,zak _,by rw[zbl];exact dq'.out,h5,h6,?_,hbz.trans (h8.mono hbz.size)⟩
   rw[h7,zbl,du'.out,Int.mul_ediv_cancel _ (by have:=zaq s;omega)]
  | k+1,hk,hdv=>
   have e1:((k+1:Nat):Int) - 1=(k:Int):=by omega
   rw[e1]
   clear e1
   have e2:k+(m+2)+1 - k=m+3:=by omega
   obtain⟨d,gh,dh⟩:=zjz (cap:=xs.length+1 - k) hG.out (by omega) hdv.out sv3.out hP hS (by omega) (by omega) (by omega)
   obtain⟨hd0,hd1⟩:=gh
   have hkx:(k:Int)+((m:Int)+2)+1<=(xs.length:Int)+1:=by omega
   go_wp2_with (go_at_call 196;with_reducible refine dh.mono ?_;rintro e w4 ⟨rfl,us',hP4,gi,hS4⟩
                have hB4:=hB.p
                have hB5:Blk w4 w3.heap.size qs:=by
                 unfold Blk at hB ⊢
                 rw[hS4.block _ (by have:=hB4.lt;exact this) (by omega)]
                 exact hB
                have hql:qs.length=Lq:=by
                 have h1:=hdv.out.qlen
                 have h2:=hG.out.vl
                 have h3:=hG.out.ul
                 omega
                have c2:w4.cell? ⟨w3.heap.size,k,none⟩=some (.int .u32 (qs.getD k 0)):=hB5.cell (by omega)
                have hfr:=hB5.frozen k
                generalize qs.getD k 0=OK at c2
                clear hql)
   go_roundw
   case rel=>
    exact⟨k,us',qs.set k d,by omega,by go_num,gi,hP4.setOther (by simp;omega) _,hB5.set _ _,(hS.trans hS4).setFresh (by simp) _⟩
   case measure=>simp[intOf]
theorem zfx {w:World} {v u:Value} {xs ys:List Int} (hx:Sl w v xs) (hy:Sl w u ys) (cx:Canon xs) (cy:Canon ys) (ny:ys≠[]) (lx:xs.length<=274877906000):
  Calls Tryz.prog 172 #[v,u] w fun e w'=>∃r1 r2 qs rs,e=.returned (.tuple #[r1,r2])/\Sl w' r1 qs/\Canon qs/\val qs=val xs / val ys/\Sl w' r2 rs/\Canon rs/\val rs=val xs % val ys/\Below w.heap.size w w':=by
 have x0:=zaf hx.1
 by_cases hlt:val xs<val ys
 ·refine(div32_lt hx hy cx cy hlt).mono ?_
  rintro e w' ⟨r1,r2,rfl,h1,h2,hb⟩
  exact⟨r1,r2,[],xs,rfl,h1,zbb,by rw[Int.ediv_eq_zero_of_lt x0 hlt];rfl,h2,cx,by rw[Int.emod_eq_of_lt x0 hlt],hb⟩
 ·have bN:=List.length_pos_iff.2 ny
  by_cases h1:ys.length=1
  ·exact zl6 hx hy cx cy (by omega) h1 (by omega)
  ·obtain⟨m,hm⟩:∃m,ys.length=m+2:=⟨ys.length - 2,by omega⟩
   exact zj0 hx hy cx cy (by omega) hm lx
def valAtb (w:World) (v:Value):Nat:=
 match v with
 | .slice (some a) n _=>(val ((List.range n).map fun i=>match w.cell? ⟨a.block,a.off+i,none⟩ with | some (.int _ x)=>x | _=>0)).toNat
 | _=>0
theorem Sl.valAtb {w:World} {v:Value} {xs:List Int} (h:Sl w v xs):valAtb w v=(val xs).toNat:=by
 obtain⟨_,_,q,cap,rfl,_,hx⟩:=h
 rcases hx with rfl | ⟨b,o,rfl,_,hc⟩
 ·cases q<;>simp[Go.Proofs.YtaonejnicgbifaaGreatDoor.valAtb,val]
 ·unfold Go.Proofs.YtaonejnicgbifaaGreatDoor.valAtb
  simp only[]
  congr 2
  apply List.ext_getElem?
  intro i
  by_cases hi:i<xs.length
  ·rw[List.getElem?_map,List.getElem?_range hi]
   simp only[Option.map_some]
   rw[hc i hi]
   simp[hi]
  ·simp[hi]
theorem gcd32_ok {w:World} {v u:Value} {xs ys:List Int} (hx:Sl w v xs) (hy:Sl w u ys) (cx:Canon xs) (cy:Canon ys) (lx:xs.length<=274877906000) (ly:ys.length<=274877906000):
  Calls Tryz.prog 170 #[v,u] w fun e w'=>∃r gs,e=.returned r/\Sl w' r gs/\Canon gs/\val gs=gcdI (val xs) (val ys)/\gs.length<=274877906000/\Below w.heap.size w w':=by
 have hx':Hid (Sl w v xs):=hx
 have hy':Hid (Sl w u ys):=hy
 obtain⟨G,hG⟩:∃G,Hid (gcdI (val xs) (val ys)=G):=⟨_,rfl⟩
 rw[hG.out]
 have cx':Hid (Canon xs):=cx
 have cy':Hid (Canon ys):=cy
 clear hx hy cx cy
 go_enter Tryz.func170,Tryz.ntmps170
 go_wp2
 go_loopw [0,1,5,6] (fun t0 t1 t5 t6 wr=>∃(sa sb:List Int),Hid (Sl wr t0 sa/\Sl wr t1 sb/\Canon sa/\Canon sb/\gcdI (val sa) (val sb)=G)/\sa.length<=274877906000/\sb.length<=274877906000/\Below w.heap.size w wr) (fun t0 t1 t5 t6 wr=>valAtb wr t1)
 case atStart=>exact⟨xs,ys,⟨hx'.out,hy'.out,cx'.out,cy'.out,hG.out⟩,lx,ly,Below.refl _ _⟩
 case round=>
  clear hx' hy' cx' cy' lx ly
  obtain⟨sa,sb,hab,la,lb,hbw⟩:=hrel
  obtain⟨q2,cap2,rfl⟩:=hab.out.2.1.form
  obtain⟨q1,cap1,rfl⟩:=hab.out.1.form
  by_cases hne:sb=[]
  ·subst hne
   go_wp2
   go_ret
   have h:=hab.out
   have a0:=zaf h.1.1
   refine⟨_,sa,rfl,h.1,h.2.2.1,?_,la,hbw⟩
   rw[<-h.2.2.2.2]
   exact(zgi a0).symm
  ·have hbl:0<sb.length:=List.length_pos_iff.2 hne
   have hdv:=zfx hab.out.1 hab.out.2.1 hab.out.2.2.1 hab.out.2.2.2.1 hne la
   go_wp2_with (go_at_call 172;with_reducible refine hdv.mono ?_;rintro e w2 ⟨r1,r2,qs,rs,rfl,h1,h2,h3,h4,h5,h6,hb2⟩)
   have a0:=zaf hab.out.1.1
   have b0:=zca hab.out.2.1.1 hab.out.2.2.2.1 hne
   have hml:=Int.emod_lt_of_pos (val sa) b0
   have hm0:=Int.emod_nonneg (val sa) (by omega:val sb≠0)
   have lrs:=zbd h4.1 hab.out.2.1.1 h5 (by omega)
   go_roundw
   case rel=>
    refine⟨sb,rs,⟨hab.out.2.1.below hb2,h4,hab.out.2.2.2.1,h5,?_⟩,lb,by omega,hbw.trans (hb2.mono hbw.size)⟩
    rw[h6,zgh a0 b0]
    exact hab.out.2.2.2.2
   case measure=>
    rw[h4.valAtb,hab.out.2.1.valAtb,h6]
    omega
def FAt (w:World) (v:Value) (g:Bool) (n d:Int):Prop:=
 ∃a b ns ds,v=.agg #[.bool g,a,b]/\Sl w a ns/\Canon ns/\val ns=n/\Sl w b ds/\Canon ds/\val ds=d/\ns.length<=274877906000/\ds.length<=274877906000
theorem FAt.below {w w':World} {v:Value} {g:Bool} {n d:Int} (h:FAt w v g n d) (hb:Below w.heap.size w w'):FAt w' v g n d:=by
 obtain⟨a,b,ns,ds,h1,h2,h3,h4,h5,h6,h7,h8⟩:=h
 exact⟨a,b,ns,ds,h1,h2.below hb,h3,h4,h5.below hb,h6,h7,h8⟩
end Go.Proofs.YtaonejnicgbifaaGreatDoor
