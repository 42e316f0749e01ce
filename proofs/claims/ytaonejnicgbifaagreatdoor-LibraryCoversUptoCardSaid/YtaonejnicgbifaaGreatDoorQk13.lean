import Derived.Deep.CutBlock
import Derived.Deep.CutRange
import Derived.Outline
import Derived.Test.YtaonejnicgbifaaGreatDoorQk12
namespace Go.Proofs.YtaonejnicgbifaaGreatDoor
open Go Go.RowKit
set_option maxRecDepth 100000
set_option maxHeartbeats 16000000
theorem set_one (out:List Int) (x:Int) (m:Nat):(out++List.replicate (m+1) 0).set out.length x=(out++[x])++List.replicate m 0:=by
 induction out with
 | nil=>simp[List.replicate_succ]
 | cons a l ih=>simpa using ih
theorem zdu {xs:List Int} (dx:Dig xs) (k:Nat) (hk:k<=xs.length):val (xs.drop k)=val xs / 4294967296^k:=by
 have h:val xs=val (xs.take k)+4294967296^k*val (xs.drop k):=by
  conv=>lhs;rw[<-List.take_append_drop k xs]
  rw[za6,List.length_take,Nat.min_eq_left hk]
 have h0:=zaf (zan dx k)
 have h1:=za3 (zan dx k)
 rw[List.length_take,Nat.min_eq_left hk] at h1
 have hp:=zat k
 rw[h,Int.add_mul_ediv_left _ _ (by omega),Int.ediv_eq_zero_of_lt h0 h1,Int.zero_add]
theorem zlb {xs:List Int} (k i:Nat):(xs.drop k).getD i 0=xs.getD (k+i) 0:=by
 simp[List.getD,List.getElem?_drop]
theorem zhk {w:World} {q:Option Addr} {n cap:Nat} (wd r:Nat) (hr:r<=31) (hw:n<=wd) (hwd:wd<=274877906944) (_hn:n<=274877906944):
  Calls Tryz.prog 168 #[.slice q n cap,.int .i64 (32*wd+r)] w fun e w'=>e=.returned (.slice none 0 0)/\w'=w:=by
 have hq:(32*(wd:Int)+r).tdiv 32=wd:=by rw[Int.tdiv_eq_ediv_of_nonneg (by omega)];omega
 have hr2:(32*(wd:Int)+r).tmod 32=r:=by rw[Int.tmod_eq_emod_of_nonneg (by omega)];omega
 have hle:(n:Int)<=(wd:Int):=by omega
 go_enter Tryz.func168,Tryz.ntmps168
 go_wp2
 go_ret
 exact⟨rfl,rfl⟩
theorem zjk {w:World} {b o cap:Nat} {xs:List Int} (wd r:Nat) (hr:r<=31) (hw:wd<xs.length) (_aH:xs.length<=cap) (dx:Dig xs) (lx:xs.length<=274877906944) (hb:b<w.heap.size)
  (hcx:∀i,i<xs.length->w.cell? ⟨b,o+i,none⟩=some (.int .u32 (xs.getD i 0))):
  Calls Tryz.prog 168 #[.slice (some ⟨b,o,none⟩) xs.length cap,.int .i64 (32*wd+r)] w fun e w'=>∃u out,e=.returned u/\Srb (xs.drop wd) r (xs.drop wd).length out/\Sl w' u (trim out)/\Below w.heap.size w w':=by
 obtain⟨i0,hi,hz0,hz1,hz2⟩:=info_parts (show(Tryz.prog.info? 150).map (fun i=>(i.zero,i.size,i.bytes))=some (some (.int .u32 0),1,4) by kernel_rfl)
 have hq:(32*(wd:Int)+r).tdiv 32=wd:=by rw[Int.tdiv_eq_ediv_of_nonneg (by omega)];omega
 have hr2:(32*(wd:Int)+r).tmod 32=r:=by rw[Int.tmod_eq_emod_of_nonneg (by omega)];omega
 have hwl:(wd:Int)<(xs.length:Int):=by omega
 have hnl:¬(xs.length:Int)<=(wd:Int):=by omega
 obtain⟨L,hL⟩:∃L,xs.length=wd+L:=⟨xs.length - wd,by omega⟩
 have hL':Hid (xs.length=wd+L):=hL
 have hsub:(xs.length:Int) - (wd:Int)=(L:Int):=by omega
 have hdl:Hid ((xs.drop wd).length=L):=by
  show(xs.drop wd).length=L
  rw[List.length_drop]
  omega
 have dy':Hid (Dig (xs.drop wd)):=zbi dx wd
 have cx':Hid (∀i,i<L->w.cell? ⟨b,o+(wd+i),none⟩=some (.int .u32 ((xs.drop wd).getD i 0))):=by
  intro i hi
  rw[zlb]
  exact hcx (wd+i) (by omega)
 clear hcx dx hL
 rw[hdl.out]
 generalize xs.drop wd=ys at*
 go_enter Tryz.func168,Tryz.ntmps168
 go_wp2_with (at_make;refine wpList_make_full _ rfl _ _ 25 rfl w.heap.size 150 i0 (.int .u32 0) 1 Tryz.underlying25 hi hz0 hz1 _ _ _ _ L rfl rfl (by omega) (by omega) (by rw[hz2];omega) (by unfold maxLen;omega) (Nat.le_refl _) ?_)
 intro w1 aB aO
 have aP:Blk w1 w.heap.size (List.replicate L 0):=zbq aB
 have bP:Below w.heap.size w w1:=(Below.refl _ _).grown aO (Nat.le_refl _) (fun _ h=>by cases h)
 clear aB aO hi hz0 hz1 hz2
 go_wp2
 go_loopw [26] (fun i wr=>∃(k:Nat) (out:List Int),k<=L/\i=.int .i64 k/\Hid (Srb ys r k out)/\Blk wr w.heap.size (out++List.replicate (L - k) 0)/\Below w.heap.size w wr) (fun i _=>L - (intOf i).toNat)
 case atStart=>exact⟨0,[],Nat.zero_le _,rfl,Srb.zero ys r,by simpa using aP,bP⟩
 case round=>
  clear aP bP
  obtain⟨k,out,hk,rfl,hsh,hbk,hbw⟩:=hrel
  have aj:=hsh.out.len
  by_cases hlt:k<L
  ·have aA:(k:Int)<(L:Int):=by omega
   obtain⟨m,hm⟩:∃m,L - k=m+1:=⟨L - k - 1,by omega⟩
   rw[hm] at hbk
   have hxl:=hL'.out
   have hkw:(wd:Int)+(k:Int)<(xs.length:Int):=by omega
   have cc:wr.cell? ⟨b,o+(wd+k),none⟩=some (.int .u32 (ys.getD k 0)):=(hbw.cell (by exact hb)).trans (cx'.out k hlt)
   have c2:=hbk.cell (j:=k) (by simp;omega)
   have hfr:=hbk.frozen k
   generalize (out++List.replicate (m+1) 0).getD k 0=Z3 at c2
   have hxk:=dy'.out k
   have jE:=dy'.out (k+1)
   have ak:=hsh.out.step dy'.out hr
   have ba:=fun d=>set_one out d m
   rw[aj] at ba
   have cf:Hid (∀d,(out++List.replicate (m+1) 0).set k d=(out++[d])++List.replicate m 0):=ba
   clear ba aj
   have hp:=zaq r
   have hp31:=zff hr
   by_cases iq:k+1<L
   ·have cc1:wr.cell? ⟨b,o+(wd+k+1),none⟩=some (.int .u32 (ys.getD (k+1) 0)):=(hbw.cell (by exact hb)).trans (cx'.out (k+1) iq)
    have jF:(wd:Int)+(k:Int)+1<(xs.length:Int):=by omega
    generalize ys.getD k 0=X at*
    generalize ys.getD (k+1) 0=Y at*
    have hor:=(or_hi jE hxk).2
    unfold srdb at ak
    obtain⟨S,hS⟩:∃S,X+Y*4294967296=S:=⟨_,rfl⟩
    rw[hS] at hor ak
    have hS0:0<=S/\S<=18446744073709551615:=by omega
    have hq0:0<=S / 2^r:=Int.ediv_nonneg hS0.1 (by omega)
    have hq1:S / 2^r<=18446744073709551615:=Int.le_trans (Int.ediv_le_self _ hS0.1) hS0.2
    have aI:Hid (Srb ys r (k+1) (out++[S / 2^r % 4294967296])):=ak
    clear ak hS
    go_wp2
    go_roundw
    case rel=>
     refine⟨k+1,_,by omega,by go_num,aI.out,?_,hbw.setCell (Nat.le_refl _) _⟩
     rw[show L - (k+1)=m by omega,<-cf.out]
     exact hbk.set k _
    case measure=>simp[intOf];omega
   ·have jF:¬(wd:Int)+(k:Int)+1<(xs.length:Int):=by omega
    have hY:ys.getD (k+1) 0=0:=by
     have:=hdl.out
     simp[List.getD,List.getElem?_eq_none (by omega:ys.length<=k+1)]
    rw[hY] at ak
    generalize ys.getD k 0=X at*
    unfold srdb at ak
    rw[Int.zero_mul,Int.add_zero] at ak
    have hq0:0<=X / 2^r:=Int.ediv_nonneg hxk.1 (by omega)
    have hq1:X / 2^r<=4294967295:=Int.le_trans (Int.ediv_le_self _ hxk.1) hxk.2
    have aI:Hid (Srb ys r (k+1) (out++[X / 2^r % 4294967296])):=ak
    clear ak hY
    go_wp2
    go_roundw
    case rel=>
     have hm':X / 2^r % 4294967296=X / 2^r:=by omega
     refine⟨k+1,_,by omega,by go_num,aI.out,?_,hbw.setCell (Nat.le_refl _) _⟩
     rw[show L - (k+1)=m by omega,<-cf.out]
     first | exact hbk.set k _ | (rw[hm'];exact hbk.set k _)
    case measure=>simp[intOf];omega
  ·obtain rfl:k=L:=by omega
   rw[Nat.sub_self,List.replicate_zero,List.append_nil] at hbk
   have hxl:=hL'.out
   have hsl:=zg5 hbk hsh.out.dig (by omega)
   obtain⟨u,aw,hr⟩:=zeg hsl
   rw[aj] at aw
   go_wp2_with (go_at_call 108;refine aw.mono ?_;rintro e w9 ⟨rfl,rfl⟩)
   go_ret
   exact⟨u,out,rfl,hsh.out,hr,hbw⟩
theorem zfj {w:World} {v:Value} {xs:List Int} (hx:Sl w v xs) (lx:xs.length<=274877906944) (t:Nat) (ht:t<=8796093022208):
  Calls Tryz.prog 168 #[v,.int .i64 t] w fun e w'=>∃r zs,e=.returned r/\Sl w' r zs/\Canon zs/\val zs=val xs / 2^t/\zs.length<=xs.length/\Below w.heap.size w w':=by
 obtain⟨dx,_,q,cap,rfl,aH,hxx⟩:=hx
 have ht2:(t:Int)=32*((t / 32:Nat):Int)+((t % 32:Nat):Int):=by omega
 have ep:(2:Int)^t=4294967296^(t / 32)*2^(t % 32):=by
  conv=>lhs;rw[<-Nat.div_add_mod t 32]
  rw[Int.pow_add,Int.pow_mul]
  rfl
 rw[ht2]
 by_cases hw:t / 32<xs.length
 ·rcases hxx with rfl | ⟨b,o,rfl,hb,hc⟩
  ·simp at hw
  ·refine(zjk (t / 32) (t % 32) (by omega) hw aH dx lx hb hc).mono ?_
   rintro e w' ⟨u,out,rfl,hsh,hu,hbw⟩
   refine⟨u,trim out,rfl,hu,zak _,?_,?_,hbw⟩
   ·rw[zbl,hsh.done (zbi dx _) (by omega),zdu dx _ (by omega),ep,Int.ediv_ediv_of_nonneg (by have:=zat (t / 32);omega)]
   ·rw[zai]
    have:=zam out out.length
    have h2:=hsh.len
    rw[List.length_drop] at h2
    omega
 ·refine(zhk (t / 32) (t % 32) (by omega) (by omega) (by omega) lx).mono ?_
  rintro e w' ⟨rfl,rfl⟩
  refine⟨_,[],rfl,Sl.nil _,zbb,?_,by simp,Below.refl _ _⟩
  have h1:=za3 dx
  have h0:=zaf dx
  have h2:=zdr (by omega:xs.length<=t / 32)
  have hp:=zaq (t % 32)
  have h3:(4294967296:Int)^(t / 32)*1<=4294967296^(t / 32)*2^(t % 32):=Int.mul_le_mul_of_nonneg_left (by omega) (by have:=zat (t / 32);omega)
  rw[ep,Int.ediv_eq_zero_of_lt h0 (by omega)]
  rfl
theorem zgm {w:World} {b o cap:Nat} {xs:List Int} (B:Int) (hB0:1<=B) (hB1:B<=4294967295) (dx:Dig xs) (lx:xs.length<=274877906944) (hb:b<w.heap.size)
  (hcx:∀i,i<xs.length->w.cell? ⟨b,o+i,none⟩=some (.int .u32 (xs.getD i 0))):
  Calls Tryz.prog 193 #[.slice (some ⟨b,o,none⟩) xs.length cap,.int .u32 B] w fun e w'=>∃r os rest,e=.returned (.tuple #[r,.int .u32 rest])/\Smb xs B 0 os rest/\Sl w' r (trim os)/\Below w.heap.size w w':=by
 obtain⟨i0,hi,hz0,hz1,hz2⟩:=info_parts (show(Tryz.prog.info? 150).map (fun i=>(i.zero,i.size,i.bytes))=some (some (.int .u32 0),1,4) by kernel_rfl)
 have cx':=zac hcx
 have dx':Hid (Dig xs):=dx
 clear hcx dx
 go_enter Tryz.func193,Tryz.ntmps193
 go_wp2_with (at_make;refine wpList_make_full _ rfl _ _ 25 rfl w.heap.size 150 i0 (.int .u32 0) 1 Tryz.underlying25 hi hz0 hz1 _ _ _ _ xs.length rfl rfl (by omega) (by omega) (by rw[hz2];omega) (by unfold maxLen;omega) (Nat.le_refl _) ?_)
 intro w1 aB aO
 have aP:Blk w1 w.heap.size (List.replicate xs.length 0):=zbq aB
 have bP:Below w.heap.size w w1:=(Below.refl _ _).grown aO (Nat.le_refl _) (fun _ h=>by cases h)
 clear aB aO hi hz0 hz1 hz2
 go_wp2
 go_loopw [7,8] (fun t7 i wr=>∃(k:Nat) (os:List Int) (r:Int),k<=xs.length/\i=.int .i64 ((k:Int) - 1)/\t7=.int .u64 r/\0<=r/\r<B/\Hid (Smb xs B k os r)/\Blk wr w.heap.size os/\Below w.heap.size w wr) (fun _ i _=>(intOf i+1).toNat)
 case atStart=>exact⟨xs.length,_,0,Nat.le_refl _,rfl,rfl,by omega,by omega,Smb.zero xs (by omega),aP,bP⟩
 case round=>
  clear aP bP
  obtain⟨k,os,r,hk,rfl,rfl,r0,r1,hsm,hbk,hbw⟩:=hrel
  match k,hk,hsm with
  | 0,hk,hsm=>
   have aj:=hsm.out.len
   obtain⟨u,aw,hr⟩:=zeg (zg5 hbk hsm.out.dig (by omega))
   rw[aj] at aw
   clear aj
   go_wp2_with (go_at_call 108;refine aw.mono ?_;rintro e w9 ⟨rfl,rfl⟩)
   go_ret2
   exact⟨_,os,r,rfl,hsm.out,hr,hbw⟩
  | k+1,hk,hsm=>
   have e1:((k+1:Nat):Int) - 1=(k:Int):=by omega
   rw[e1]
   have aj:=hsm.out.len
   have c1:wr.cell? ⟨b,o+k,none⟩=some (.int .u32 (xs.getD k 0)):=(hbw.cell (by exact hb)).trans (cx'.out k (by omega))
   have hfr:=hbk.frozen k
   have c2:wr.cell? ⟨w.heap.size,k,none⟩=some (.int .u32 (os.getD k 0)):=hbk.cell (by rw[aj];omega)
   generalize os.getD k 0=OK at c2
   have hxk:=dx'.out k
   have ak:=hsm.out.step (S:=r*4294967296+xs.getD k 0) (by omega) dx'.out rfl
   generalize hX:xs.getD k 0=X at c1 hxk ak
   have hor:=(or_hi ⟨r0,by omega⟩ hxk).1
   have hkl:(k:Int)<(xs.length:Int):=by omega
   obtain⟨S,hS⟩:∃S,r*4294967296+X=S:=⟨_,rfl⟩
   rw[hS] at hor ak
   have hS0:0<=S:=by omega
   have hS1:S<=18446744073709551615:=by omega
   have hd0:=Int.ediv_nonneg hS0 (by omega:0<=B)
   have hd1:S / B<4294967296:=Int.ediv_lt_of_lt_mul (by omega) (by omega)
   have hm0:=Int.emod_nonneg S (by omega:B≠0)
   have hm1:=Int.emod_lt_of_pos S (by omega:0<B)
   have aI:Hid (Smb xs B k (os.set k (S / B)) (S % B)):=ak
   clear ak aj hX e1 hS
   go_wp2
   go_roundw
   case rel=>
    exact⟨k,_,_,by omega,by go_num,rfl,hm0,hm1,aI,hbk.set _ _,hbw.setCell (p:=⟨w.heap.size,k,none⟩) (Nat.le_refl _) _⟩
   case measure=>simp[intOf]
theorem zhl {w:World} {v:Value} {xs:List Int} (hx:Sl w v xs) (hne:xs≠[]) (lx:xs.length<=274877906944) (B:Int) (hB0:1<=B) (hB1:B<=4294967295):
  Calls Tryz.prog 193 #[v,.int .u32 B] w fun e w'=>∃r zs,e=.returned (.tuple #[r,.int .u32 (val xs % B)])/\Sl w' r zs/\Canon zs/\val zs=val xs / B/\Below w.heap.size w w':=by
 obtain⟨dx,_,q,cap,rfl,aH,hxx⟩:=hx
 rcases hxx with h | ⟨b,o,rfl,hb,hc⟩
 ·exact absurd h hne
 ·refine(zgm B hB0 hB1 dx lx hb hc).mono ?_
  rintro e w' ⟨r,os,rest,rfl,hsm,hr,hbw⟩
  have he:=hsm.eq
  have hr0:=hsm.r0
  simp only[List.drop_zero] at he
  have h1:val xs / B=val os:=by
   rw[he,Int.add_comm,Int.add_mul_ediv_left _ _ (by omega),Int.ediv_eq_zero_of_lt hr0.1 hr0.2,Int.zero_add]
  have h2:val xs % B=rest:=by
   rw[he,Int.add_comm,Int.add_mul_emod_self_left,Int.emod_eq_of_lt hr0.1 hr0.2]
  exact⟨r,trim os,by rw[h2],hr,zak _,by rw[zbl,h1],hbw⟩
def SlN (g:Nat) (w:World) (v:Value) (xs:List Int):Prop:=
 Dig xs/\xs.length<=549755813888/\∃q cap,v=.slice q xs.length cap/\xs.length<=cap/\(xs=[]\/∃b o,q=some ⟨b,o,none⟩/\b<w.heap.size/\b≠g/\∀i,i<xs.length->w.cell? ⟨b,o+i,none⟩=some (.int .u32 (xs.getD i 0)))
theorem SlN.sl {g:Nat} {w:World} {v:Value} {xs:List Int} (h:SlN g w v xs):Sl w v xs:=by
 obtain⟨h1,h2,q,cap,h3,h4,h5⟩:=h
 refine⟨h1,h2,q,cap,h3,h4,h5.imp id ?_⟩
 rintro⟨b,o,e,hlt,_,hc⟩
 exact⟨b,o,e,hlt,hc⟩
theorem Sl.ne {w:World} {v:Value} {xs:List Int} (h:Sl w v xs) {w':World} {g:Nat} (hb:Below w.heap.size w w') (hg:w.heap.size<=g):SlN g w' v xs:=by
 obtain⟨h1,h2,q,cap,h3,h4,h5⟩:=h
 refine⟨h1,h2,q,cap,h3,h4,h5.imp id ?_⟩
 rintro⟨b,o,e,hlt,hc⟩
 exact⟨b,o,e,Nat.lt_of_lt_of_le hlt hb.size,by omega,fun i hi=>(hb.cell (by exact hlt)).trans (hc i hi)⟩
theorem SlN.sav {g:Nat} {w w':World} {v:Value} {xs:List Int} (h:SlN g w v xs) (hs:Sav g w w'):SlN g w' v xs:=by
 obtain⟨h1,h2,q,cap,h3,h4,h5⟩:=h
 refine⟨h1,h2,q,cap,h3,h4,h5.imp id ?_⟩
 rintro⟨b,o,e,hlt,hne,hc⟩
 exact⟨b,o,e,Nat.lt_of_lt_of_le hlt hs.size,hne,fun i hi=>(hs.cell hlt hne).trans (hc i hi)⟩
theorem sub64 {U L b:Int} (hU:0<=U/\U<=4294967295) (hL:0<=L/\L<=4294967295) (hb:b=0\/b=1):
  ((U - L) % 18446744073709551616 - b) % 18446744073709551616 % 4294967296=(U - L - b) % 4294967296/\((U - L) % 18446744073709551616 - b) % 18446744073709551616 / 9223372036854775808=(if U - L - b<0 then 1 else 0):=by
 rcases hb with rfl | rfl
 ·refine⟨by omega,?_⟩
  split<;>omega
 ·refine⟨by omega,?_⟩
  split<;>omega
structure DgF (us vs:List Int) (m:Nat) (Q:Int):Prop where
 du:Dig us
 dv:Dig vs
 hu:us.length=m+3
 hv:vs.length=m+2
 ht:0<vs.getD (m+1) 0
 hq:val us<val vs*4294967296
 q:val us / val vs=Q
theorem DgF.facts {us vs:List Int} {m:Nat} {Q:Int} (h:DgF us vs m Q):0<val vs/\0<=Q/\Q<=4294967295/\val us % val vs=val us - Q*val vs/\0<=val us % val vs/\val us % val vs<val vs:=by
 have vp:=zd4 h.dv h.hv h.ht
 have u0:=zaf h.du
 have h1:0<=val us / val vs:=Int.ediv_nonneg u0 (by omega)
 have h2:val us / val vs<4294967296:=Int.ediv_lt_of_lt_mul vp (by have:=h.hq;rwa [Int.mul_comm] at this)
 have h3:=Int.emod_add_mul_ediv (val us) (val vs)
 have h4:=Int.emod_nonneg (val us) (by omega:val vs≠0)
 have h5:=Int.emod_lt_of_pos (val us) vp
 rw[h.q] at h1 h2 h3
 rw[Int.mul_comm] at h3
 exact⟨vp,h1,by omega,by omega,h4,h5⟩
theorem Gs.downF {us vs:List Int} {m:Nat} {G R Q V:Int} (h:Gs us vs m G R) (f:DgF us vs m Q) (hV:vs.getD (m+1) 0=V) (hgt:4294967296<=G\/R*4294967296+us.getD m 0<G*vs.getD m 0):Gs us vs m (G - 1) (R+V)/\1<=G:=by
 have:=h.down f.du f.dv f.hu f.hv f.ht f.hq hgt
 rwa [hV] at this
theorem Gs.goodF {us vs:List Int} {m:Nat} {G R Q:Int} (h:Gs us vs m G R) (f:DgF us vs m Q) (h1:G<4294967296) (h2:G*vs.getD m 0<=R*4294967296+us.getD m 0):Q<=G/\G<=Q+1:=by
 have h3:=h.good f.du f.dv f.hu f.hv f.ht h1 h2
 have h4:=h.ge
 rw[f.q] at h3 h4
 exact⟨h4,h3⟩
theorem Gs.bigF {us vs:List Int} {m:Nat} {G R Q:Int} (h:Gs us vs m G R) (f:DgF us vs m Q) (hR:4294967296<=R):G<4294967296/\Q<=G/\G<=Q+1:=by
 have h1:=h.big f.du f.dv f.hu f.hv f.ht f.hq hR
 exact⟨h1.1,h.goodF f h1.1 h1.2⟩
theorem zjl {w:World} {g j cap m:Nat} {A us C vs:List Int} {v:Value} (hA:A.length=j) (hu:us.length=m+3) (hv:vs.length=m+2) (aP:BlkP w g (A++us++C)) (du:Dig us) (hvs:SlN g w v vs)
  (ht:0<vs.getD (m+1) 0) (hq:val us<val vs*4294967296) (_aH:m+3<=cap) (hm:m+3<=274877906944) (_hj:j<=549755813888):
  Calls Tryz.prog 196 #[.slice (some ⟨g,j,none⟩) (m+3) cap,v] w fun e w'=>∃us',e=.returned (.int .u32 (val us / val vs))/\us'.length=m+3/\Dig us'/\val us'=val us % val vs/\BlkP w' g (A++us'++C)/\Sav g w w':=by
 obtain⟨Q,hQ⟩:∃Q,val us / val vs=Q:=⟨_,rfl⟩
 rw[hQ]
 have hF:Hid (DgF us vs m Q):=⟨du,hvs.1,hu,hv,ht,hq,hQ⟩
 have hgs:Hid (Gs us vs m ((us.getD (m+2) 0*4294967296+us.getD (m+1) 0) / vs.getD (m+1) 0) ((us.getD (m+2) 0*4294967296+us.getD (m+1) 0) % vs.getD (m+1) 0)):=Gs.zero du hvs.1 hu hv ht
 have hU2:=du (m+2)
 have hU1:=du (m+1)
 have hU0:=du m
 have hV1:=hvs.1 (m+1)
 have hV2:=hvs.1 m
 have hgt:=aP.lt
 have cell:∀i,i<m+3->w.cell? ⟨g,j+i,none⟩=some (.int .u32 (us.getD i 0)):=by
  intro i hi
  have:=aP.cell (j:=A.length+i) (by simp;omega)
  rwa [zby (by omega),hA] at this
 obtain⟨_,_,q2,cap2,rfl,hc2,hx⟩:=hvs
 rcases hx with hx | ⟨b,o,rfl,hb,hbg,hcv⟩
 ·simp[hx] at hv
 have cu2:=cell (m+2) (by omega)
 have cu1:=cell (m+1) (by omega)
 have cu0:=cell m (by omega)
 have cv1:=hcv (m+1) (by omega)
 have cv0:=hcv m (by omega)
 have bX:Hid (∀i,i<m+2->w.cell? ⟨b,o+i,none⟩=some (.int .u32 (vs.getD i 0))):=fun i hi=>hcv i (by omega)
 have dU:Hid (BlkP w g (A++us++C)):=aP
 have hA':Hid (A.length=j):=hA
 rw[hv] at hc2 ⊢
 have eV:Hid (vs.getD (m+1) 0=vs.getD (m+1) 0):=rfl
 obtain⟨V,hV⟩:∃V,Hid (vs.getD (m+1) 0=V):=⟨_,rfl⟩
 obtain⟨V2,hVV⟩:∃V2,Hid (vs.getD m 0=V2):=⟨_,rfl⟩
 obtain⟨U2,gp⟩:∃U2,Hid (us.getD (m+2) 0=U2):=⟨_,rfl⟩
 obtain⟨U1,jG⟩:∃U1,Hid (us.getD (m+1) 0=U1):=⟨_,rfl⟩
 obtain⟨U0,gt⟩:∃U0,Hid (us.getD m 0=U0):=⟨_,rfl⟩
 rw[hV.out] at cv1 hV1 hgs ht
 rw[hVV.out] at cv0 hV2
 rw[gp.out] at cu2 hU2 hgs
 rw[jG.out] at cu1 hU1 hgs
 rw[gt.out] at cu0 hU0
 have hor:=(or_hi hU2 hU1).1
 obtain⟨T,hT⟩:∃T,U2*4294967296+U1=T:=⟨_,rfl⟩
 rw[hT] at hor hgs
 have hT0:0<=T:=by omega
 have hT1:T<=18446744073709551615:=by omega
 clear hT du hu hv hcv aP hA cell hq hQ eV
 go_enter Tryz.func196,Tryz.ntmps196
 go_wp2
 go_quiet (fail)
 have cv1':(w.drewN nq).cell? ⟨b,o+(m+1),none⟩=some (.int .u32 V):=cv1
 have cv0':(w.drewN nq).cell? ⟨b,o+m,none⟩=some (.int .u32 V2):=cv0
 have cu0':(w.drewN nq).cell? ⟨g,j+m,none⟩=some (.int .u32 U0):=cu0
 have hB1:Below w.heap.size w (w.drewN nq):=zaj (Below.refl _ _) _
 generalize w.drewN nq=wz at cv1' cv0' cu0' hB1 ⊢
 clear cv1 cv0 cu0 cu1 cu2
 go_wp2
 go_quiet (fail)
 have cv1:(wz.drewN nq).cell? ⟨b,o+(m+1),none⟩=some (.int .u32 V):=cv1'
 have cv0:(wz.drewN nq).cell? ⟨b,o+m,none⟩=some (.int .u32 V2):=cv0'
 have cu0:(wz.drewN nq).cell? ⟨g,j+m,none⟩=some (.int .u32 U0):=cu0'
 have hB2:Below w.heap.size w (wz.drewN nq):=zaj hB1 _
 generalize wz.drewN nq=wy at cv1 cv0 cu0 hB2 ⊢
 clear cv1' cv0' cu0' hB1
 have ir:0<=T / V:=Int.ediv_nonneg hT0 (by omega)
 have jH:T / V<=T:=Int.ediv_le_self _ hT0
 have iu:0<=T % V:=Int.emod_nonneg _ (by omega)
 have jI:T % V<V:=Int.emod_lt_of_pos _ (by omega)
 go_upto_block 0 with fail
 go_cut [7] from 50 to 85 (fun v7 wx=>∃G:Int,v7=.int .u64 G/\0<=G/\G<=4294967295/\Q<=G/\G<=Q+1/\Below w.heap.size w wx)
 case first=>
  go_wp2_with fail
  go_loopw [7,8] (fun t7 t8 wr=>∃G R:Int,t7=.int .u64 G/\t8=.int .u64 R/\Hid (Gs us vs m G R)/\0<=G/\G<=18446744073709551615/\0<=R/\R<=4294967295/\Below wy.heap.size wy wr) (fun t7 _ _=>(intOf t7).toNat)
  case atStart=>exact⟨T / V,T % V,rfl,rfl,hgs,ir,by omega,iu,by omega,Below.refl _ _⟩
  case round=>
   obtain⟨G,R,rfl,rfl,hg,hG0,hG1,hR0,hR1,hbw⟩:=hrel
   have hsz:=hbw.size
   have hbB:b<wy.heap.size:=Nat.lt_of_lt_of_le hb hB2.size
   have hgB:g<wy.heap.size:=Nat.lt_of_lt_of_le hgt hB2.size
   have c1:wr.cell? ⟨b,o+(m+1),none⟩=some (.int .u32 V):=(hbw.cell (by exact hbB)).trans cv1
   have c0:wr.cell? ⟨b,o+m,none⟩=some (.int .u32 V2):=(hbw.cell (by exact hbB)).trans cv0
   have cu:wr.cell? ⟨g,j+m,none⟩=some (.int .u32 U0):=(hbw.cell (by exact hgB)).trans cu0
   have hW:Below w.heap.size w wr:=hB2.trans (hbw.mono hB2.size)
   clear cv1 cv0 cu0
   by_cases iw:4294967296<=G
   ·have hd:=hg.out.downF hF.out hV.out (.inl iw)
    have hd':Hid (Gs us vs m (G - 1) (R+V)):=hd.1
    have hG2:=hd.2
    have jJ:(G / 4294967296 != 0)=true:=by simp;omega
    clear hd
    go_wp2
    go_quiet (fail)
    have c1':(wr.drewN nq).cell? ⟨b,o+(m+1),none⟩=some (.int .u32 V):=c1
    have bC:Below wy.heap.size wy (wr.drewN nq):=zaj hbw _
    have hW':Below w.heap.size w (wr.drewN nq):=zaj hW _
    generalize wr.drewN nq=wx at c1' bC hW' ⊢
    clear c1 c0 cu hbw hW
    by_cases hR:4294967296<=R+V
    ·have hbf:=hd'.out.bigF hF.out hR
     have hdR:1<=(R+V) / 4294967296:=by omega
     go_wp2
     go_meet
     case rel=>exact⟨G - 1,by go_num,by omega,by omega,hbf.2.1,hbf.2.2,hW'⟩
    ·have hdR:(R+V) / 4294967296=0:=by omega
     go_wp2
     go_roundw
     case rel=>exact⟨G - 1,R+V,by go_num,by go_num,hd',by omega,by omega,by omega,by omega,bC⟩
     case measure=>simp[intOf];omega
   ·have jK:=(or_hi ⟨hR0,hR1⟩ hU0).1
    have hml:=zb1 (a:=G) (b:=V2) ⟨hG0,by omega⟩ hV2
    obtain⟨P,hP⟩:∃P,G*V2=P:=⟨_,rfl⟩
    obtain⟨S,hS⟩:∃S,R*4294967296+U0=S:=⟨_,rfl⟩
    have hS0:0<=S/\S<=18446744073709551615:=by omega
    rw[hS] at jK
    rw[hP] at hml
    have jJ:(G / 4294967296 != 0)=false:=by simp;omega
    by_cases gv:S<P
    ·have hd:=hg.out.downF hF.out hV.out (.inr (by rw[hVV.out,gt.out,hP,hS];exact gv))
     have hd':Hid (Gs us vs m (G - 1) (R+V)):=hd.1
     have hG2:=hd.2
     have jL:P > S:=gv
     have hSH:Hid (R*4294967296+U0=S):=hS
     clear hd hS
     go_wp2
     go_quiet (fail)
     have c1':(wr.drewN nq).cell? ⟨b,o+(m+1),none⟩=some (.int .u32 V):=c1
     have bC:Below wy.heap.size wy (wr.drewN nq):=zaj hbw _
     have hW':Below w.heap.size w (wr.drewN nq):=zaj hW _
     generalize wr.drewN nq=wx at c1' bC hW' ⊢
     clear c1 c0 cu hbw hW
     by_cases hR:4294967296<=R+V
     ·have hbf:=hd'.out.bigF hF.out hR
      have hdR:1<=(R+V) / 4294967296:=by omega
      go_wp2
      go_meet
      case rel=>exact⟨G - 1,by go_num,by omega,by omega,hbf.2.1,hbf.2.2,hW'⟩
     ·have hdR:(R+V) / 4294967296=0:=by omega
      go_wp2
      go_roundw
      case rel=>first | exact⟨by omega,by omega,by omega⟩ | exact⟨G - 1,R+V,by go_num,by go_num,hd',by omega,by omega,by omega,by omega,bC⟩
      case measure=>simp[intOf];omega
    ·have hgd:=hg.out.goodF hF.out (by omega) (by rw[hVV.out,gt.out,hP,hS];omega)
     have jL:¬P > S:=gv
     have hSH:Hid (R*4294967296+U0=S):=hS
     clear hS
     go_wp2
     go_quiet (fail)
     have hW':Below w.heap.size w (wr.drewN nq):=zaj hW _
     generalize wr.drewN nq=wx at hW' ⊢
     clear c1 c0 cu hbw hW
     go_wp2
     go_meet
     case rel=>exact⟨G,rfl,hG0,by omega,hgd.1,hgd.2,hW'⟩
 case rest=>
  obtain⟨G,rfl,hG0,hG1,hGQ0,hGQ1,hW⟩:=hcut
  have hS1:Sav g w wc:=Sav.of hW
  have hK1:BlkP wc g (A++us++C):=dU.out.below hW
  clear hW hB2 cv1 cv0 cu0 hgs hor ir jH iu jI hT0 hT1
  go_wp2
  go_loopw [9,10,88] (fun t9 t10 t88 wr=>∃(i:Nat) (cur:List Int) (c bo:Int),i<=m+2/\t88=.int .i64 i/\t9=.int .u64 bo/\t10=.int .u64 c/\Hid (Mb us vs G i cur c bo)/\BlkP wr g (A++cur++C)/\Sav g w wr) (fun _ _ t88 _=>m+2 - (intOf t88).toNat)
  case atStart=>exact⟨0,us,0,0,Nat.zero_le _,rfl,rfl,rfl,Mb.zero hF.out.du,hK1,hS1⟩
  case round=>
   clear hS1 hK1
   obtain⟨i,cur,c,bo,hi,rfl,rfl,rfl,hmb,hbk,hsv⟩:=hrel
   have hc0:=hmb.out.c0
   have hb0:=hmb.out.b0
   have hfr:=hbk.frozen (j+i)
   have hcu:wr.cell? ⟨g,j+i,none⟩=some (.int .u32 (us.getD i 0)):=by
    have h1:=hbk.cell (j:=A.length+i) (by have:=hmb.out.len;have:=hF.out.hu;simp;omega)
    rwa [zby (by have:=hmb.out.len;have:=hF.out.hu;omega),hA'.out,hmb.out.rest i (Nat.le_refl _)] at h1
   by_cases hlt:i<m+2
   ·have aA:(i:Int)<(m:Int)+2:=by omega
    have cy:=bX.out i hlt
    have cy2:wr.cell? ⟨b,o+i,none⟩=some (.int .u32 (vs.getD i 0)):=(hsv.cell hb hbg).trans cy
    have ak:=fun S T hS hT=>hmb.out.step (S:=S) (T:=T) hF.out.du hF.out.dv ⟨hG0,hG1⟩ (by have:=hF.out.hu;omega) hS hT
    have hYb:=hF.out.dv i
    have hUb:=hF.out.du i
    have ba:Hid (∀d,(A++cur++C).set (j+i) d=A++cur.set i d++C):=fun d=>by
     have:=zdt A cur C i d (by have:=hmb.out.len;have:=hF.out.hu;omega)
     rwa [hA'.out] at this
    obtain⟨Y,hY⟩:∃Y,Hid (vs.getD i 0=Y):=⟨_,rfl⟩
    obtain⟨U,hU⟩:∃U,Hid (us.getD i 0=U):=⟨_,rfl⟩
    rw[hY.out] at cy2 hYb ak
    rw[hU.out] at hcu hUb ak
    have hcb:=zen ⟨hG0,hG1⟩ hYb hc0
    have hGY:=zb1 ⟨hG0,hG1⟩ hYb
    obtain⟨GY,jM⟩:∃GY,G*Y=GY:=⟨_,rfl⟩
    rw[jM] at hcb ak hGY
    obtain⟨S,hS⟩:∃S,GY+c=S:=⟨_,rfl⟩
    rw[hS] at hcb ak
    have dl:=sub64 hUb (by omega:0<=S % 4294967296/\S % 4294967296<=4294967295) hb0
    obtain⟨L,hL⟩:∃L,S % 4294967296=L:=⟨_,rfl⟩
    have hLb:0<=L/\L<=4294967295:=by omega
    have cA:=ak S (U - S % 4294967296 - bo) rfl rfl
    rw[hL] at dl cA
    obtain⟨M1,hM1⟩:∃M1,(U - L) % 18446744073709551616=M1:=⟨_,rfl⟩
    rw[hM1] at dl
    obtain⟨M2,hM2⟩:∃M2,(M1 - bo) % 18446744073709551616=M2:=⟨_,rfl⟩
    rw[hM2] at dl
    have jN:IntKind.u64.wrap (U - L)=M1:=by rw[IntKind.wrap_u64];exact hM1
    have jO:IntKind.u64.wrap (M1 - bo)=M2:=by rw[IntKind.wrap_u64];exact hM2
    obtain⟨s1,s2⟩:=dl
    obtain⟨Dd,hDd⟩:∃Dd,(U - L - bo) % 4294967296=Dd:=⟨_,rfl⟩
    obtain⟨Bb,hBb⟩:∃Bb:Int,(if U - L - bo<0 then 1 else 0)=Bb:=⟨_,rfl⟩
    rw[hDd] at s1 cA
    rw[hBb] at s2 cA
    have gw:Hid (Mb us vs G (i+1) (cur.set i Dd) (S / 4294967296) Bb):=cA
    have hSd:0<=S / 4294967296/\S / 4294967296<=4294967295:=by omega
    have jP:0<=M1/\M1<=18446744073709551615:=by omega
    have jQ:0<=M2/\M2<=18446744073709551615:=by omega
    have hDdb:0<=Dd/\Dd<=4294967295:=by omega
    have hx1:=zac hDd
    clear ak cA hDd hBb cy hM1 hM2
    go_wp2
    go_roundw
    case rel=>
     have hbS:=hbk.set (j+i) Dd
     rw[ba.out] at hbS
     exact⟨i+1,_,_,_,by omega,by go_num,rfl,rfl,gw,hbS,hsv.setCell _ _⟩
    case measure=>simp[intOf];omega
   ·obtain rfl:i=m+2:=by omega
    rw[gp.out] at hcu
    have hfc:=hF.out.facts
    obtain⟨vp,q0,q1,hR,hR0,hR1⟩:=hfc
    obtain⟨l1,l2,l3⟩:=hmb.out.last hF.out.du hF.out.hu hF.out.hv (T:=U2 - c - bo) (by rw[gp.out])
    have l4:=za3 l2
    have l5:=zaf l2
    rw[l1] at l4
    have ba:Hid ((A++cur++C).set (j+(m+2)) ((U2 - c - bo) % 4294967296)=A++cur.set (m+2) ((U2 - c - bo) % 4294967296)++C):=by
     have:=zdt A cur C (m+2) ((U2 - c - bo) % 4294967296) (by have:=hmb.out.len;have:=hF.out.hu;omega)
     rwa [hA'.out] at this
    have dl:=sub64 hU2 hc0 hb0
    obtain⟨M1,hM1⟩:∃M1,(U2 - c) % 18446744073709551616=M1:=⟨_,rfl⟩
    rw[hM1] at dl
    obtain⟨M2,hM2⟩:∃M2,(M1 - bo) % 18446744073709551616=M2:=⟨_,rfl⟩
    rw[hM2] at dl
    have jN:IntKind.u64.wrap (U2 - c)=M1:=by rw[IntKind.wrap_u64];exact hM1
    have jO:IntKind.u64.wrap (M1 - bo)=M2:=by rw[IntKind.wrap_u64];exact hM2
    obtain⟨s1,s2⟩:=dl
    have jP:0<=M1/\M1<=18446744073709551615:=by omega
    have jQ:0<=M2/\M2<=18446744073709551615:=by omega
    by_cases cZ:U2 - c - bo<0
    ·rw[if_pos cZ] at s2 l3
     have hGQ:G=Q+1:=by
      rcases (by omega:G=Q+1\/G=Q) with h | h
      ·exact h
      ·exfalso
       rw[h] at l3
       omega
     subst hGQ
     rw[Int.add_mul,Int.one_mul] at l3
     have hRR:Hid (val (cur.set (m+2) ((U2 - c - bo) % 4294967296))+val vs=val us % val vs+4294967296^(m+2+1)):=by
      show _=_
      omega
     have l2':=zac l2
     have ix:Hid (0<=val us % val vs/\val us % val vs<val vs):=⟨hR0,hR1⟩
     obtain⟨Dd,hDd⟩:∃Dd,(U2 - c - bo) % 4294967296=Dd:=⟨_,rfl⟩
     have hDb:0<=Dd/\Dd<=4294967295:=by omega
     rw[hDd] at s1 l1 l2' hRR ba
     have hmb':Hid (cur.length=m+3/\C.length=C.length):=⟨by have:=hmb.out.len;have:=hF.out.hu;omega,rfl⟩
     have hbS:=hbk.set (j+(m+2)) Dd
     rw[ba.out] at hbS
     have hsS:=hsv.setCell (j+(m+2)) (.int .u32 Dd)
     clear l2 l3 l4 l5 hR hR0 hR1 hM1 hM2 hDd hmb vp
     obtain⟨cur1,hc1⟩:∃cur1,Hid (cur.set (m+2) Dd=cur1):=⟨_,rfl⟩
     rw[hc1.out] at l1 l2' hRR hbS
     have hl1:Hid (cur1.length=m+3):=l1
     clear hc1 l1 ba
     go_wp2
     go_loopw [10,141] (fun t10 t141 wr=>∃(i:Nat) (cur2:List Int) (c2:Int),i<=m+2/\t141=.int .i64 i/\t10=.int .u64 c2/\Hid (Ab cur1 vs i cur2 c2)/\BlkP wr g (A++cur2++C)/\Sav g w wr) (fun _ t141 _=>m+2 - (intOf t141).toNat)
     case atStart=>exact⟨0,cur1,0,Nat.zero_le _,rfl,rfl,Ab.zero l2'.out,hbS,hsS⟩
     case round=>
      clear hbS hsS hbk hsv hfr hcu
      obtain⟨i,cur2,c2,hi,rfl,rfl,hab,hbk,hsv⟩:=hrel
      have hc2':=hab.out.c01
      have hfr:=hbk.frozen (j+i)
      have eK:cur2.length=m+3:=by have:=hab.out.len;have:=hl1.out;omega
      have hcu:wr.cell? ⟨g,j+i,none⟩=some (.int .u32 (cur1.getD i 0)):=by
       have h1:=hbk.cell (j:=A.length+i) (by simp;omega)
       rwa [zby (by omega),hA'.out,hab.out.rest i (Nat.le_refl _)] at h1
      have hUb:=l2'.out i
      by_cases cK:i<m+2
      ·have aA:(i:Int)<(m:Int)+2:=by omega
       have cy:=bX.out i cK
       have cy2:wr.cell? ⟨b,o+i,none⟩=some (.int .u32 (vs.getD i 0)):=(hsv.cell hb hbg).trans cy
       have hYb:=hF.out.dv i
       have ak:=hab.out.step l2'.out hF.out.dv (by have:=hl1.out;omega) rfl
       have ba:Hid (∀d,(A++cur2++C).set (j+i) d=A++cur2.set i d++C):=fun d=>by
        have:=zdt A cur2 C i d (by omega)
        rwa [hA'.out] at this
       generalize vs.getD i 0=Y at*
       generalize cur1.getD i 0=U at*
       obtain⟨S,hS⟩:∃S,U+Y+c2=S:=⟨_,rfl⟩
       rw[hS] at ak
       have hSb:0<=S/\S<=8589934591:=by omega
       have aI:Hid (Ab cur1 vs (i+1) (cur2.set i (S % 4294967296)) (S / 4294967296)):=ak
       clear ak cy eK
       go_wp2
       go_roundw
       case rel=>
        have hbS:=hbk.set (j+i) (S % 4294967296)
        rw[ba.out] at hbS
        exact⟨i+1,_,_,by omega,by go_num,rfl,aI,hbS,hsv.setCell _ _⟩
       case measure=>simp[intOf];omega
      ·obtain rfl:i=m+2:=by omega
       obtain⟨e1,e2,e3⟩:=hab.out.last l2'.out hF.out.dv hl1.out hF.out.hv hRR.out ix.out.1 ix.out.2
       have ba:Hid ((A++cur2++C).set (j+(m+2)) ((cur1.getD (m+2) 0+c2) % 4294967296)=A++cur2.set (m+2) ((cur1.getD (m+2) 0+c2) % 4294967296)++C):=by
        have:=zdt A cur2 C (m+2) ((cur1.getD (m+2) 0+c2) % 4294967296) (by omega)
        rwa [hA'.out] at this
       have aZ:Hid ((cur2.set (m+2) ((cur1.getD (m+2) 0+c2) % 4294967296)).length=m+3/\Dig (cur2.set (m+2) ((cur1.getD (m+2) 0+c2) % 4294967296))/\val (cur2.set (m+2) ((cur1.getD (m+2) 0+c2) % 4294967296))=val us % val vs):=⟨e1,e2,e3⟩
       have hbS:=hbk.set (j+(m+2)) ((cur1.getD (m+2) 0+c2) % 4294967296)
       rw[ba.out] at hbS
       clear e1 e2 e3 ba eK
       generalize cur1.getD (m+2) 0=X at*
       obtain⟨E,hE⟩:∃E,(X+c2) % 4294967296=E:=⟨_,rfl⟩
       have hEw:IntKind.u32.wrap (X+c2)=E:=by rw[IntKind.wrap_u32];exact hE
       have hEb:0<=E/\E<=4294967295:=by omega
       rw[hE] at aZ hbS
       clear hE
       go_wp2
       go_ret
       exact⟨cur2.set (m+2) E,by go_num,aZ.out.1,aZ.out.2.1,aZ.out.2.2,hbS,hsv.setCell _ _⟩
    ·rw[if_neg cZ] at s2 l3
     have hGQ:G=Q:=by
      rcases (by omega:G=Q+1\/G=Q) with h | h
      ·exfalso
       rw[h,Int.add_mul,Int.one_mul] at l3
       omega
      ·exact h
     subst hGQ
     have aZ:Hid ((cur.set (m+2) ((U2 - c - bo) % 4294967296)).length=m+3/\Dig (cur.set (m+2) ((U2 - c - bo) % 4294967296))/\val (cur.set (m+2) ((U2 - c - bo) % 4294967296))=val us % val vs):=⟨l1,l2,by rw[l3,hR];omega⟩
     have hbS:=hbk.set (j+(m+2)) ((U2 - c - bo) % 4294967296)
     rw[ba.out] at hbS
     obtain⟨Dd,hDd⟩:∃Dd,(U2 - c - bo) % 4294967296=Dd:=⟨_,rfl⟩
     have hDb:0<=Dd/\Dd<=4294967295:=by omega
     rw[hDd] at s1 aZ hbS
     clear l1 l2 l3 l4 l5 hR hR0 hR1 hM1 hM2 hDd hmb vp ba
     go_wp2
     go_ret
     first
      | exact⟨cur.set (m+2) Dd,by go_num,aZ.out.1,aZ.out.2.1,aZ.out.2.2,hbS,hsv.setCell _ _⟩
      | exact⟨by go_num,cur.set (m+2) Dd,aZ.out.1,aZ.out.2.1,aZ.out.2.2,by rw[<-List.append_assoc];exact hbS,hsv.setCell _ _⟩
end Go.Proofs.YtaonejnicgbifaaGreatDoor
