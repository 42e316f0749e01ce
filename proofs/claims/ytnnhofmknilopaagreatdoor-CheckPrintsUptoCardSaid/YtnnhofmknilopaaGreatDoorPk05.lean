import Derived.Test.YtnnhofmknilopaaGreatDoorPk04
namespace Go.Proofs.YtnnhofmknilopaaGreatDoor
open Go Go.RowKit
set_option maxRecDepth 100000
set_option maxHeartbeats 16000000
def srd (x y:Int) (s:Nat):Int:=(x+y*65536) / 2^s % 65536
theorem srd_eq {x y:Int} {s:Nat} (hx:0<=x/\x<=65535) (_hy:0<=y/\y<=65535) (hs:s<=15):srd x y s*2^s=x - x % 2^s+y % 2^s*65536:=by
 unfold srd
 rcases (by omega:s=0\/s=1\/s=2\/s=3\/s=4\/s=5\/s=6\/s=7\/s=8\/s=9\/s=10\/s=11\/s=12\/s=13\/s=14\/s=15) with rfl | rfl | rfl | rfl | rfl | rfl | rfl | rfl | rfl | rfl | rfl | rfl | rfl | rfl | rfl | rfl<;>omega
structure Sr (xs:List Int) (s k:Nat) (out:List Int):Prop where
 len:out.length=k
 dig:Dig16 out
 eq:val16 out*2^s=val16 (xs.take k) - xs.getD 0 0 % 2^s+xs.getD k 0 % 2^s*65536^k
theorem Sr.zero (xs:List Int) (s:Nat):Sr xs s 0 []:=⟨rfl,fun j=>by simp[List.getD],by simp[val16];exact(Int.add_left_neg _).symm⟩
theorem Sr.step {xs out:List Int} {s k:Nat} (h:Sr xs s k out) (dx:Dig16 xs) (hs:s<=15):Sr xs s (k+1) (out++[srd (xs.getD k 0) (xs.getD (k+1) 0) s]):=by
 have he:=h.eq
 have h1:=srd_eq (dx k) (dx (k+1)) hs
 refine⟨by simp[h.len],zbu h.dig (by unfold srd;omega),?_⟩
 rw[zbv,zas,h.len,Int.pow_succ,Int.add_mul,he,Int.mul_assoc,Int.mul_comm (65536^k) (2^s),<-Int.mul_assoc,h1,Int.add_mul,Int.sub_mul]
 have e:xs.getD (k+1) 0 % 2^s*65536*65536^k=xs.getD (k+1) 0 % 2^s*(65536^k*65536):=by rw[Int.mul_assoc,Int.mul_comm 65536]
 omega
theorem Sr.done {xs out:List Int} {s:Nat} (h:Sr xs s xs.length out) (dx:Dig16 xs) (hs:s<=15):val16 out=val16 xs / 2^s:=by
 have he:=h.eq
 have hz:xs.getD xs.length 0=0:=by simp[List.getD]
 rw[List.take_length,hz,Int.zero_emod,Int.zero_mul,Int.add_zero] at he
 have hp:=zar s
 have h2:val16 xs % 2^s=xs.getD 0 0 % 2^s:=by
  match xs with
  | []=>rfl
  | x::r=>
   show(x+65536*val16 r) % 2^s=x % 2^s
   obtain⟨d,hd⟩:∃d,16=s+d:=⟨16 - s,by omega⟩
   have:(65536:Int)=2^s*2^d:=by rw[<-Int.pow_add,<-hd];decide
   rw[this,Int.mul_assoc,Int.add_mul_emod_self_left]
 rw[<-h2] at he
 have h3:=Int.emod_add_mul_ediv (val16 xs) (2^s)
 have h4:val16 out*2^s=val16 xs / 2^s*2^s:=by rw[he,Int.mul_comm (val16 xs / 2^s)];omega
 exact Int.eq_of_mul_eq_mul_right (by omega) h4
theorem zjx {w:World} {q:Option Addr} {cap:Nat} (s:Nat) (hs:s<=15):
  Calls Tryz.prog 205 #[.slice q 0 cap,.int .i64 s] w fun e w'=>e=.returned (.slice none 0 0)/\w'=w:=by
 have hq:(s:Int).tdiv 16=0:=by rw[Int.tdiv_eq_ediv_of_nonneg (by omega)];omega
 go_enter Tryz.func205,Tryz.ntmps205
 go_wp2
 go_ret
 exact⟨rfl,rfl⟩
theorem zh9 {w:World} {b o cap:Nat} {xs:List Int} (s:Nat) (hs1:s<=15) (hne:0<xs.length) (aD:xs.length<=cap) (dx:Dig16 xs) (lx:xs.length<=274877906944) (hb:b<w.heap.size)
  (hcx:∀i,i<xs.length->w.cell? ⟨b,o+i,none⟩=some (.int .u32 (xs.getD i 0))):
  Calls Tryz.prog 205 #[.slice (some ⟨b,o,none⟩) xs.length cap,.int .i64 s] w fun e w'=>∃r out,e=.returned r/\Sr xs s xs.length out/\OwR w' w.heap.size r (trim out)/\Below w.heap.size w w':=by
 obtain⟨i0,hi,hz0,hz1,hz2⟩:=info_parts (show(Tryz.prog.info? 150).map (fun i=>(i.zero,i.size,i.bytes))=some (some (.int .u32 0),1,4) by kernel_rfl)
 have hq:(s:Int).tdiv 16=0:=by rw[Int.tdiv_eq_ediv_of_nonneg (by omega)];omega
 have hr:(s:Int).tmod 16=s:=by rw[Int.tmod_eq_emod_of_nonneg (by omega)];omega
 have cx':=zab hcx
 have dx':Hid (Dig16 xs):=dx
 have hxn:¬(xs=[]):=fun h=>by simp[h] at hne
 have hsn:¬(s:Int)<0:=by omega
 clear hcx dx
 go_enter Tryz.func205,Tryz.ntmps205
 go_wp2_with (at_make;refine wpList_make_own _ rfl _ _ 90 rfl w.heap.size 150 i0 (.int .u32 0) 1 Tryz.underlying90 hi hz0 hz1 .i64 .i64 _ xs.length rfl rfl rfl (by rw[hz2];omega) (by unfold maxLen;omega) (Nat.le_refl _) ?_;intro w1 cR dR)
 have W1:Below w.heap.size w w1:=(Below.refl _ _).grown dR (Nat.le_refl _) (fun g hg=>by cases hg)
 go_loopw [5,26] (fun t5 i wr=>∃(k:Nat) (out:List Int),k<=xs.length/\i=.int .i64 k/\wr.ownsRow w.heap.size 150 1 t5 k (out.map (Value.int .u32))/\Hid (Sr xs s k out)/\Below w.heap.size w wr) (fun _ i _=>xs.length - (intOf i).toNat)
 case atStart=>exact⟨0,[],Nat.zero_le _,rfl,cR,Sr.zero xs s,W1⟩
 case round=>
  clear cR dR W1
  obtain⟨k,out,hk,rfl,af,hsh,hbw⟩:=hrel
  have hws:=hbw.size
  by_cases hlt:k<xs.length
  ·have aF:(k:Int)<(xs.length:Int):=by omega
   have cc:wr.cell? ⟨b,o+k,none⟩=some (.int .u32 (xs.getD k 0)):=(hbw.cell (by exact hb)).trans (cx'.out k hlt)
   have hxk:=dx'.out k
   have hyk:=dx'.out (k+1)
   have aa:=hsh.out.step dx'.out hs1
   obtain⟨X,hX⟩:∃X,Hid (xs.getD k 0=X):=⟨_,rfl⟩
   obtain⟨Y,hY⟩:∃Y,Hid (xs.getD (k+1) 0=Y):=⟨_,rfl⟩
   rw[hX.out] at cc hxk aa
   rw[hY.out] at hyk aa
   obtain⟨x0,x1⟩:=hxk
   obtain⟨y0,y1⟩:=hyk
   unfold srd at aa
   have hd0:0<=(X+Y*65536) / 2^s:=Int.ediv_nonneg (by omega) (by have:=zar s;omega)
   have hd1:(X+Y*65536) / 2^s<=X+Y*65536:=Int.ediv_le_self _ (by omega)
   by_cases hky:k+1<xs.length
   ·have iK:(k:Int)+1<(xs.length:Int):=by omega
    have c2:wr.cell? ⟨b,o+(k+1),none⟩=some (.int .u32 Y):=by rw[<-hY.out];exact(hbw.cell (by exact hb)).trans (cx'.out (k+1) hky)
    obtain⟨D,hD⟩:∃D,(X+Y*65536) / 2^s=D:=⟨_,rfl⟩
    rw[hD] at aa hd0 hd1
    have aE:Hid (Sr xs s (k+1) (out++[D % 65536])):=aa
    clear aa
    go_wp2_with (at_builtin;refine wpList_append_own _ rfl _ _ 90 rfl w.heap.size 150 i0 (.int .u32 0) 1 4 Tryz.underlying90 hi hz0 hz1 hz2 rfl (by decide) _ _ _ rfl (af.alloc _) ⟨wr.heap.size,0,none⟩ 1 1 [.int .u32 (D % 65536)] rfl rfl (World.news_of_block (heap_alloc_last wr (.cells #[.int .u32 (D % 65536)] 150))) (ints_oneCell .u32 [D % 65536]) (by unfold maxLen;omega) (by omega) (by simp;omega) ?_;intro v' w2 aA ap _)
    go_roundw
    case rel=>
     exact⟨k+1,out++[D % 65536],by omega,by go_num,by rw[List.map_append];exact aA,aE,(hbw.alloc hws _).grown ap (by simp;omega) (fun g hg=>(af.lt g hg).1)⟩
    case measure=>simp[intOf];omega
   ·have iK:¬(k:Int)+1<(xs.length:Int):=by omega
    have hY0:Y=0:=by
     rw[<-hY.out]
     simp[List.getD,List.getElem?_eq_none (by omega:xs.length<=k+1)]
    subst hY0
    rw[Int.zero_mul,Int.add_zero] at hd0 hd1 aa
    obtain⟨D,hD⟩:∃D,X / 2^s=D:=⟨_,rfl⟩
    rw[hD] at aa hd0 hd1
    have aE:Hid (Sr xs s (k+1) (out++[D % 65536])):=aa
    clear aa
    go_wp2_with (at_builtin;refine wpList_append_own _ rfl _ _ 90 rfl w.heap.size 150 i0 (.int .u32 0) 1 4 Tryz.underlying90 hi hz0 hz1 hz2 rfl (by decide) _ _ _ rfl (af.alloc _) ⟨wr.heap.size,0,none⟩ 1 1 [.int .u32 (D % 65536)] rfl rfl (World.news_of_block (heap_alloc_last wr (.cells #[.int .u32 (D % 65536)] 150))) (ints_oneCell .u32 [D % 65536]) (by unfold maxLen;omega) (by omega) (by simp;omega) ?_;intro v' w2 aA ap _)
    go_roundw
    case rel=>
     exact⟨k+1,out++[D % 65536],by omega,by go_num,by rw[List.map_append];exact aA,aE,(hbw.alloc hws _).grown ap (by simp;omega) (fun g hg=>(af.lt g hg).1)⟩
    case measure=>simp[intOf];omega
  ·obtain rfl:k=xs.length:=by omega
   have ae:=hsh.out.len
   have hor:OwR wr w.heap.size u5 out:=by
    unfold OwR
    rw[ae]
    exact af
   obtain⟨r,ai,hr⟩:=zi2 hor hsh.out.dig (by omega)
   go_wp2_with (go_at_call 204;refine ai.mono ?_;rintro e w9 ⟨rfl,rfl⟩)
   go_ret
   exact⟨r,out,rfl,hsh.out,hr,hbw⟩
theorem zlc {w:World} {v:Value} {xs:List Int} (hx:Sl16 w v xs) (lx:xs.length<=274877906944) (s:Nat) (hs:s<=15):
  Calls Tryz.prog 205 #[v,.int .i64 s] w fun e w'=>∃r zs,e=.returned r/\Sl16 w' r zs/\Canon zs/\val16 zs=val16 xs / 2^s/\Below w.heap.size w w':=by
 obtain⟨dx,_,q,cap,rfl,aD,hxx⟩:=hx
 by_cases h0:xs=[]
 ·subst h0
  refine(zjx s hs).mono ?_
  rintro e w' ⟨rfl,rfl⟩
  exact⟨_,[],rfl,⟨dx,by simp,none,0,rfl,Nat.le_refl _,.inl rfl⟩,fun m hm=>by simp at hm,by simp[val16],Below.refl _ _⟩
 ·rcases hxx with h | ⟨b,o,rfl,hb,hc⟩
  ·exact absurd h h0
  ·have bB:0<xs.length:=List.length_pos_iff.2 h0
   refine(zh9 s hs bB aD dx lx hb hc).mono ?_
   rintro e w' ⟨r,out,rfl,hsh,hr,hbw⟩
   have hl:=zag out
   have hl2:=zan out out.length
   have hl3:=hsh.len
   exact⟨r,trim out,rfl,hr.sl (zaw hsh.dig) (by omega),zal _,by rw[zaq];exact hsh.done dx hs,hbw⟩
theorem zcu:∀(xs:List Int) (k:Nat),k<xs.length->val16 (xs.drop k)=xs.getD k 0+65536*val16 (xs.drop (k+1))
 | [],k,h=>by simp at h
 | x::l,0,h=>by simp[val16]
 | x::l,k+1,h=>by
  have:=zcu l k (by simpa using h)
  simpa using this
theorem zcg:∀(l:List Int) (i:Nat) (d:Int),(l.set i d).drop (i+1)=l.drop (i+1)
 | [],_,_=>by simp
 | x::l,0,d=>by simp
 | x::l,i+1,d=>by simpa using zcg l i d
structure Sm (xs:List Int) (B:Int) (k:Nat) (os:List Int) (r:Int):Prop where
 len:os.length=xs.length
 dig:Dig16 os
 r0:0<=r/\r<B
 eq:val16 (xs.drop k)=B*val16 (os.drop k)+r
theorem Sm.zero (xs:List Int) {B:Int} (hB:0<B):Sm xs B xs.length (List.replicate xs.length 0) 0:=by
 refine⟨by simp,fun j=>?_,⟨by decide,hB⟩,?_⟩
 ·have:(List.replicate xs.length (0:Int)).getD j 0=0:=by
   simp only[List.getD_eq_getElem?_getD,List.getElem?_replicate]
   split<;>rfl
  rw[this]
  omega
 ·rw[List.drop_length,List.drop_of_length_le (by simp)]
  simp[val16]
theorem Sm.step {xs os:List Int} {B r S:Int} {k:Nat} (h:Sm xs B (k+1) os r) (hk:k<xs.length) (dx:Dig16 xs) (hS:S=r*65536+xs.getD k 0):Sm xs B k (os.set k (S / B)) (S % B):=by
 have hr:=h.r0
 have hB:0<B:=by omega
 have hx:=dx k
 have hS0:0<=S:=by omega
 have hd0:=Int.ediv_nonneg hS0 (by omega:0<=B)
 have hd1:S / B<65536:=Int.ediv_lt_of_lt_mul hB (by omega)
 refine⟨by simp[h.len],zck h.dig (by omega),⟨Int.emod_nonneg _ (by omega),Int.emod_lt_of_pos _ hB⟩,?_⟩
 have hdm:=Int.emod_add_mul_ediv S B
 have he:=h.eq
 rw[zcu xs k hk,zcu (os.set k (S / B)) k (by simp[h.len,hk]),za3 (by rw[h.len];exact hk),zcg,he,Int.mul_add,Int.mul_add,<-Int.mul_assoc,<-Int.mul_assoc,Int.mul_comm 65536 B]
 omega
theorem zjy {w:World} {b o cap:Nat} {xs:List Int} (B:Int) (hB0:1<=B) (hB1:B<=65535) (dx:Dig16 xs) (lx:xs.length<=274877906944) (hb:b<w.heap.size)
  (hcx:∀i,i<xs.length->w.cell? ⟨b,o+i,none⟩=some (.int .u32 (xs.getD i 0))):
  Calls Tryz.prog 201 #[.slice (some ⟨b,o,none⟩) xs.length cap,.int .u32 B] w fun e w'=>∃r os rest,e=.returned (.tuple #[r,.int .u32 rest])/\Sm xs B 0 os rest/\Sl16 w' r (trim os)/\Below w.heap.size w w'/\∃n c cs fr,r=.slice (some ⟨w.heap.size,0,none⟩) n c/\w'.heap[w.heap.size]?=some (.cells cs 150 fr):=by
 obtain⟨i0,hi,hz0,hz1,hz2⟩:=info_parts (show(Tryz.prog.info? 150).map (fun i=>(i.zero,i.size,i.bytes))=some (some (.int .u32 0),1,4) by kernel_rfl)
 have cx':=zab hcx
 have dx':Hid (Dig16 xs):=dx
 clear hcx dx
 go_enter Tryz.func201,Tryz.ntmps201
 go_wp2_with (at_make;refine wpList_make_full _ rfl _ _ 90 rfl w.heap.size 150 i0 (.int .u32 0) 1 Tryz.underlying90 hi hz0 hz1 _ _ _ _ xs.length rfl rfl (by omega) (by omega) (by rw[hz2];omega) (by unfold maxLen;omega) (Nat.le_refl _) ?_)
 intro w1 az aC
 have aR:Blk w1 w.heap.size (List.replicate xs.length 0):=zb1 az
 have aw:Below w.heap.size w w1:=(Below.refl _ _).grown aC (Nat.le_refl _) (fun _ h=>by cases h)
 clear az aC hi hz0 hz1 hz2
 go_wp2
 go_loopw [7,8] (fun t7 i wr=>∃(k:Nat) (os:List Int) (r:Int),k<=xs.length/\i=.int .i64 ((k:Int) - 1)/\t7=.int .u32 r/\0<=r/\r<B/\Hid (Sm xs B k os r)/\Blk wr w.heap.size os/\Below w.heap.size w wr) (fun _ i _=>(intOf i+1).toNat)
 case atStart=>exact⟨xs.length,_,0,Nat.le_refl _,rfl,rfl,by omega,by omega,Sm.zero xs (by omega),aR,aw⟩
 case round=>
  obtain⟨k,os,r,hk,rfl,rfl,r0,r1,hsm,hbk,hbw⟩:=hrel
  match k,hk,hsm with
  | 0,hk,hsm=>
   have ae:=hsm.out.len
   have cA:=zbj w.heap.size 0 xs.length xs.length os wr (fun i hi=>by simpa using hbk.cell (by rw[ae];exact hi)) (Nat.le_refl _) (by omega)
   have hs:Sl16 wr (.slice (some ⟨w.heap.size,0,none⟩) (trimTo os xs.length) xs.length) (trim os):=by
    have h1:=zag os
    have h2:=zan os xs.length
    rw[ae] at h1
    refine⟨zaw hsm.out.dig,by omega,some ⟨w.heap.size,0,none⟩,xs.length,by rw[h1],by omega,.inr ⟨w.heap.size,0,rfl,?_,fun i hi=>?_⟩⟩
    ·unfold Blk at hbk
     exact(Array.getElem?_eq_some_iff.1 hbk).1
    ·rw[zbe _ _ hi]
     simpa using hbk.cell (j:=i) (by rw[ae];omega)
   have hs':=zab hs
   clear ae hs
   go_wp2_with (go_at_call 204;refine cA.mono ?_;rintro e w9 ⟨rfl,rfl⟩)
   go_ret2
   exact⟨_,os,r,rfl,hsm.out,hs'.out,hbw,_,_,_,_,rfl,hbk⟩
  | k+1,hk,hsm=>
   have e1:((k+1:Nat):Int) - 1=(k:Int):=by omega
   rw[e1]
   have ae:=hsm.out.len
   have c1:wr.cell? ⟨b,o+k,none⟩=some (.int .u32 (xs.getD k 0)):=(hbw.cell (by exact hb)).trans (cx'.out k (by omega))
   have hfr:=hbk.frozen k
   have c2:wr.cell? ⟨w.heap.size,k,none⟩=some (.int .u32 (os.getD k 0)):=hbk.cell (by rw[ae];omega)
   generalize os.getD k 0=OK at c2
   have hxk:=dx'.out k
   have aa:=hsm.out.step (S:=r*65536+xs.getD k 0) (by omega) dx'.out rfl
   generalize hX:xs.getD k 0=X at c1 hxk aa
   obtain⟨x0,x1⟩:=hxk
   have hkl:(k:Int)<(xs.length:Int):=by omega
   have hS0:0<=r*65536+X:=by omega
   have hd0:=Int.ediv_nonneg hS0 (by omega:0<=B)
   have hd1:(r*65536+X) / B<65536:=Int.ediv_lt_of_lt_mul (by omega) (by omega)
   have hm0:=Int.emod_nonneg (r*65536+X) (by omega:B≠0)
   have hm1:=Int.emod_lt_of_pos (r*65536+X) (by omega:0<B)
   have aE:Hid (Sm xs B k (os.set k ((r*65536+X) / B)) ((r*65536+X) % B)):=aa
   clear aa ae hX e1
   go_wp2
   go_roundw
   case rel=>
    exact⟨k,_,_,by omega,by go_num,rfl,hm0,hm1,aE,hbk.set _ _,hbw.setCell (p:=⟨w.heap.size,k,none⟩) (Nat.le_refl _) _⟩
   case measure=>simp[intOf]
theorem zg5 {w:World} {v:Value} {xs:List Int} (hx:Sl16 w v xs) (hne:xs≠[]) (lx:xs.length<=274877906944) (B:Int) (hB0:1<=B) (hB1:B<=65535):
  Calls Tryz.prog 201 #[v,.int .u32 B] w fun e w'=>∃r zs,e=.returned (.tuple #[r,.int .u32 (val16 xs % B)])/\Sl16 w' r zs/\Canon zs/\val16 zs=val16 xs / B/\Below w.heap.size w w'/\∃n c cs fr,r=.slice (some ⟨w.heap.size,0,none⟩) n c/\w'.heap[w.heap.size]?=some (.cells cs 150 fr):=by
 obtain⟨dx,_,q,cap,rfl,aD,hxx⟩:=hx
 rcases hxx with h | ⟨b,o,rfl,hb,hc⟩
 ·exact absurd h hne
 ·refine(zjy B hB0 hB1 dx lx hb hc).mono ?_
  rintro e w' ⟨r,os,rest,rfl,hsm,hr,hbw,am⟩
  have he:=hsm.eq
  have hr0:=hsm.r0
  simp only[List.drop_zero] at he
  have h1:val16 xs / B=val16 os:=by
   rw[he,Int.add_comm,Int.add_mul_ediv_left _ _ (by omega),Int.ediv_eq_zero_of_lt hr0.1 hr0.2,Int.zero_add]
  have h2:val16 xs % B=rest:=by
   rw[he,Int.add_comm,Int.add_mul_emod_self_left,Int.emod_eq_of_lt hr0.1 hr0.2]
  exact⟨r,trim os,by rw[h2],hr,zal _,by rw[zaq,h1],hbw,am⟩
theorem small_ok {w:World} {v:Value} {xs:List Int} (hx:Sl16 w v xs) (hne:xs≠[]) (lx:xs.length<=274877906944) (B:Int) (hB0:1<=B) (hB1:B<=65535):
  Calls Tryz.prog 201 #[v,.int .u32 B] w fun e w'=>∃r zs,e=.returned (.tuple #[r,.int .u32 (val16 xs % B)])/\Sl16 w' r zs/\Canon zs/\val16 zs=val16 xs / B/\Below w.heap.size w w':=
 (zg5 hx hne lx B hB0 hB1).mono fun _ _ ⟨r,zs,a,b,c,d,f,_⟩=>⟨r,zs,a,b,c,d,f⟩
theorem Sl16.form {w:World} {v:Value} {xs:List Int} (h:Sl16 w v xs):∃q cap,v=.slice q xs.length cap:=by
 obtain⟨_,_,q,cap,rfl,_⟩:=h
 exact⟨q,cap,rfl⟩
theorem zef {a b:List Int} (ha:Dig16 a) (hb:Dig16 b):Dig16 (a++b):=fun j=>by
 by_cases h:j<a.length
 ·have:=ha j
  rwa [show (a++b).getD j 0=a.getD j 0 by simp[List.getD,List.getElem?_append_left h]]
 ·have:=hb (j - a.length)
  rwa [show (a++b).getD j 0=b.getD (j - a.length) 0 by simp[List.getD,List.getElem?_append_right (by omega:a.length<=j)]]
theorem zjz {a b:Nat} (h:a<=b):(65536:Int)^a<=65536^b:=by
 obtain⟨d,rfl⟩:∃d,b=a+d:=⟨b - a,by omega⟩
 rw[Int.pow_add]
 have:=Int.mul_le_mul_of_nonneg_left (by have:=za0 d;omega:(1:Int)<=65536^d) (by have:=za0 a;omega:(0:Int)<=65536^a)
 rwa [Int.mul_one] at this
theorem zch {p c v:Int} (hp:0<p) (hc:0<=c) (hv:p*c<=v) (h:v<p):c=0:=by
 rcases (by omega:c=0\/1<=c) with h1 | h1
 ·exact h1
 ·have:=Int.mul_le_mul_of_nonneg_left h1 (by omega:0<=p)
  omega
theorem zci {xs ys:List Int} (dx:Dig16 xs) (dy:Dig16 ys) (cx:Canon xs) (h:val16 xs<=val16 ys):xs.length<=ys.length:=by
 rcases Nat.lt_or_ge ys.length xs.length with h1 | h1
 ·have:=zd8 dy dx cx h1
  omega
 ·exact h1
structure Dv (u0 vs:List Int) (k:Nat) (us q:List Int):Prop where
 len:us.length=u0.length
 dig:Dig16 us
 qlen:q.length+vs.length=u0.length
 qdig:Dig16 q
 qz:∀i,i<k->q.getD i 0=0
 eq:val16 us+val16 vs*val16 q=val16 u0
 top:val16 (us.drop k)<val16 vs
theorem Dv.window {u0 vs us q:List Int} {k:Nat} (h:Dv u0 vs (k+1) us q) (hk:k<q.length) (dv:Dig16 vs):
  val16 us=val16 (us.take k)+65536^k*val16 ((us.drop k).take (vs.length+1))/\val16 (us.drop (k+(vs.length+1)))=0/\val16 ((us.drop k).take (vs.length+1))<val16 vs*65536:=by
 have hq:=h.qlen
 have hl:=h.len
 have h1:=zcu us k (by omega)
 have h2:=(h.dig k)
 have h3:=h.top
 have dp:us.drop k=(us.drop k).take (vs.length+1)++us.drop (k+(vs.length+1)):=by
  rw[<-List.drop_drop]
  exact(List.take_append_drop _ _).symm
 have hw:((us.drop k).take (vs.length+1)).length=vs.length+1:=by rw[List.length_take,List.length_drop];omega
 have h4:val16 (us.drop k)=val16 ((us.drop k).take (vs.length+1))+65536^(vs.length+1)*val16 (us.drop (k+(vs.length+1))):=by
  conv=>lhs;rw[dp]
  rw[za1,hw]
 have c0:=zai (zbl h.dig (k+(vs.length+1)))
 have w0:=zai (zax (zbl h.dig k) (vs.length+1))
 have hv:=zbm dv
 have hz:val16 (us.drop (k+(vs.length+1)))=0:=by
  refine zch (za0 (vs.length+1)) c0 (v:=val16 (us.drop k)) (by omega) ?_
  rw[Int.pow_succ]
  omega
 have h5:val16 us=val16 (us.take k)+65536^k*val16 (us.drop k):=by
  conv=>lhs;rw[<-List.take_append_drop k us]
  rw[za1,List.length_take,Nat.min_eq_left (by omega)]
 rw[hz,Int.mul_zero,Int.add_zero] at h4
 exact⟨by rw[h5,h4],hz,by omega⟩
theorem Dv.step {u0 vs us q W:List Int} {k:Nat} (h:Dv u0 vs (k+1) us q) (hk:k<q.length) (dv:Dig16 vs) (hv:0<val16 vs) (hW:W.length=vs.length+1) (dW:Dig16 W)
  (cK:val16 W=val16 ((us.drop k).take (vs.length+1)) % val16 vs):
  Dv u0 vs k (us.take k++W++us.drop (k+(vs.length+1))) (q.set k (val16 ((us.drop k).take (vs.length+1)) / val16 vs)):=by
 obtain⟨h1,h2,h3⟩:=h.window hk dv
 have hq:=h.qlen
 have hl:=h.len
 have w0:=zai (zax (zbl h.dig k) (vs.length+1))
 generalize hX:val16 ((us.drop k).take (vs.length+1))=X at*
 have hd0:0<=X / val16 vs:=Int.ediv_nonneg w0 (by omega)
 have hd1:X / val16 vs<65536:=Int.ediv_lt_of_lt_mul hv (by rwa [Int.mul_comm] at h3)
 have hdm:=Int.emod_add_mul_ediv X (val16 vs)
 have hml:=Int.emod_lt_of_pos X hv
 have htl:(us.take k).length=k:=by rw[List.length_take,Nat.min_eq_left (by omega)]
 have hqs:=zdh q k (X / val16 vs) hk
 rw[h.qz k (by omega),Int.sub_zero] at hqs
 refine⟨?_,zef (zef (zax h.dig k) dW) (zbl h.dig _),by simpa using hq,zck h.qdig ⟨hd0,by omega⟩,fun i hi=>?_,?_,?_⟩
 ·rw[List.length_append,List.length_append,htl,hW,List.length_drop]
  omega
 ·rw[getD_set_ne (by omega)]
  exact h.qz i (by omega)
 ·have he:=h.eq
  rw[List.append_assoc,za1,za1,h2,Int.mul_zero,Int.add_zero,htl,cK,hqs,<-he,h1,Int.mul_add]
  have e1:65536^k*X=65536^k*(X % val16 vs)+val16 vs*(X / val16 vs*65536^k):=by
   have:val16 vs*(X / val16 vs*65536^k)=65536^k*(val16 vs*(X / val16 vs)):=by
    rw[<-Int.mul_assoc,Int.mul_comm]
   rw[this,<-Int.mul_add,hdm]
  omega
 ·rw[List.append_assoc,List.drop_append_of_le_length (by omega),List.drop_of_length_le (by omega),List.nil_append,za1,h2,Int.mul_zero,Int.add_zero,cK]
  exact hml
theorem Dv.zero {u0 vs:List Int} {Lq:Nat} (hL:Lq+vs.length=u0.length) (du:Dig16 u0) (ht:val16 (u0.drop Lq)<val16 vs):Dv u0 vs Lq u0 (List.replicate Lq 0):=by
 have hg:∀j,(List.replicate Lq (0:Int)).getD j 0=0:=fun j=>by
  simp only[List.getD_eq_getElem?_getD,List.getElem?_replicate]
  split<;>rfl
 refine⟨rfl,du,by simpa using hL,fun j=>by rw[hg];omega,fun i _=>hg i,?_,ht⟩
 have hv:∀n:Nat,val16 (List.replicate n 0)=0:=by
  intro n
  induction n with
  | zero=>rfl
  | succ n ih=>simp[List.replicate_succ,val16,ih]
 rw[hv,Int.mul_zero,Int.add_zero]
theorem Dv.done {u0 vs us q:List Int} (h:Dv u0 vs 0 us q) (hv:0<val16 vs) (dv:Dig16 vs) (hl:vs.length<=us.length):val16 q=val16 u0 / val16 vs/\val16 (us.take vs.length)=val16 u0 % val16 vs:=by
 have ht:=h.top
 have he:=h.eq
 rw[List.drop_zero] at ht
 have h0:=zai h.dig
 have hs:val16 us=val16 (us.take vs.length)+65536^vs.length*val16 (us.drop vs.length):=by
  conv=>lhs;rw[<-List.take_append_drop vs.length us]
  rw[za1,List.length_take,Nat.min_eq_left hl]
 have hz:val16 (us.drop vs.length)=0:=by
  refine zch (za0 vs.length) (zai (zbl h.dig _)) (v:=val16 us) ?_ ?_
  ·have:=zai (zax h.dig vs.length)
   omega
  ·have:=zbm dv
   omega
 rw[hz,Int.mul_zero,Int.add_zero] at hs
 rw[<-he,<-hs]
 refine⟨?_,?_⟩
 ·rw[Int.add_mul_ediv_left _ _ (by omega),Int.ediv_eq_zero_of_lt h0 ht,Int.zero_add]
 ·rw[Int.add_mul_emod_self_left,Int.emod_eq_of_lt h0 ht]
theorem zld {w:World} {v u:Value} {xs ys:List Int} (hx:Sl16 w v xs) (hy:Sl16 w u ys) (cx:Canon xs) (cy:Canon ys) (ny:ys≠[]) (hlt:val16 xs<val16 ys):
  Calls Tryz.prog 116 #[v,u] w fun e w'=>∃r1 r2,e=.returned (.tuple #[r1,r2])/\Sl16 w' r1 []/\Sl16 w' r2 xs/\Below w.heap.size w w':=by
 have bv:=zdu hx hy cx cy
 obtain⟨q,cap,rfl⟩:=hx.form
 obtain⟨q2,cap2,rfl⟩:=hy.form
 have hyl:((ys.length:Int)==0)=false:=by
  have:ys.length≠0:=fun h=>ny (List.eq_nil_of_length_eq_zero h)
  simp;omega
 have lx:=hx.2.1
 have hx':=zab hx
 have aF:Hid (val16 xs<val16 ys):=hlt
 clear hx hy ny hlt
 go_enter Tryz.func116,Tryz.ntmps116
 go_wp2_with (first
  | (go_at_call 200;refine bv.mono ?_;rintro e w1 ⟨c,rfl,hc1,hc2,hb1⟩
     have hcn:c<0:=hc1.2 aF.out
     have hx1:=(hx'.out.below hb1).below (zaa w1 (.cells #[] 150)))
  | (at_builtin;refine za2 rfl _ _ rfl w1.heap.size (.slice (some ⟨w1.heap.size,0,none⟩) 0 0) 0 [] rfl (zdl w1) xs (.slice q xs.length cap) rfl hx1 (by omega) (by simp) ?_;intro v' w2 aA dj))
 go_ret2
 have hb2:Below w1.heap.size w1 w2:=(zaa w1 _).grown dj (by simp) (fun g hg=>by cases hg;exact Nat.le_refl _)
 refine⟨_,v',rfl,⟨fun j=>by simp[List.getD],by simp,none,0,rfl,Nat.le_refl _,.inl rfl⟩,?_,hb1.trans (hb2.mono hb1.size)⟩
 exact zem (base:=w1.heap.size) rfl (by simpa using aA) hx'.out.1 lx
theorem zj0 {w:World} {v u:Value} {xs ys:List Int} (hx:Sl16 w v xs) (hy:Sl16 w u ys) (cx:Canon xs) (cy:Canon ys) (hle:val16 ys<=val16 xs) (h1:ys.length=1) (lx:xs.length<=274877906944):
  Calls Tryz.prog 116 #[v,u] w fun e w'=>∃r1 r2 qs rs,e=.returned (.tuple #[r1,r2])/\Sl16 w' r1 qs/\Canon qs/\val16 qs=val16 xs / val16 ys/\Sl16 w' r2 rs/\Canon rs/\val16 rs=val16 xs % val16 ys/\Below w.heap.size w w':=by
 have bv:=zdu hx hy cx cy
 have hB0:=cy 0 h1
 have hB1:=hy.1 0
 have hvy:val16 ys=ys.getD 0 0:=by
  have:=zc0 (m:=0) h1
  rw[this]
  simp[val16]
 have hne:xs≠[]:=by
  rintro rfl
  simp only[val16] at hle
  omega
 obtain⟨q,cap,rfl⟩:=hx.form
 obtain⟨_,_,q2,cap2,rfl,cB,hyx⟩:=id hy
 rcases hyx with h | ⟨b,o,rfl,hb,hc⟩
 ·simp[h] at h1
 have c0:=hc 0 (by omega)
 rw[hvy] at hle ⊢
 have cC:=bv
 rw[hvy] at cC
 generalize ys.getD 0 0=B at*
 rw[h1] at cC cB ⊢
 have hx':=zab hx
 have ce:Hid (B<=val16 xs):=hle
 have cH:Hid (xs≠[]):=hne
 clear hx hy hle hne hc hvy bv
 go_enter Tryz.func116,Tryz.ntmps116
 go_wp2_with (first
  | (go_at_call 200;refine cC.mono ?_;rintro e w1 ⟨c,rfl,hc1,hc2,hb1⟩
     have hcn:¬c<0:=fun h=>by have:=hc1.1 h;have:=ce.out;omega
     have c1:w1.cell? ⟨b,o,none⟩=some (.int .u32 B):=(hb1.cell (by exact hb)).trans (by simpa using c0)
     have hsm:=small_ok (hx'.out.below hb1) cH.out lx B (by omega) (by omega))
  | (go_at_call 201;refine hsm.mono ?_;rintro e w2 ⟨r1,zs,rfl,hz,hzc,hzv,hb2⟩
     have hm0:=Int.emod_nonneg (val16 xs) (by omega:B≠0)
     have hm1:=Int.emod_lt_of_pos (val16 xs) (by omega:0<B)
     have hof:=zbs w2 (val16 xs % B) hm0 (by omega))
  | (go_at_call 64;refine hof.mono ?_;rintro e w3 ⟨r3,os,rfl,ho,hoc,hov,hol,hb3⟩))
 go_ret2
 exact⟨r1,r3,zs,os,rfl,hz.below hb3,hzc,hzv,ho,hoc,hov,hb1.trans ((hb2.trans (hb3.mono hb2.size)).mono hb1.size)⟩
theorem shl_lt {Y:Int} {s:Nat} (hY:1<=Y) (h:Y*2^s<32768):s<15:=by
 rcases Nat.lt_or_ge s 15 with h1 | h1
 ·exact h1
 ·exfalso
  have h2:2^15<=2^s:=Nat.pow_le_pow_right (by decide) h1
  have h3:(32768:Int)<=2^s:=by
   rw[show ((2:Int)^s)=((2^s:Nat):Int) by simp]
   omega
  have:=Int.mul_le_mul_of_nonneg_right hY (by omega:(0:Int)<=2^s)
  omega
theorem zle {Y:Int} {s:Nat} (h0:0<=Y) (h1:Y<=65535) (hs:s<=15):0<=Y*2^s/\Y*2^s<=2147450880:=by
 have hp1:(2:Int)^s<=32768:=by
  have:2^s<=2^15:=Nat.pow_le_pow_right (by decide) hs
  rw[show ((2:Int)^s)=((2^s:Nat):Int) by simp]
  omega
 have hp:=zar s
 have h2:Y*2^s<=65535*2^s:=Int.mul_le_mul_of_nonneg_right h1 (by omega)
 exact⟨Int.mul_nonneg h0 (by omega),by omega⟩
structure DivF (w2:World) (B gu:Nat) (v:Value) (xs ys vs zs:List Int) (s n Lq:Nat):Prop where
 sv:Sl16N gu w2 v vs
 blk:BlkP w2 gu (zs++[0])
 vl:vs.length=n+1
 zl:zs.length=n+Lq
 dv:Dig16 vs
 dz:Dig16 zs
 cv:Canon vs
 vv:val16 vs=val16 ys*2^s
 vz:val16 zs=val16 xs*2^s
 gu:B<=gu
theorem divLens {xs ys vs zs:List Int} {s:Nat} (hle:val16 ys<=val16 xs) (vy:0<val16 ys) (vv:val16 vs=val16 ys*2^s) (vz:val16 zs=val16 xs*2^s) (dv:Dig16 vs) (dz:Dig16 zs) (cv:Canon vs):
  ∃n Lq,vs.length=n+1/\zs.length=n+Lq/\1<=Lq:=by
 have hp:=zar s
 have h1:val16 vs<=val16 zs:=by
  rw[vv,vz]
  exact Int.mul_le_mul_of_nonneg_right hle (by omega)
 have h2:=zci dv dz cv h1
 have h3:vs≠[]:=by
  rintro rfl
  have:=Int.mul_pos vy hp
  simp only[val16] at vv
  omega
 have h4:=List.length_pos_iff.2 h3
 exact⟨vs.length - 1,zs.length - (vs.length - 1),by omega,by omega,by omega⟩
theorem divApp {w wv wu w2:World} {v' rv:Value} {xs ys vs zs:List Int} {s:Nat} (bO:Below w.heap.size w wv) (hbu:Below wv.heap.size wv wu) {o:Obj} {row:Option Nat}
  (aA:w2.ownsRow wv.heap.size 150 1 v' (zs.length+1) (zs.map (Value.int .u32)++[.int .u32 0])) (ap:(wu.alloc o).grownBy w2 row) (af:∀g,row=some g->wv.heap.size<=g) (sv:Sl16 wv rv vs)
  (hle:val16 ys<=val16 xs) (vy:0<val16 ys) (vv:val16 vs=val16 ys*2^s) (vz:val16 zs=val16 xs*2^s) (dv:Dig16 vs) (dz:Dig16 zs) (cv:Canon vs) (lv:vs.length<=ys.length+1) (lu:zs.length<=xs.length+1):
  ∃gu cp n' Lq,v'=.slice (some ⟨gu,0,none⟩) (zs.length+1) cp/\n'+Lq+1<=cp/\n'+1<=ys.length+1/\n'+Lq<=xs.length+1/\1<=Lq/\Below w.heap.size w w2/\Hid (DivF w2 w.heap.size gu rv xs ys vs zs s n' Lq):=by
 have bL:OwR w2 wv.heap.size v' (zs++[0]):=by
  unfold OwR
  rw[List.map_append,List.length_append]
  exact aA
 obtain⟨gu,cp,rfl,hgu,hcp,hbk⟩:=bL.blk (by simp)
 have gN:Below wv.heap.size wv w2:=(hbu.alloc hbu.size _).grown ap (by have:=hbu.size;simp;omega) af
 have svn:Sl16N gu w2 rv vs:=sv.ne gN hgu
 have aO:Below w.heap.size w w2:=bO.trans (gN.mono bO.size)
 obtain⟨n',Lq,hn',hzl,hL1⟩:=divLens hle vy vv vz dv dz cv
 rw[List.length_append,List.length_singleton] at hcp
 exact⟨gu,cp,n',Lq,by simp,by omega,by omega,by omega,hL1,aO,svn,hbk,hn',hzl,dv,dz,cv,vv,vz,Nat.le_trans bO.size hgu⟩
theorem Sav.setFresh {g:Nat} {w a:World} (h:Sav g w a) {p:Addr} (hp:w.heap.size<=p.block) (u:Value):Sav g w (a.setCell p u):=
 ⟨h.os,h.tape,h.output,by simpa [World.setCell] using h.size,fun k hk hg=>(Below.heap_setCell _ _ _ _ (by omega)).trans (h.block k hk hg)⟩
theorem BlkP.setOther {w:World} {g:Nat} {xs:List Int} (h:BlkP w g xs) {p:Addr} (hp:p.block≠g) (u:Value):BlkP (w.setCell p u) g xs:=by
 obtain⟨cur,h1,h2⟩:=h
 exact⟨cur,(Below.heap_setCell _ _ _ _ (by omega)).trans h1,h2⟩
theorem Blk.sav {w w':World} {gu gq:Nat} {q:List Int} (h:Blk w gq q) (hs:Sav gu w w') (hne:gq≠gu):Blk w' gq q:=by
 unfold Blk at h ⊢
 rw[hs.block gq (Array.getElem?_eq_some_iff.1 h).1 hne]
 exact h
theorem Blk.sl {w:World} {g:Nat} {q:List Int} (h:Blk w g q) (dq:Dig16 q) (hl:q.length<=549755813888):Sl16 w (.slice (some ⟨g,0,none⟩) q.length q.length) q:=by
 refine⟨dq,hl,_,_,rfl,Nat.le_refl _,.inr ⟨g,0,rfl,?_,fun i hi=>by simpa using h.cell hi⟩⟩
 unfold Blk at h
 exact(Array.getElem?_eq_some_iff.1 h).1
theorem zlf {w:World} {g o n cap:Nat} {us:List Int} (hu:Sl16 w (.slice (some ⟨g,o,none⟩) n cap) us) (hl:us.length=n) (hn:0<n):∀z,Below w.heap.size w z->
  Calls Tryz.prog 204 #[.slice (some ⟨g,o,none⟩) n cap] z (fun e w'=>e=.returned (.slice (some ⟨g,o,none⟩) (trimTo us n) cap)/\w'=z)/\Sl16 z (.slice (some ⟨g,o,none⟩) (trimTo us n) cap) (trim us):=by
 subst hl
 intro z hz
 obtain⟨d,l,q,cap',e,hc,hx⟩:=hu.below hz
 cases e
 have htl:(trim us).length=trimTo us us.length:=zag us
 have htt:=zan us us.length
 rcases hx with rfl | ⟨b,o',e,hb,hcs⟩
 ·simp at hn
 ·cases e
  refine⟨zbj g o us.length cap us z hcs hc (by omega),zaw d,by omega,some ⟨g,o,none⟩,cap,by rw[htl],by omega,.inr ⟨g,o,rfl,hb,fun i hi=>?_⟩⟩
  rw[zbe _ _ hi]
  exact hcs i (by omega)
theorem DivF.vpos {w2:World} {B gu:Nat} {v:Value} {xs ys vs zs:List Int} {s n Lq:Nat} (h:DivF w2 B gu v xs ys vs zs s n Lq):0<vs.getD n 0/\65536^n<=val16 vs:=by
 have h1:=h.cv n h.vl
 have h2:=h.dv n
 have h3:=zc0 h.vl
 have h4:=zai (zax h.dv n)
 have h5:=Int.mul_le_mul_of_nonneg_right (by omega:1<=vs.getD n 0) (by have:=za0 n;omega:(0:Int)<=65536^n)
 exact⟨by omega,by omega⟩
theorem divStart {w2:World} {B gu:Nat} {v:Value} {xs ys vs zs:List Int} {s n Lq:Nat} (h:DivF w2 B gu v xs ys vs zs s n Lq):Dv (zs++[0]) vs Lq (zs++[0]) (List.replicate Lq 0):=by
 have hz:=h.zl
 have hv:=h.vl
 refine Dv.zero (by simp;omega) (zbu h.dz (by omega)) ?_
 have h1:=h.vpos.2
 have h2:=zbm (zbl h.dz Lq)
 rw[List.length_drop,hz,Nat.add_sub_cancel] at h2
 rw[List.drop_append_of_le_length (by omega),zbv]
 omega
theorem divRound {w2 wr:World} {B gu:Nat} {v:Value} {xs ys vs zs us q:List Int} {s n Lq k cap:Nat} (h:DivF w2 B gu v xs ys vs zs s n Lq) (hk:k<Lq) (hd:Dv (zs++[0]) vs (k+1) us q) (hb:BlkP wr gu us) (hs:Sav gu w2 wr)
  (aD:n+2<=cap) (hn:n+2<=274877906944) (hL:Lq<=549755813888):
  ∃d:Int,(0<=d/\d<=65535)/\Calls Tryz.prog 203 #[.slice (some ⟨gu,k,none⟩) (n+2) cap,v] wr fun e w'=>e=.returned (.int .u32 d)/\∃us',BlkP w' gu us'/\Dv (zs++[0]) vs k us' (q.set k d)/\Sav gu wr w':=by
 have hz:=h.zl
 have hv:=h.vl
 have hql:=hd.qlen
 have hul:=hd.len
 rw[List.length_append,List.length_singleton] at hql hul
 have bB:=h.vpos
 have hp:=za0 n
 obtain⟨_,_,h3⟩:=hd.window (by omega) h.dv
 have hus:us=us.take k++(us.drop k).take (vs.length+1)++us.drop (k+(vs.length+1)):=by
  rw[List.append_assoc,<-List.drop_drop,List.take_append_drop,List.take_append_drop]
 have hw0:((us.drop k).take (vs.length+1)).length=n+2:=by rw[List.length_take,List.length_drop];omega
 have dW:=zax (zbl hd.dig k) (vs.length+1)
 have w0:=zai dW
 rw[hus] at hb
 have cS:=digit_ok (cap:=cap) (by rw[List.length_take,Nat.min_eq_left (by omega)]:(us.take k).length=k) hw0 hv hb dW (h.sv.sav hs) bB.1 h3 aD hn (by omega)
 have aa:=fun W hW dW cK=>hd.step (W:=W) (by omega) h.dv (by omega) hW dW cK
 refine⟨val16 ((us.drop k).take (vs.length+1)) / val16 vs,⟨Int.ediv_nonneg w0 (by omega),?_⟩,cS.mono ?_⟩
 ·have:=Int.ediv_lt_of_lt_mul (by omega:0<val16 vs) (by rwa [Int.mul_comm] at h3)
  omega
 ·rintro e w' ⟨us',rfl,hl',hd',hv',hb',hs'⟩
  exact⟨rfl,_,hb',aa us' (by omega) hd' hv',hs'⟩
theorem divEnd {w2 wr:World} {B gu gq:Nat} {v:Value} {xs ys vs zs us q:List Int} {s n Lq cap:Nat} (h:DivF w2 B gu v xs ys vs zs s n Lq) (hd:Dv (zs++[0]) vs 0 us q) (hb:BlkP wr gu us) (hq:Blk wr gq q) (iL:s<=15)
  (aD:n+1<=cap) (hn:n+2<=274877906944) (hL:Lq<=549755813888) (hL1:1<=Lq):
  ∃r1 r2,(∀z,Below wr.heap.size wr z->Calls Tryz.prog 204 #[.slice (some ⟨gq,0,none⟩) Lq Lq] z (fun e w'=>e=.returned r1/\w'=z)/\Sl16 z r1 (trim q))/\val16 (trim q)=val16 xs / val16 ys/\
   (∀z,Below wr.heap.size wr z->Calls Tryz.prog 204 #[.slice (some ⟨gu,0,none⟩) (n+1) cap] z (fun e w'=>e=.returned r2/\w'=z))/\
   (∀z,Below wr.heap.size wr z->Calls Tryz.prog 205 #[r2,.int .i64 s] z fun e w'=>∃r3 rs,e=.returned r3/\Sl16 w' r3 rs/\Canon rs/\val16 rs=val16 xs % val16 ys/\Below z.heap.size z w'):=by
 have hz:=h.zl
 have hv:=h.vl
 have hql:=hd.qlen
 have hul:=hd.len
 rw[List.length_append,List.length_singleton] at hql hul
 have bB:=h.vpos
 have hp:=za0 n
 have h2:=zar s
 obtain⟨e1,e2⟩:=hd.done (by omega) h.dv (by omega)
 rw[zbv,Int.zero_mul,Int.add_zero,h.vv,h.vz] at e1 e2
 rw[Int.mul_ediv_mul_of_pos_left _ _ h2] at e1
 rw[Int.mul_comm (val16 xs),Int.mul_comm (val16 ys),Int.mul_emod_mul_of_pos _ _ h2] at e2
 have lq:q.length=Lq:=by omega
 have hsq:=hq.sl hd.qdig (by omega)
 rw[lq] at hsq
 have hdt:=zax hd.dig (n+1)
 rw[hv] at e2
 have htl:(us.take (n+1)).length=n+1:=by rw[List.length_take,Nat.min_eq_left (by omega)]
 have hbs:BlkP wr gu ([]++us.take (n+1)++us.drop (n+1)):=by rw[List.nil_append,List.take_append_drop];exact hb
 have hsu:=hbs.sl (cap:=cap) hdt (by omega) (by omega)
 rw[htl] at hsu
 obtain hr1:=zlf hsq lq (by omega)
 obtain hr2:=zlf hsu htl (by omega)
 refine⟨_,_,hr1,by rw[zaq,e1],fun z hz=>(hr2 z hz).1,fun z hz=>?_⟩
 refine(zlc (hr2 z hz).2 (by have:=zan (us.take (n+1)) (us.take (n+1)).length;rw[zag];omega) s iL).mono ?_
 rintro e w' ⟨r3,rs,rfl,h5,h6,h7,h8⟩
 refine⟨r3,rs,rfl,h5,h6,?_,h8⟩
 rw[h7,zaq,e2,Int.mul_ediv_cancel_left _ (by omega)]
end Go.Proofs.YtnnhofmknilopaaGreatDoor
