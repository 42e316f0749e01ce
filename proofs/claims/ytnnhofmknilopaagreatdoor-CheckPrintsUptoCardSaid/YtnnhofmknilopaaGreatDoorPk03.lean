import Derived.Test.YtnnhofmknilopaaGreatDoorPk02
namespace Go.Proofs.YtnnhofmknilopaaGreatDoor
open Go Go.RowKit
set_option maxRecDepth 100000
set_option maxHeartbeats 16000000
structure No (x X:Int) (out:List Int):Prop where
 dig:Dig16 out
 eq:val16 out+X*65536^out.length=x
 can:X=0->Canon out
theorem No.zero (x:Int):No x x []:=⟨fun j=>by simp[List.getD],by simp[val16],fun _ m hm=>by simp at hm⟩
theorem No.step {x X:Int} {out:List Int} (h:No x X out) (h0:0<X):No x (X / 65536) (out++[X % 65536]):=by
 refine⟨zbu h.dig (by omega),?_,fun hz m hm=>?_⟩
 ·have he:=h.eq
  rw[zbv,List.length_append,List.length_singleton,Int.pow_succ]
  generalize (65536:Int)^out.length=p at*
  have e:X*p=X % 65536*p+X / 65536*(p*65536):=by
   have h1:X=X % 65536+65536*(X / 65536):=by omega
   calc X*p=(X % 65536+65536*(X / 65536))*p:=by rw[<-h1]
    _=_:=by rw[Int.add_mul,Int.mul_comm 65536,Int.mul_assoc,Int.mul_comm 65536 p]
  omega
 ·simp at hm
  subst hm
  simp[List.getD]
  omega
theorem No.len {x X:Int} {out:List Int} (h:No x X out) (h0:0<X) (hx:x<=18446744073709551615):out.length<4:=by
 rcases Nat.lt_or_ge out.length 4 with hl | hl
 ·exact hl
 ·have h1:=h.eq
  have h2:=zai h.dig
  obtain⟨m,hm⟩:=Nat.exists_eq_add_of_le hl
  rw[hm,Int.pow_add] at h1
  have h5:(65536:Int)^4=18446744073709551616:=by decide
  rw[h5] at h1
  have h3:(0:Int)<65536^m:=Int.pow_pos (by decide)
  generalize (65536:Int)^m=p at*
  have h4:=Int.mul_le_mul_of_nonneg_right (by omega:(1:Int)<=X) (by omega:(0:Int)<=18446744073709551616*p)
  rw[Int.one_mul] at h4
  omega
theorem zbs (w:World) (x:Int) (hx0:0<=x) (hx1:x<=18446744073709551615):Calls Tryz.prog 64 #[.int .u64 x] w fun e w'=>∃r zs,e=.returned r/\Sl16 w' r zs/\Canon zs/\val16 zs=x/\zs.length<=4/\Below w.heap.size w w':=by
 obtain⟨i0,hi,hz0,hz1,hz2⟩:=info_parts (show(Tryz.prog.info? 150).map (fun i=>(i.zero,i.size,i.bytes))=some (some (.int .u32 0),1,4) by kernel_rfl)
 go_enter Tryz.func64,Tryz.ntmps64
 go_wp2_with fail
 go_loopw [0,3] (fun t0 t3 wr=>∃(X:Int) (out:List Int) (k:Nat),t0=.int .u64 X/\0<=X/\X<=18446744073709551615/\k=out.length/\k<=4/\wr.ownsRow w.heap.size 150 1 t3 k (out.map (Value.int .u32))/\Hid (No x X out)/\Below w.heap.size w wr) (fun i _ _=>(intOf i).toNat)
 case atStart=>exact⟨x,[],0,rfl,hx0,hx1,rfl,by omega,World.ownsRow_nil _ _ _ _,No.zero x,Below.refl _ _⟩
 case round=>
  obtain⟨X,out,k,rfl,X0,X1,hk,hk4,af,hno,hbw⟩:=hrel
  have hws:=hbw.size
  by_cases hp:0<X
  ·have hk3:k<4:=by rw[hk];exact hno.out.len hp hx1
   have hk':Hid (k=out.length):=hk
   clear hk
   go_wp2_with (at_builtin;refine wpList_append_own _ rfl _ _ 90 rfl w.heap.size 150 i0 (.int .u32 0) 1 4 Tryz.underlying90 hi hz0 hz1 hz2 rfl (by decide) _ _ _ rfl (af.alloc _) ⟨wr.heap.size,0,none⟩ 1 1 [.int .u32 (X % 65536)] rfl rfl (World.news_of_block (heap_alloc_last wr (.cells #[.int .u32 (X % 65536)] 150))) (ints_oneCell .u32 [X % 65536]) (by unfold maxLen;omega) (by omega) (by simp;omega) ?_;intro v' w2 aA ap _)
   go_roundw
   case rel=>
    refine⟨X / 65536,out++[X % 65536],k+1,rfl,by omega,by omega,by rw[hk'.out];simp,by omega,by rw[List.map_append];exact aA,?_,(hbw.alloc hws _).grown ap (by simp;omega) (fun g hg=>(af.lt g hg).1)⟩
    exact hno.out.step hp
   case measure=>simp[intOf];omega
  ·obtain rfl:X=0:=by omega
   have hr:=zem hk.symm af hno.out.dig (by omega)
   have he:=hno.out.eq
   have hc:=hno.out.can rfl
   go_wp2_with fail
   go_ret
   exact⟨_,rfl,out,hr,hc,by omega,by omega,hbw⟩
theorem zhm {xs ys:List Int} {k:Nat} (hl:xs.length=ys.length) (dx:Dig16 xs) (dy:Dig16 ys) (hk:k<xs.length) (h:xs.getD k 0<ys.getD k 0) (hag:∀j,k+1<=j->j<xs.length->xs.getD j 0=ys.getD j 0):val16 xs<val16 ys:=by
 have key:∀m,k+1+m<=xs.length->val16 (xs.take (k+1+m))<val16 (ys.take (k+1+m)):=by
  intro m
  induction m with
  | zero=>
   intro _
   have dt:∀l:List Int,Dig16 l->Dig16 (l.take k):=fun l hd j=>by
    have:=hd j
    simp only[List.getD,List.getElem?_take]
    split
    ·exact this
    ·simp
   have h1:=zbm (dt xs dx)
   have h2:=zai (dt ys dy)
   rw[Nat.add_zero,zas,zas]
   rw[List.length_take,Nat.min_eq_left (by omega)] at h1
   generalize (65536:Int)^k=p at*
   have h3:(xs.getD k 0+1)*p<=ys.getD k 0*p:=Int.mul_le_mul_of_nonneg_right (by omega) (by have:=zai (dt xs dx);omega)
   rw[Int.add_mul,Int.one_mul] at h3
   omega
  | succ m ih=>
   intro hm
   have h1:=ih (by omega)
   rw[<-Nat.add_assoc,zas,zas,hag (k+1+m) (by omega) (by omega)]
   omega
 have:=key (xs.length - (k+1)) (by omega)
 rwa [show k+1+(xs.length - (k+1))=xs.length by omega,List.take_length,hl,List.take_length] at this
theorem zkf (b o cap b2 o2 cap2:Nat) (xs ys:List Int) (w:World) (hl:xs.length=ys.length) (dx:Dig16 xs) (dy:Dig16 ys) (hn:xs.length<=1099511627776)
  (hcx:∀i,i<xs.length->w.cell? ⟨b,o+i,none⟩=some (.int .u32 (xs.getD i 0))) (hcy:∀i,i<ys.length->w.cell? ⟨b2,o2+i,none⟩=some (.int .u32 (ys.getD i 0))) (hb1:b<w.heap.size) (hb2:b2<w.heap.size):
  Calls Tryz.prog 200 #[.slice (some ⟨b,o,none⟩) xs.length cap,.slice (some ⟨b2,o2,none⟩) xs.length cap2] w fun e w'=>∃c:Int,e=.returned (.int .i64 c)/\(c<0↔val16 xs<val16 ys)/\(c=0↔xs=ys)/\Below w.heap.size w w':=by
 have dx':Hid (Dig16 xs):=dx
 have dy':Hid (Dig16 ys):=dy
 clear dx dy
 go_enter Tryz.func200,Tryz.ntmps200
 go_wp2
 go_loopw [5] (fun i wr=>∃k:Nat,k<=xs.length/\i=.int .i64 ((k:Int) - 1)/\(∀j,k<=j->j<xs.length->xs.getD j 0=ys.getD j 0)/\Below w.heap.size w wr) (fun i _=>(intOf i+1).toNat)
 case atStart=>exact⟨xs.length,Nat.le_refl _,by simp[hl],fun j h1 h2=>by omega,Below.refl _ _⟩
 case round=>
  obtain⟨k,hk,rfl,hag,hbw⟩:=hrel
  have aL:=zab hag
  clear hag
  match k,hk,aL with
  | 0,hk,aL=>
   go_wp2
   go_ret
   have e:=zew hl (fun j hj=>aL.out j (Nat.zero_le _) hj)
   exact⟨0,rfl,by simp[e],by simp[e],hbw⟩
  | k+1,hk,aL=>
   have e1:((k+1:Nat):Int) - 1=(k:Int):=by omega
   rw[e1]
   have c1:wr.cell? ⟨b,o+k,none⟩=some (.int .u32 (xs.getD k 0)):=(hbw.cell (by exact hb1)).trans (hcx k (by omega))
   have c2:wr.cell? ⟨b2,o2+k,none⟩=some (.int .u32 (ys.getD k 0)):=(hbw.cell (by exact hb2)).trans (hcy k (by omega))
   generalize hX:xs.getD k 0=X at c1
   generalize hY:ys.getD k 0=Y at c2
   have hkl:(k:Int)<(xs.length:Int):=by omega
   go_wp2
   go_quiet (fail)
   have hB:Below w.heap.size w (wr.drewN nq):=zam hbw _
   have c1':(wr.drewN nq).cell? ⟨b,o+k,none⟩=some (.int .u32 X):=c1
   have c2':(wr.drewN nq).cell? ⟨b2,o2+k,none⟩=some (.int .u32 Y):=c2
   generalize wr.drewN nq=wz at hB c1' c2' ⊢
   clear c1 c2
   go_wp2
   ·go_ret
    have hlt:X<Y:=by assumption
    have e:=zdd (xs:=xs) (ys:=ys) (j:=k) (by omega)
    exact⟨-1,rfl,⟨fun _=>zhm hl dx'.out dy'.out (by omega) (by rw[hX,hY];exact hlt) aL.out,fun _=>by decide⟩,by simp[e],hB⟩
   ·go_quiet (fail)
    have hB2:Below w.heap.size w (wz.drewN nq):=zam hB _
    go_wp2
    ·go_ret
     have hlt:X > Y:=by assumption
     have e:=zdd (xs:=xs) (ys:=ys) (j:=k) (by omega)
     have hv:=zhm hl.symm dy'.out dx'.out (k:=k) (by omega) (by rw[hX,hY];exact hlt) (fun j h1 h2=>(aL.out j h1 (by omega)).symm)
     exact⟨1,rfl,⟨fun h=>absurd h (by decide),fun h=>by omega⟩,by simp[e],hB2⟩
    ·go_roundw
     case rel=>
      refine⟨k,by omega,by go_num,fun j h1 h2=>?_,hB2⟩
      rcases Nat.lt_or_ge k j with h | h
      ·exact aL.out j h h2
      ·have:j=k:=by omega
       subst this;omega
     case measure=>simp[intOf]
theorem zd8 {xs ys:List Int} (dx:Dig16 xs) (dy:Dig16 ys) (cy:Canon ys) (hl:xs.length<ys.length):val16 xs<val16 ys:=by
 obtain⟨m,hm⟩:∃m,ys.length=m+1:=⟨ys.length - 1,by omega⟩
 have h0:=cy m hm
 have h1:=dy m
 have hv:=zas ys m
 rw[<-hm,List.take_length] at hv
 have dt:Dig16 (ys.take m):=fun j=>by
  have:=dy j
  simp only[List.getD,List.getElem?_take]
  split
  ·exact this
  ·simp
 have h2:=zai dt
 have h3:=zbm dx
 obtain⟨d,hd⟩:∃d,m=xs.length+d:=⟨m - xs.length,by omega⟩
 have h4:(65536:Int)^xs.length<=65536^m:=by
  rw[hd,Int.pow_add]
  have a1:(0:Int)<65536^d:=Int.pow_pos (by decide)
  have a2:(0:Int)<65536^xs.length:=Int.pow_pos (by decide)
  have:=Int.mul_le_mul_of_nonneg_left (by omega:(1:Int)<=65536^d) (by omega:(0:Int)<=65536^xs.length)
  rwa [Int.mul_one] at this
 have h5:(1:Int)*65536^m<=ys.getD m 0*65536^m:=Int.mul_le_mul_of_nonneg_right (by omega) (by have:(0:Int)<65536^m:=Int.pow_pos (by decide);omega)
 rw[Int.one_mul] at h5
 omega
theorem zhn (q q':Option Addr) (m n cap cap':Nat) (w:World) (h:m<n):Calls Tryz.prog 200 #[.slice q m cap,.slice q' n cap'] w fun e w'=>e=.returned (.int .i64 (-1))/\w'=w:=by
 have h':¬(m:Int)=(n:Int):=by omega
 have h2:(m:Int)<(n:Int):=by omega
 clear h
 go_enter Tryz.func200,Tryz.ntmps200
 go_wp2
 go_ret
 exact⟨rfl,rfl⟩
theorem zio (q q':Option Addr) (m n cap cap':Nat) (w:World) (h:n<m):Calls Tryz.prog 200 #[.slice q m cap,.slice q' n cap'] w fun e w'=>e=.returned (.int .i64 1)/\w'=w:=by
 have h':¬(m:Int)=(n:Int):=by omega
 have h2:¬(m:Int)<(n:Int):=by omega
 clear h
 go_enter Tryz.func200,Tryz.ntmps200
 go_wp2
 go_ret
 exact⟨rfl,rfl⟩
theorem zdu {w:World} {v u:Value} {xs ys:List Int} (hx:Sl16 w v xs) (hy:Sl16 w u ys) (cx:Canon xs) (cy:Canon ys):
  Calls Tryz.prog 200 #[v,u] w fun e w'=>∃c:Int,e=.returned (.int .i64 c)/\(c<0↔val16 xs<val16 ys)/\(c=0↔xs=ys)/\Below w.heap.size w w':=by
 obtain⟨x1,x2,q,cap,rfl,x4,x5⟩:=hx
 obtain⟨y1,y2,q',cap',rfl,y4,y5⟩:=hy
 rcases Nat.lt_trichotomy xs.length ys.length with hl | hl | hl
 ·refine(zhn q q' xs.length ys.length cap cap' w hl).mono ?_
  rintro e w' ⟨rfl,rfl⟩
  exact⟨-1,rfl,⟨fun _=>zd8 x1 y1 cy hl,fun _=>by decide⟩,⟨fun h=>absurd h (by decide),fun h=>by rw[h] at hl;omega⟩,Below.refl _ _⟩
 ·by_cases hx0:xs=[]
  ·subst hx0
   have hy0:ys=[]:=List.eq_nil_of_length_eq_zero hl.symm
   subst hy0
   refine(zh0 q q' cap cap' w).mono ?_
   rintro e w' ⟨rfl,rfl⟩
   exact⟨0,rfl,by simp,by simp,Below.refl _ _⟩
  ·have hy0:ys≠[]:=fun h=>hx0 (List.eq_nil_of_length_eq_zero (by rw[hl,h];rfl))
   rcases x5 with h | ⟨b,o,rfl,hlt,hc⟩
   ·exact absurd h hx0
   rcases y5 with h | ⟨b',o',rfl,aF,hc'⟩
   ·exact absurd h hy0
   rw[<-hl]
   exact zkf b o cap b' o' cap' xs ys w hl x1 y1 (by omega) hc hc' hlt aF
 ·refine(zio q q' xs.length ys.length cap cap' w hl).mono ?_
  rintro e w' ⟨rfl,rfl⟩
  have:=zd8 y1 x1 cx hl
  exact⟨1,rfl,⟨fun h=>absurd h (by decide),fun h=>by omega⟩,⟨fun h=>absurd h (by decide),fun h=>by rw[h] at hl;omega⟩,Below.refl _ _⟩
theorem trim_sl {w:World} {u:Value} {us:List Int} (hu:Sl16 w u us):∃r,Calls Tryz.prog 204 #[u] w (fun e w'=>e=.returned r/\w'=w)/\Sl16 w r (trim us):=by
 obtain⟨d,l,q,cap,rfl,hc,hx⟩:=hu
 have htl:(trim us).length=trimTo us us.length:=zag us
 have htt:=zan us us.length
 rcases hx with rfl | ⟨b,o,rfl,hb,hcs⟩
 ·exact⟨_,zc3 q cap w,zaw d,by rw[htl];simp[trimTo],q,cap,rfl,Nat.zero_le _,.inl rfl⟩
 ·refine⟨_,zbj b o us.length cap us w hcs hc (by omega),zaw d,by omega,some ⟨b,o,none⟩,cap,by rw[htl],by omega,.inr ⟨b,o,rfl,hb,fun i hi=>?_⟩⟩
  rw[zbe _ _ hi]
  exact hcs i (by omega)
theorem zd9 (q q':Option Addr) (m cap cap':Nat) (w:World):Calls Tryz.prog 398 #[.slice q m cap,.slice q' 0 cap'] w fun e w'=>e=.returned (.slice none 0 0)/\w'=w:=by
 by_cases h:m=0
 ·subst h
  go_enter Tryz.func398,Tryz.ntmps398
  go_wp2
  go_ret
  exact⟨rfl,rfl⟩
 ·have h':¬(m:Int)=0:=by omega
  have hb:((m:Int)==0)=false:=by simp;omega
  clear h
  go_enter Tryz.func398,Tryz.ntmps398
  go_wp2
  go_ret
  exact⟨rfl,rfl⟩
theorem zkg {w:World} {v u:Value} {xs ys:List Int} (hx:Sl16 w v xs) (hy:Sl16 w u ys) (nx:xs≠[]) (hn:xs.length+ys.length<=549755813888):
  Calls Tryz.prog 398 #[v,u] w fun e w'=>∃r zs,e=.returned r/\Sl16 w' r zs/\Canon zs/\val16 zs=val16 xs*val16 ys/\Below w.heap.size w w':=by
 by_cases ny:ys=[]
 ·subst ny
  obtain⟨x1,x2,q,cap,rfl,x4,x5⟩:=hx
  obtain⟨y1,y2,q',cap',rfl,y4,y5⟩:=hy
  refine(zd9 q q' xs.length cap cap' w).mono ?_
  rintro e w' ⟨rfl,rfl⟩
  exact⟨_,[],rfl,⟨y1,by simp,none,0,rfl,Nat.le_refl _,.inl rfl⟩,fun m hm=>by simp at hm,by simp[val16],Below.refl _ _⟩
 ·exact zkv hx hy nx ny hn
theorem zmp {w:World} {u v:Value} {us vs:List Int} {g:Int} (hu:Sl16 w u us) (hv:Sl16 w v vs) (nv:vs≠[]) (hg0:0<=g) (hg1:g<=18446744073709551615) (hn:vs.length+4<=549755813888):
  Calls Tryz.prog 314 #[u,v,.int .u64 g] w (Rt w (.bool (decide (val16 us<val16 vs*g)))):=by
 have hof:=zbs w g hg0 hg1
 go_enter Tryz.func314,Tryz.ntmps314
 go_wp2_with (first
  | (go_at_call 64;refine hof.mono ?_;rintro e w1 ⟨r1,zs,rfl,hz,hzc,hzv,hzl,hb1⟩
     have fS:=zkg (hv.below hb1) hz nv (by omega))
  | (go_at_call 398;refine fS.mono ?_;rintro e w2 ⟨r2,ms,rfl,hm,hmc,hmv,hb2⟩
     obtain⟨r3,ht,hts⟩:=trim_sl ((hu.below hb1).below hb2))
  | (go_at_call 204;refine ht.mono ?_;rintro e w3 ⟨rfl,rfl⟩
     have bv:=zdu hts hm (zal us) hmc)
  | (go_at_call 200;refine bv.mono ?_;rintro e w4 ⟨cc,rfl,hc1,hc2,hb4⟩))
 go_ret
 rw[zaq,hmv,hzv] at hc1
 refine⟨?_,?_⟩
 ·simp[zaq]
 ·exact hb1.trans ((hb2.trans (hb4.mono hb2.size)).mono hb1.size)
theorem zax {xs:List Int} (h:Dig16 xs) (k:Nat):Dig16 (xs.take k):=fun j=>by
 have:=h j
 simp only[List.getD,List.getElem?_take] at this ⊢
 split
 ·exact this
 ·simp
theorem zbl {xs:List Int} (h:Dig16 xs) (k:Nat):Dig16 (xs.drop k):=fun j=>by
 have:=h (k+j)
 simpa [List.getD,List.getElem?_drop] using this
theorem za0 (k:Nat):(0:Int)<65536^k:=Int.pow_pos (by decide)
theorem za8:∀(l:List Int) (i:Nat) (d:Int),(l.set i d).take i=l.take i
 | [],_,_=>by simp
 | x::l,0,d=>by simp
 | x::l,i+1,d=>by simpa using za8 l i d
theorem za3 {l:List Int} {i:Nat} {d:Int} (h:i<l.length):(l.set i d).getD i 0=d:=by
 simp[List.getD,h]
theorem getD_set_ne {l:List Int} {i j:Nat} {d:Int} (h:i≠j):(l.set i d).getD j 0=l.getD j 0:=by
 simp[List.getD,h]
theorem val_top2 {us:List Int} {m:Nat} (h:us.length=m+2):val16 us=val16 (us.take m)+(us.getD (m+1) 0*65536+us.getD m 0)*65536^m:=by
 have h1:=zas us m
 have h2:=zas us (m+1)
 rw[List.take_of_length_le (by omega:us.length<=m+1+1),h1,Int.pow_succ] at h2
 rw[h2,Int.add_mul,Int.mul_assoc,Int.mul_comm (65536^m) 65536]
 omega
theorem zc0 {vs:List Int} {m:Nat} (h:vs.length=m+1):val16 vs=val16 (vs.take m)+vs.getD m 0*65536^m:=by
 have h1:=zas vs m
 rwa [List.take_of_length_le (by omega:vs.length<=m+1)] at h1
theorem zkh {us vs:List Int} {m:Nat} (du:Dig16 us) (dv:Dig16 vs) (hu:us.length=m+2) (hv:vs.length=m+1) (ht:0<vs.getD m 0):
  val16 us / val16 vs<=(us.getD (m+1) 0*65536+us.getD m 0) / vs.getD m 0:=by
 have e1:=val_top2 hu
 have e2:=zc0 hv
 have l1:=zbm (zax du m)
 have l2:=zai (zax dv m)
 rw[List.length_take,Nat.min_eq_left (by omega)] at l1
 have hp:=za0 m
 generalize us.getD (m+1) 0*65536+us.getD m 0=top at*
 generalize vs.getD m 0=vt at*
 generalize (65536:Int)^m=p at*
 have hvp:0<vt*p:=Int.mul_pos ht hp
 have hd:top<(top / vt+1)*vt:=by
  have:=Int.emod_add_mul_ediv top vt
  have:=Int.emod_lt_of_pos top ht
  rw[Int.add_mul,Int.one_mul,Int.mul_comm (top / vt)]
  omega
 generalize top / vt=g at*
 have h3:(top+1)*p<=(g+1)*vt*p:=Int.mul_le_mul_of_nonneg_right (by omega) (by omega)
 rw[Int.add_mul top 1 p,Int.one_mul] at h3
 have hg:0<=g+1\/g+1<0:=by omega
 have h4:val16 us<(g+1)*val16 vs:=by
  rw[e2,Int.mul_add]
  have h5:0<=(g+1)*val16 (vs.take m):=by
   rcases hg with hg | hg
   ·exact Int.mul_nonneg hg l2
   ·exfalso
    have h7:(g+1)*vt<0:=Int.mul_neg_of_neg_of_pos hg ht
    have h8:(g+1)*vt*p<0:=Int.mul_neg_of_neg_of_pos h7 hp
    have h9:=zai du
    have h10:=zai (zax du m)
    have d1:=du (m+1)
    have d2:=du m
    omega
  rw[Int.mul_assoc] at h3
  omega
 have:=Int.ediv_lt_of_lt_mul (by omega:0<val16 vs) h4
 omega
structure Dg (us vs:List Int) (g:Int) (i:Nat) (cur:List Int) (owed:Int):Prop where
 len:cur.length=us.length
 dig:Dig16 cur
 ow:-65536<=owed/\owed<=0
 eq:val16 (cur.take i)+owed*65536^i=val16 (us.take i) - g*val16 (vs.take i)
 rest:∀k,i<=k->cur.getD k 0=us.getD k 0
theorem Dg.zero {us vs:List Int} {g:Int} (h:Dig16 us):Dg us vs g 0 us 0:=⟨rfl,h,by omega,by simp[val16],fun _ _=>rfl⟩
theorem Dg.step {us vs cur:List Int} {g owed S:Int} {i:Nat} (h:Dg us vs g i cur owed) (du:Dig16 us) (dv:Dig16 vs) (hg:0<=g/\g<=65535) (hi:i<us.length) (hS:S=us.getD i 0+owed - g*vs.getD i 0):
  Dg us vs g (i+1) (cur.set i (S % 65536)) (S / 65536):=by
 have hb:=zbz hg (dv i)
 have hu:=du i
 have ho:=h.ow
 refine⟨by simp[h.len],zck h.dig (by omega),by omega,?_,fun k hk=>?_⟩
 ·have he:=h.eq
  rw[zas,zas us,zas vs,za8,za3 (by rw[h.len];exact hi),Int.pow_succ]
  have e:S*65536^i=S % 65536*65536^i+S / 65536*(65536^i*65536):=by
   have h1:S=S % 65536+65536*(S / 65536):=by omega
   generalize (65536:Int)^i=p
   calc S*p=(S % 65536+65536*(S / 65536))*p:=by rw[<-h1]
    _=_:=by rw[Int.add_mul,Int.mul_comm 65536,Int.mul_assoc,Int.mul_comm 65536 p]
  have e2:S*65536^i=us.getD i 0*65536^i+owed*65536^i - g*(vs.getD i 0*65536^i):=by
   rw[hS,Int.sub_mul,Int.add_mul,Int.mul_assoc]
  rw[Int.mul_add]
  omega
 ·rw[getD_set_ne (by omega)]
  exact h.rest k (by omega)
theorem Dg.done {us vs cur:List Int} {g owed:Int} (h:Dg us vs g us.length cur owed) (dv:Dig16 vs) (hl:vs.length<=us.length) (h0:g*val16 vs<=val16 us) (_h1:val16 us<g*val16 vs+val16 vs):
  val16 cur=val16 us - g*val16 vs:=by
 have he:=h.eq
 rw[List.take_of_length_le (by rw[h.len];exact Nat.le_refl _),List.take_length,List.take_of_length_le hl] at he
 have l1:=zbm h.dig
 have l2:=zbm dv
 have l3:=zai h.dig
 have hm:(65536:Int)^vs.length<=65536^us.length:=by
  obtain⟨d,hd⟩:∃d,us.length=vs.length+d:=⟨us.length - vs.length,by omega⟩
  rw[hd,Int.pow_add]
  have:=Int.mul_le_mul_of_nonneg_left (by have:=za0 d;omega:(1:Int)<=65536^d) (by have:=za0 vs.length;omega:(0:Int)<=65536^vs.length)
  rwa [Int.mul_one] at this
 rw[h.len] at l1
 have hp:=za0 us.length
 have ho:=h.ow
 generalize (65536:Int)^us.length=p at*
 have hz:owed=0:=by
  rcases (by omega:owed=0\/owed<=-1) with h | h
  ·exact h
  ·have:owed*p<=-1*p:=Int.mul_le_mul_of_nonneg_right h (by omega)
   omega
 rw[hz,Int.zero_mul] at he
 omega
theorem zer (S:Int):Go.bits .and .i64 S 65535=S % 65536:=by
 show IntKind.i64.wrap _=_
 have h:((BitVec.ofInt IntKind.i64.bits S &&& BitVec.ofInt IntKind.i64.bits 65535).toNat:Int)=S % 65536:=by
  show((BitVec.ofInt 64 S &&& BitVec.ofInt 64 65535).toNat:Int)=_
  rw[BitVec.toNat_and]
  have:(BitVec.ofInt 64 65535).toNat=2^16 - 1:=by decide
  rw[this,Nat.and_two_pow_sub_one_eq_mod,BitVec.toNat_ofInt]
  omega
 simp only[] at h ⊢
 rw[h]
 have:(0:Int)<=S % 65536/\S % 65536<65536:=by omega
 generalize S % 65536=z at*
 simp only[IntKind.wrap_i64]
 omega
end Go.Proofs.YtnnhofmknilopaaGreatDoor
