import Derived.Test.YtnnhofmknilopaaGreatDoorPk08
namespace Go.Proofs.YtnnhofmknilopaaGreatDoor
open Go Go.RowKit
set_option maxRecDepth 100000
set_option maxHeartbeats 16000000
theorem zj7 (q q':Option Addr) (cap cap':Nat) (w:World):Calls Tryz.prog 373 #[.slice q 0 cap,.slice q' 0 cap'] w fun e w'=>e=.returned (.int .i64 0)/\w'=w:=by
 go_enter Tryz.func373,Tryz.ntmps373
 go_wp2
 refine wp_loop_once ?_
 go_wp2
 go_ret
 exact⟨rfl,rfl⟩
theorem zl0 (b o cap b2 o2 cap2:Nat) (xs ys:List Int) (w:World) (hl:xs.length=ys.length) (dx:Dig xs) (dy:Dig ys) (hn:xs.length<=1099511627776)
  (hcx:∀i,i<xs.length->w.cell? ⟨b,o+i,none⟩=some (.int .u32 (xs.getD i 0))) (hcy:∀i,i<ys.length->w.cell? ⟨b2,o2+i,none⟩=some (.int .u32 (ys.getD i 0))) (hb1:b<w.heap.size) (hb2:b2<w.heap.size):
  Calls Tryz.prog 373 #[.slice (some ⟨b,o,none⟩) xs.length cap,.slice (some ⟨b2,o2,none⟩) xs.length cap2] w fun e w'=>∃c:Int,e=.returned (.int .i64 c)/\(c<0↔val xs<val ys)/\(c=0↔xs=ys)/\Below w.heap.size w w':=by
 have dx':Hid (Dig xs):=dx
 have dy':Hid (Dig ys):=dy
 clear dx dy
 go_enter Tryz.func373,Tryz.ntmps373
 go_wp2
 go_loopw [5] (fun i wr=>∃k:Nat,k<=xs.length/\i=.int .i64 ((k:Int) - 1)/\(∀j,k<=j->j<xs.length->xs.getD j 0=ys.getD j 0)/\Below w.heap.size w wr) (fun i _=>(intOf i+1).toNat)
 case atStart=>exact⟨xs.length,Nat.le_refl _,by simp[hl],fun j h1 h2=>by omega,Below.refl _ _⟩
 case round=>
  obtain⟨k,hk,rfl,hag,hbw⟩:=hrel
  have aL:=zab hag
  clear hag
  match k,hk,aL with
  | 0,hk,aL=>
   go_wp2
   go_ret
   have e:=zew hl (fun j hj=>aL.out j (Nat.zero_le _) hj)
   exact⟨0,rfl,by simp[e],by simp[e],hbw⟩
  | k+1,hk,aL=>
   have e1:((k+1:Nat):Int) - 1=(k:Int):=by omega
   rw[e1]
   have c1:wr.cell? ⟨b,o+k,none⟩=some (.int .u32 (xs.getD k 0)):=(hbw.cell (by exact hb1)).trans (hcx k (by omega))
   have c2:wr.cell? ⟨b2,o2+k,none⟩=some (.int .u32 (ys.getD k 0)):=(hbw.cell (by exact hb2)).trans (hcy k (by omega))
   generalize hX:xs.getD k 0=X at c1
   generalize hY:ys.getD k 0=Y at c2
   have hkl:(k:Int)<(xs.length:Int):=by omega
   go_wp2
   go_quiet (fail)
   have hB:Below w.heap.size w (wr.drewN nq):=zam hbw _
   have c1':(wr.drewN nq).cell? ⟨b,o+k,none⟩=some (.int .u32 X):=c1
   have c2':(wr.drewN nq).cell? ⟨b2,o2+k,none⟩=some (.int .u32 Y):=c2
   generalize wr.drewN nq=wz at hB c1' c2' ⊢
   clear c1 c2
   go_wp2
   ·go_ret
    have hlt:X<Y:=by assumption
    have e:=zdd (xs:=xs) (ys:=ys) (j:=k) (by omega)
    exact⟨-1,rfl,⟨fun _=>zf1 hl dx'.out dy'.out (by omega) (by rw[hX,hY];exact hlt) aL.out,fun _=>by decide⟩,by simp[e],hB⟩
   ·go_quiet (fail)
    have hB2:Below w.heap.size w (wz.drewN nq):=zam hB _
    go_wp2
    ·go_ret
     have hlt:X > Y:=by assumption
     have e:=zdd (xs:=xs) (ys:=ys) (j:=k) (by omega)
     have hv:=zf1 hl.symm dy'.out dx'.out (k:=k) (by omega) (by rw[hX,hY];exact hlt) (fun j h1 h2=>(aL.out j h1 (by omega)).symm)
     exact⟨1,rfl,⟨fun h=>absurd h (by decide),fun h=>by omega⟩,by simp[e],hB2⟩
    ·go_roundw
     case rel=>
      refine⟨k,by omega,by go_num,fun j h1 h2=>?_,hB2⟩
      rcases Nat.lt_or_ge k j with h | h
      ·exact aL.out j h h2
      ·have:j=k:=by omega
       subst this;omega
     case measure=>simp[intOf]
theorem zii (q q':Option Addr) (m n cap cap':Nat) (w:World) (h:m<n):Calls Tryz.prog 373 #[.slice q m cap,.slice q' n cap'] w fun e w'=>e=.returned (.int .i64 (-1))/\w'=w:=by
 have h':¬(m:Int)=(n:Int):=by omega
 have h2:(m:Int)<(n:Int):=by omega
 clear h
 go_enter Tryz.func373,Tryz.ntmps373
 go_wp2
 go_ret
 exact⟨rfl,rfl⟩
theorem zj8 (q q':Option Addr) (m n cap cap':Nat) (w:World) (h:n<m):Calls Tryz.prog 373 #[.slice q m cap,.slice q' n cap'] w fun e w'=>e=.returned (.int .i64 1)/\w'=w:=by
 have h':¬(m:Int)=(n:Int):=by omega
 have h2:¬(m:Int)<(n:Int):=by omega
 clear h
 go_enter Tryz.func373,Tryz.ntmps373
 go_wp2
 go_ret
 exact⟨rfl,rfl⟩
theorem zgh {w:World} {v u:Value} {xs ys:List Int} (hx:Sl w v xs) (hy:Sl w u ys) (cx:Canon xs) (cy:Canon ys):
  Calls Tryz.prog 373 #[v,u] w fun e w'=>∃c:Int,e=.returned (.int .i64 c)/\(c<0↔val xs<val ys)/\(c=0↔xs=ys)/\Below w.heap.size w w':=by
 obtain⟨x1,x2,q,cap,rfl,x4,x5⟩:=hx
 obtain⟨y1,y2,q',cap',rfl,y4,y5⟩:=hy
 rcases Nat.lt_trichotomy xs.length ys.length with hl | hl | hl
 ·refine(zii q q' xs.length ys.length cap cap' w hl).mono ?_
  rintro e w' ⟨rfl,rfl⟩
  exact⟨-1,rfl,⟨fun _=>zc8 x1 y1 cy hl,fun _=>by decide⟩,⟨fun h=>absurd h (by decide),fun h=>by rw[h] at hl;omega⟩,Below.refl _ _⟩
 ·by_cases hx0:xs=[]
  ·subst hx0
   have hy0:ys=[]:=List.eq_nil_of_length_eq_zero hl.symm
   subst hy0
   refine(zj7 q q' cap cap' w).mono ?_
   rintro e w' ⟨rfl,rfl⟩
   exact⟨0,rfl,by simp,by simp,Below.refl _ _⟩
  ·have hy0:ys≠[]:=fun h=>hx0 (List.eq_nil_of_length_eq_zero (by rw[hl,h];rfl))
   rcases x5 with h | ⟨b,o,rfl,hlt,hc⟩
   ·exact absurd h hx0
   rcases y5 with h | ⟨b',o',rfl,aF,hc'⟩
   ·exact absurd h hy0
   rw[<-hl]
   exact zl0 b o cap b' o' cap' xs ys w hl x1 y1 (by omega) hc hc' hlt aF
 ·refine(zj8 q q' xs.length ys.length cap cap' w hl).mono ?_
  rintro e w' ⟨rfl,rfl⟩
  have:=zc8 y1 x1 cx hl
  exact⟨1,rfl,⟨fun h=>absurd h (by decide),fun h=>by omega⟩,⟨fun h=>absurd h (by decide),fun h=>by rw[h] at hl;omega⟩,Below.refl _ _⟩
theorem zgi {w:World} {v:Value} {xs:List Int} (h:Sl w v xs):Calls Tryz.prog 179 #[v] w (Rt w (.bool (decide (xs=[1])))):=by
 obtain⟨h1,h2,q,cap,rfl,h4,h5⟩:=h
 by_cases hl:xs.length=1
 ·obtain⟨x,rfl⟩:=List.length_eq_one_iff.1 hl
  rcases h5 with h | ⟨b,o,rfl,hlt,hc⟩
  ·cases h
  ·have c0:w.cell? ⟨b,o,none⟩=some (.int .u32 x):=by simpa using hc 0 (by simp)
   clear hc h1
   go_enter Tryz.func179,Tryz.ntmps179
   go_wp2
   all_goals
    go_ret
    refine⟨?_,Below.refl _ _⟩
    simp_all
    try rfl
 ·have hne:((xs.length:Int)==1)=false:=by simp;omega
  have hx:¬xs=[1]:=fun e=>hl (by rw[e];rfl)
  clear h5
  go_enter Tryz.func179,Tryz.ntmps179
  go_wp2
  go_ret
  exact⟨by simp[hx],Below.refl _ _⟩
theorem zl1 {w:World} {v:Value} {xs:List Int} (h:Sl w v xs) (cx:Canon xs) (hne:xs≠[]) (lx:xs.length<=274877906944):
  Calls Tryz.prog 317 #[v] w fun e w'=>∃n:Nat,e=.returned (.int .i64 (n+1))/\2^n<=val xs/\val xs<2^(n+1)/\n<=8796093022208/\w'=w:=by
 obtain⟨h1,h2,q,cap,rfl,h4,h5⟩:=h
 obtain⟨m,hm⟩:∃m,xs.length=m+1:=⟨xs.length - 1,by have:=List.length_pos_iff.2 hne;omega⟩
 rcases h5 with h | ⟨b,o,rfl,hlt,hc⟩
 ·exact absurd h hne
 have c0:=hc m (by omega)
 have d0:=h1 m
 have z0:=cx m hm
 have hv:=zbb hm
 have t0:=zae (zao h1 m)
 have t1:=za4 (zao h1 m)
 rw[List.length_take,Nat.min_eq_left (by omega)] at t1
 generalize xs.getD m 0=X at*
 have hb:=len32_ok X w d0.1 d0.2
 obtain⟨s1,s2,s3⟩:=zfe X.toNat (by omega) (by omega)
 have s4:=zff X d0.1 d0.2
 generalize Lib.bitLen X.toNat=L at*
 obtain⟨l,rfl⟩:∃l,L=l+1:=⟨L - 1,by omega⟩
 have e1:(2:Int)^l<=X:=by
  rw[show ((2:Int)^l)=((2^l:Nat):Int) by simp]
  rw[Nat.add_sub_cancel] at s1
  omega
 have e2:X+1<=(2:Int)^(l+1):=by
  rw[show ((2:Int)^(l+1))=((2^(l+1):Nat):Int) by simp]
  omega
 have ep:(4294967296:Int)^m=2^(32*m):=by
  rw[Int.pow_mul]
  rfl
 have hp:=zav m
 have f1:2^(32*m+l)<=val xs:=by
  rw[Int.pow_add,<-ep,hv,Int.mul_comm]
  have:=Int.mul_le_mul_of_nonneg_right e1 (by omega:(0:Int)<=4294967296^m)
  omega
 have f2:val xs<2^(32*m+l+1):=by
  rw[Nat.add_assoc,Int.pow_add,<-ep,hv]
  have:=Int.mul_le_mul_of_nonneg_left e2 (by omega:(0:Int)<=4294967296^m)
  rw[Int.mul_add,Int.mul_one,Int.mul_comm _ X] at this
  omega
 rw[hm]
 rw[hm] at h4 lx
 have hF:Hid (2^(32*m+l)<=val xs/\val xs<2^(32*m+l+1)):=⟨f1,f2⟩
 clear f1 f2 hv hc h1 h2 cx hne t0 t1 e1 e2 ep hp s1 s2 s3 z0 hm
 go_enter Tryz.func317,Tryz.ntmps317
 go_wp2_with (go_at_call 400;refine hb.mono ?_;rintro e w2 ⟨rfl,rfl⟩)
 go_ret
 exact⟨32*m+l,by go_num,hF.out.1,hF.out.2,by omega,rfl⟩
theorem ze6 {xs:List Int}:∀k,k<=xs.length->(∀j,j<k->xs.getD j 0=0)->val xs=4294967296^k*val (xs.drop k)
 | 0,_,_=>by simp
 | k+1,hk,h=>by
  rw[ze6 k (by omega) (fun j hj=>h j (by omega)),zcb xs k (by omega),h k (by omega),Int.pow_succ,Int.mul_assoc]
  simp
theorem zl2 {w:World} {v:Value} {xs:List Int} (h:Sl w v xs) (hne:0<val xs) (lx:xs.length<=274877906944) (hT:Tb w):
  Calls Tryz.prog 315 #[v] w fun e w'=>∃t:Nat,e=.returned (.int .i64 t)/\TwosIs (val xs) t/\t<=8796093022208/\w'=w:=by
 obtain⟨h1,h2,q,cap,rfl,h4,h5⟩:=h
 rcases h5 with h | ⟨b,o,rfl,hlt,hc⟩
 ·subst h;simp[val] at hne
 have cH:Hid (0<val xs):=hne
 have h1':Hid (Dig xs):=h1
 have hc':=zab hc
 clear hne h1 hc
 go_enter Tryz.func315,Tryz.ntmps315
 go_wp2
 go_loop [7] (fun i=>∃k:Nat,k<=xs.length/\i=.int .i64 k/\∀j,j<k->xs.getD j 0=0) (fun i=>xs.length - (intOf i).toNat)
 case atStart=>exact⟨0,Nat.zero_le _,rfl,fun j hj=>by omega⟩
 case round=>
  obtain⟨k,hk,rfl,hz⟩:=hrel
  have hz':Hid (∀j,j<k->xs.getD j 0=0):=hz
  clear hz
  by_cases hk2:k<xs.length
  ·have c0:=hc'.out k hk2
   have d0:=h1'.out k
   have hkl:(k:Int)<(xs.length:Int):=by omega
   generalize hX:xs.getD k 0=X at*
   have hX':Hid (xs.getD k 0=X):=hX
   clear hX
   by_cases h0:X=0
   ·subst h0
    go_wp2
    go_round
    case rel=>
     refine⟨k+1,by omega,by go_num,fun j hj=>?_⟩
     rcases Nat.lt_or_ge j k with h | h
     ·exact hz'.out j h
     ·have:j=k:=by omega
      subst this;exact hX'.out
    case measure=>simp[intOf];omega
   ·have htz:=tz32_ok X w (by omega) d0.2 hT
    go_wp2_with (go_at_call 399;refine htz.mono ?_;rintro e w2 ⟨t,rfl,ht,ht2,rfl⟩)
    go_ret
    refine⟨32*k+t,by go_num,?_,by omega,rfl⟩
    obtain⟨m,hm⟩:=ht
    have hv:=ze6 k (by omega) hz'.out
    rw[zcb xs k hk2,hX'.out] at hv
    have ep:(4294967296:Int)^k=2^(32*k):=by
     rw[Int.pow_mul]
     rfl
    obtain⟨d,hd⟩:∃d,32=t+(d+1):=⟨31 - t,by omega⟩
    have e32:(4294967296:Int)=2^t*(2^d*2):=by
     rw[<-Int.pow_succ,<-Int.pow_add,<-hd]
     rfl
    obtain⟨V,hV⟩:=Int.eq_ofNat_of_zero_le (zae (zbg h1'.out (k+1)))
    refine⟨m+2^d*V,?_⟩
    rw[hv,hV,hm,Int.pow_add,<-ep,Int.mul_assoc]
    congr 1
    rw[e32,Int.mul_assoc (2^t),<-Int.mul_add]
    congr 1
    rw[Int.mul_assoc,Int.natCast_add,Int.natCast_mul,Int.mul_add,Int.mul_left_comm]
    simp
    omega
  ·exfalso
   have:k=xs.length:=by omega
   subst this
   have hv:=ze6 xs.length (Nat.le_refl _) hz'.out
   rw[List.drop_length] at hv
   have:=cH.out
   simp[val] at hv
   omega
theorem or_nat32 (a b:Nat) (ha:a<4294967296) (hb:b<4294967296):Go.bits .or .u32 (a:Int) (b:Int)=((a ||| b:Nat):Int):=by
 have hx:a ||| b<2^32:=Nat.or_lt_two_pow (by omega) (by omega)
 have h1:(BitVec.ofInt 32 (a:Int)).toNat=a:=by
  rw[BitVec.ofInt_natCast,BitVec.toNat_ofNat];exact Nat.mod_eq_of_lt (by omega)
 have h2:(BitVec.ofInt 32 (b:Int)).toNat=b:=by
  rw[BitVec.ofInt_natCast,BitVec.toNat_ofNat];exact Nat.mod_eq_of_lt (by omega)
 show IntKind.u32.wrap ((BitVec.ofInt 32 (a:Int) ||| BitVec.ofInt 32 (b:Int)).toNat:Int)=_
 rw[BitVec.toNat_or,h1,h2,IntKind.wrap_u32]
 omega
theorem zjb (a b:Nat) (ha:a<18446744073709551616) (hb:b<18446744073709551616):Go.bits .or .u64 (a:Int) (b:Int)=((a ||| b:Nat):Int):=by
 have hx:a ||| b<2^64:=Nat.or_lt_two_pow (by omega) (by omega)
 have h1:(BitVec.ofInt 64 (a:Int)).toNat=a:=by
  rw[BitVec.ofInt_natCast,BitVec.toNat_ofNat];exact Nat.mod_eq_of_lt (by omega)
 have h2:(BitVec.ofInt 64 (b:Int)).toNat=b:=by
  rw[BitVec.ofInt_natCast,BitVec.toNat_ofNat];exact Nat.mod_eq_of_lt (by omega)
 show IntKind.u64.wrap ((BitVec.ofInt 64 (a:Int) ||| BitVec.ofInt 64 (b:Int)).toNat:Int)=_
 rw[BitVec.toNat_or,h1,h2,IntKind.wrap_u64]
 omega
theorem or_hi {x y:Int} (hx:0<=x/\x<=4294967295) (hy:0<=y/\y<=4294967295):Go.bits .or .u64 (x*4294967296) y=x*4294967296+y/\Go.bits .or .u64 y (x*4294967296)=y+x*4294967296:=by
 obtain⟨X,rfl⟩:=Int.eq_ofNat_of_zero_le hx.1
 obtain⟨Y,rfl⟩:=Int.eq_ofNat_of_zero_le hy.1
 have e:(X:Int)*4294967296=((2^32*X:Nat):Int):=by omega
 have h:=Nat.two_pow_add_eq_or_of_lt (i:=32) (b:=Y) (by omega) X
 rw[e,zjb _ _ (by omega) (by omega),zjb _ _ (by omega) (by omega),Nat.or_comm Y,<-h]
 omega
theorem or_lo {x c:Int} {s:Nat} (hx:0<=x/\x<=4294967295) (hs:s<=31) (hc:0<=c/\c<2^s):
  Go.bits .or .u32 c (x*2^s % 4294967296)=(x*2^s+c) % 4294967296/\x*2^s / 4294967296=(x*2^s+c) / 4294967296/\0<=x*2^s / 4294967296/\x*2^s / 4294967296<2^s:=by
 obtain⟨X,rfl⟩:=Int.eq_ofNat_of_zero_le hx.1
 obtain⟨C,rfl⟩:=Int.eq_ofNat_of_zero_le hc.1
 obtain⟨d,hd⟩:∃d,32=s+d:=⟨32 - s,by omega⟩
 have hp:0<2^s:=Nat.pow_pos (by decide)
 have hpd:0<2^d:=Nat.pow_pos (by decide)
 have e32:4294967296=2^s*2^d:=by rw[<-Nat.pow_add,<-hd]
 have hC:C<2^s:=by
  have:=hc.2
  rw[show ((2:Int)^s)=((2^s:Nat):Int) by simp] at this
  omega
 have hX:X<2^s*2^d:=by omega
 rw[show ((2:Int)^s)=((2^s:Nat):Int) by simp,show(X:Int)*((2^s:Nat):Int)=((2^s*X:Nat):Int) by rw[Int.natCast_mul,Int.mul_comm]]
 have m1:2^s*X % 4294967296=2^s*(X % 2^d):=by rw[e32,Nat.mul_mod_mul_left]
 have q1:2^s*X / 4294967296=X / 2^d:=by rw[e32,Nat.mul_div_mul_left _ _ hp]
 have hm:=Nat.mod_lt X hpd
 have hle:2^s*(X % 2^d)+2^s<=4294967296:=by
  rw[e32,<-Nat.mul_succ]
  exact Nat.mul_le_mul_left _ hm
 have hq:X / 2^d<2^s:=Nat.div_lt_of_lt_mul (by rwa [Nat.mul_comm])
 have h:=Nat.two_pow_add_eq_or_of_lt (i:=s) hC (X % 2^d)
 have hdm:=Nat.div_add_mod (2^s*X) 4294967296
 rw[m1,q1] at hdm
 have s1:(2^s*X+C) % 4294967296=2^s*(X % 2^d)+C:=by omega
 have s2:(2^s*X+C) / 4294967296=X / 2^d:=by omega
 refine⟨?_,?_,?_,?_⟩
 ·rw[show ((2^s*X:Nat):Int) % 4294967296=((2^s*X % 4294967296:Nat):Int) by omega,show(((2^s*X:Nat):Int)+(C:Int)) % 4294967296=(((2^s*X+C) % 4294967296:Nat):Int) by omega,m1,s1]
  rw[or_nat32 _ _ (by omega) (by omega),Nat.or_comm,<-h]
 ·rw[show ((2^s*X:Nat):Int) / 4294967296=((2^s*X / 4294967296:Nat):Int) by omega,show(((2^s*X:Nat):Int)+(C:Int)) / 4294967296=(((2^s*X+C) / 4294967296:Nat):Int) by omega,q1,s2]
 ·omega
 ·rw[show ((2^s*X:Nat):Int) / 4294967296=((2^s*X / 4294967296:Nat):Int) by omega,q1]
  omega
theorem set_two (out:List Int) (c x y:Int) (m:Nat):((out++c::List.replicate (m+1) 0).set out.length x).set (out.length+1) y=(out++[x])++y::List.replicate m 0:=by
 induction out with
 | nil=>simp[List.replicate_succ]
 | cons a l ih=>simpa using ih
theorem getD_two (out:List Int) (c:Int) (m:Nat):(out++c::List.replicate (m+1) 0).getD out.length 0=c:=by
 simp[List.getD]
theorem zgj {s:Nat} (hs:s<=31):(2:Int)^s<=2147483648:=by
 have:2^s<=2^31:=Nat.pow_le_pow_right (by decide) hs
 rw[show ((2:Int)^s)=((2^s:Nat):Int) by simp]
 omega
theorem mul_le31 {x:Int} {s:Nat} (hs:s<=31) (hx:0<=x/\x<=4294967295):0<=x*2^s/\x*2^s<=9223372034707292160:=by
 have hp:=zar s
 have h1:=zgj hs
 have h2:=Int.mul_le_mul hx.2 h1 (by omega) (by omega)
 exact⟨Int.mul_nonneg hx.1 (by omega),by omega⟩
theorem zl3 {w:World} {g:Nat} {os:List Int} (hb:Blk w g os) (hd:Dig os) (hl:os.length<=549755813888):Sl w (.slice (some ⟨g,0,none⟩) os.length os.length) os:=by
 refine⟨hd,hl,some ⟨g,0,none⟩,os.length,rfl,Nat.le_refl _,.inr ⟨g,0,rfl,?_,fun i hi=>by simpa using hb.cell hi⟩⟩
 unfold Blk at hb
 exact(Array.getElem?_eq_some_iff.1 hb).1
theorem zgk {w:World} {v:Value} {xs:List Int} (h:Sl w v xs):∃r,(Calls Tryz.prog 206 #[v] w fun e w'=>e=.returned r/\w'=w)/\Sl w r (trim xs):=by
 obtain⟨u,h1,h2⟩:=zfg h
 exact⟨u,h2 w (Below.refl _ _),h1⟩
theorem zhe (q:Option Addr) (cap:Nat) (s:Int) (w:World):Calls Tryz.prog 402 #[.slice q 0 cap,.int .i64 s] w fun e w'=>e=.returned (.slice none 0 0)/\w'=w:=by
 go_enter Tryz.func402,Tryz.ntmps402
 go_wp2
 go_ret
 exact⟨rfl,rfl⟩
theorem zj9 {w:World} {b o cap:Nat} {xs:List Int} (s:Nat) (hs1:s<=31) (hne:((xs.length:Int)==0)=false) (dx:Dig xs) (lx:xs.length<=274877906944) (hb:b<w.heap.size)
  (hcx:∀i,i<xs.length->w.cell? ⟨b,o+i,none⟩=some (.int .u32 (xs.getD i 0))):
  Calls Tryz.prog 402 #[.slice (some ⟨b,o,none⟩) xs.length cap,.int .i64 s] w fun e w'=>∃r out cy,e=.returned r/\Shb xs s xs.length out cy/\Sl w' r (trim (out++[cy]))/\Below w.heap.size w w':=by
 obtain⟨i0,hi,hz0,hz1,hz2⟩:=info_parts (show(Tryz.prog.info? 150).map (fun i=>(i.zero,i.size,i.bytes))=some (some (.int .u32 0),1,4) by kernel_rfl)
 have hq:(s:Int).tdiv 32=0:=by rw[Int.tdiv_eq_ediv_of_nonneg (by omega)];omega
 have hr:(s:Int).tmod 32=s:=by rw[Int.tmod_eq_emod_of_nonneg (by omega)];omega
 have cx':=zab hcx
 have dx':Hid (Dig xs):=dx
 clear hcx dx
 go_enter Tryz.func402,Tryz.ntmps402
 go_wp2_with (at_make;refine wpList_make_full _ rfl _ _ 22 rfl w.heap.size 150 i0 (.int .u32 0) 1 Tryz.underlying22 hi hz0 hz1 _ _ _ _ (xs.length+1) rfl rfl (by omega) (by omega) (by rw[hz2];omega) (by unfold maxLen;omega) (Nat.le_refl _) ?_)
 intro w1 az aC
 have aR:Blk w1 w.heap.size (List.replicate (xs.length+1) 0):=zb1 az
 have aw:Below w.heap.size w w1:=(Below.refl _ _).grown aC (Nat.le_refl _) (fun _ h=>by cases h)
 clear az aC hi hz0 hz1 hz2
 go_wp2
 go_loopw [27] (fun i wr=>∃(k:Nat) (out:List Int) (cy:Int),k<=xs.length/\i=.int .i64 k/\Hid (Shb xs s k out cy)/\Blk wr w.heap.size (out++cy::List.replicate (xs.length - k) 0)/\Below w.heap.size w wr) (fun i _=>xs.length - (intOf i).toNat)
 case atStart=>exact⟨0,[],0,Nat.zero_le _,rfl,Shb.zero xs s,by simpa [List.replicate_succ] using aR,aw⟩
 case round=>
  clear aR aw
  obtain⟨k,out,cy,hk,rfl,hsh,hbk,hbw⟩:=hrel
  have ae:=hsh.out.len
  have hcy:=hsh.out.c
  have h31:=zgj hs1
  by_cases hlt:k<xs.length
  ·have aF:(k:Int)<(xs.length:Int):=by omega
   obtain⟨m,hm⟩:∃m,xs.length - k=m+1:=⟨xs.length - k - 1,by omega⟩
   rw[hm] at hbk
   have cc:wr.cell? ⟨b,o+k,none⟩=some (.int .u32 (xs.getD k 0)):=(hbw.cell (by exact hb)).trans (cx'.out k hlt)
   have c2:=hbk.cell (j:=k) (by simp;omega)
   rw[<-ae,getD_two,ae] at c2
   have c3:=hbk.cell (j:=k+1) (by simp;omega)
   have hfr:=hbk.frozen k
   have hfr1:=hbk.frozen (k+1)
   generalize (out++cy::List.replicate (m+1) 0).getD (k+1) 0=Z3 at c3
   have hxk:=dx'.out k
   obtain⟨X,hX⟩:∃X,Hid (xs.getD k 0=X):=⟨_,rfl⟩
   rw[hX.out] at cc hxk
   have hor:=or_lo hxk hs1 hcy
   have hml:=mul_le31 hs1 hxk
   have aa:=hsh.out.step dx'.out (S:=X*2^s+cy) (by rw[hX.out])
   obtain⟨P,hP⟩:∃P,X*2^s=P:=⟨_,rfl⟩
   rw[hP] at hor aa hml
   obtain⟨o1,o2,o3,o4⟩:=hor
   rw[<-o2] at aa
   obtain⟨D,hD⟩:∃D,(P+cy) % 4294967296=D:=⟨_,rfl⟩
   rw[hD] at o1 aa
   obtain⟨C,hC⟩:∃C,P / 4294967296=C:=⟨_,rfl⟩
   rw[hC] at o3 o4 aa
   have aY:=set_two out cy D C m
   rw[ae] at aY
   have hB2:=(hbk.set k D).set (k+1) C
   rw[aY] at hB2
   have hB3:Hid (Blk ((wr.setCell ⟨w.heap.size,k,none⟩ (.int .u32 D)).setCell ⟨w.heap.size,k+1,none⟩ (.int .u32 C)) w.heap.size (out++[D]++C::List.replicate m 0)):=hB2
   have aE:Hid (Shb xs s (k+1) (out++[D]) C):=aa
   have hC1:C<=2147483647:=by omega
   have hD':Hid ((P+cy) % 4294967296=D):=hD
   clear aY hB2 aa o2 hD o4 hcy h31
   go_wp2
   go_roundw
   case rel=>
    refine⟨k+1,out++[D],C,by omega,by go_num,aE,?_,(hbw.setCell (Nat.le_refl _) _).setCell (Nat.le_refl _) _⟩
    rw[show xs.length - (k+1)=m by omega]
    exact hB3.out
   case measure=>simp[intOf];omega
  ·obtain rfl:k=xs.length:=by omega
   rw[Nat.sub_self,List.replicate_zero] at hbk
   have hd:Dig (out++[cy]):=zfb hsh.out.dig (by omega)
   have hsl:=zl3 hbk hd (by simp;omega)
   obtain⟨r,ai,hr⟩:=zgk hsl
   rw[show (out++[cy]).length=xs.length+1 by simp[ae]] at ai
   go_wp2_with (go_at_call 206;refine ai.mono ?_;rintro e w9 ⟨rfl,rfl⟩)
   go_ret
   exact⟨r,out,cy,rfl,hsh.out,hr,hbw⟩
theorem Shb.done {xs out:List Int} {s:Nat} {cy:Int} (h:Shb xs s xs.length out cy):val (trim (out++[cy]))=val xs*2^s:=by
 have:=h.eq
 rw[List.take_length] at this
 rw[zbp,zfc,h.len,this]
theorem zjc {w:World} {v:Value} {xs:List Int} (hx:Sl w v xs) (lx:xs.length<=274877906944) (s:Nat) (hs:s<=31):
  Calls Tryz.prog 402 #[v,.int .i64 s] w fun e w'=>∃r zs,e=.returned r/\Sl w' r zs/\Canon zs/\val zs=val xs*2^s/\zs.length<=xs.length+1/\Below w.heap.size w w':=by
 obtain⟨dx,_,q,cap,rfl,aD,hxx⟩:=hx
 rcases hxx with rfl | ⟨b,o,rfl,hb,hc⟩
 ·refine(zhe q cap s w).mono ?_
  rintro e w' ⟨rfl,rfl⟩
  exact⟨_,[],rfl,Sl.nil _,zbh,by simp[val],by simp,Below.refl _ _⟩
 ·by_cases h0:xs=[]
  ·subst h0
   refine(zhe _ cap s w).mono ?_
   rintro e w' ⟨rfl,rfl⟩
   exact⟨_,[],rfl,Sl.nil _,zbh,by simp[val],by simp,Below.refl _ _⟩
  ·have hne:((xs.length:Int)==0)=false:=by
    have:xs.length≠0:=fun h=>h0 (List.eq_nil_of_length_eq_zero h)
    simp;omega
   refine(zj9 s hs hne dx lx hb hc).mono ?_
   rintro e w' ⟨r,out,cy,rfl,hsh,hr,hbw⟩
   refine⟨r,trim (out++[cy]),rfl,hr,zal _,hsh.done,?_,hbw⟩
   rw[zag]
   have:=zan (out++[cy]) (out++[cy]).length
   have h2:=hsh.len
   simp at this
   simp
   omega
theorem set_one (out:List Int) (x:Int) (m:Nat):(out++List.replicate (m+1) 0).set out.length x=(out++[x])++List.replicate m 0:=by
 induction out with
 | nil=>simp[List.replicate_succ]
 | cons a l ih=>simpa using ih
theorem zeh {xs:List Int} (dx:Dig xs) (k:Nat) (hk:k<=xs.length):val (xs.drop k)=val xs / 4294967296^k:=by
 have h:val xs=val (xs.take k)+4294967296^k*val (xs.drop k):=by
  conv=>lhs;rw[<-List.take_append_drop k xs]
  rw[za5,List.length_take,Nat.min_eq_left hk]
 have h0:=zae (zao dx k)
 have h1:=za4 (zao dx k)
 rw[List.length_take,Nat.min_eq_left hk] at h1
 have hp:=zav k
 rw[h,Int.add_mul_ediv_left _ _ (by omega),Int.ediv_eq_zero_of_lt h0 h1,Int.zero_add]
theorem zl4 {xs:List Int} (k i:Nat):(xs.drop k).getD i 0=xs.getD (k+i) 0:=by
 simp[List.getD,List.getElem?_drop]
theorem zij {w:World} {q:Option Addr} {n cap:Nat} (wd r:Nat) (hr:r<=31) (hw:n<=wd) (hwd:wd<=274877906944) (_hn:n<=274877906944):
  Calls Tryz.prog 316 #[.slice q n cap,.int .i64 (32*wd+r)] w fun e w'=>e=.returned (.slice none 0 0)/\w'=w:=by
 have hq:(32*(wd:Int)+r).tdiv 32=wd:=by rw[Int.tdiv_eq_ediv_of_nonneg (by omega)];omega
 have hr2:(32*(wd:Int)+r).tmod 32=r:=by rw[Int.tmod_eq_emod_of_nonneg (by omega)];omega
 have hle:(n:Int)<=(wd:Int):=by omega
 go_enter Tryz.func316,Tryz.ntmps316
 go_wp2
 go_ret
 exact⟨rfl,rfl⟩
theorem zka {w:World} {b o cap:Nat} {xs:List Int} (wd r:Nat) (hr:r<=31) (hw:wd<xs.length) (_aD:xs.length<=cap) (dx:Dig xs) (lx:xs.length<=274877906944) (hb:b<w.heap.size)
  (hcx:∀i,i<xs.length->w.cell? ⟨b,o+i,none⟩=some (.int .u32 (xs.getD i 0))):
  Calls Tryz.prog 316 #[.slice (some ⟨b,o,none⟩) xs.length cap,.int .i64 (32*wd+r)] w fun e w'=>∃u out,e=.returned u/\Srb (xs.drop wd) r (xs.drop wd).length out/\Sl w' u (trim out)/\Below w.heap.size w w':=by
 obtain⟨i0,hi,hz0,hz1,hz2⟩:=info_parts (show(Tryz.prog.info? 150).map (fun i=>(i.zero,i.size,i.bytes))=some (some (.int .u32 0),1,4) by kernel_rfl)
 have hq:(32*(wd:Int)+r).tdiv 32=wd:=by rw[Int.tdiv_eq_ediv_of_nonneg (by omega)];omega
 have hr2:(32*(wd:Int)+r).tmod 32=r:=by rw[Int.tmod_eq_emod_of_nonneg (by omega)];omega
 have hwl:(wd:Int)<(xs.length:Int):=by omega
 have hnl:¬(xs.length:Int)<=(wd:Int):=by omega
 obtain⟨L,hL⟩:∃L,xs.length=wd+L:=⟨xs.length - wd,by omega⟩
 have hL':Hid (xs.length=wd+L):=hL
 have hsub:(xs.length:Int) - (wd:Int)=(L:Int):=by omega
 have hdl:Hid ((xs.drop wd).length=L):=by
  show(xs.drop wd).length=L
  rw[List.length_drop]
  omega
 have dy':Hid (Dig (xs.drop wd)):=zbg dx wd
 have cx':Hid (∀i,i<L->w.cell? ⟨b,o+(wd+i),none⟩=some (.int .u32 ((xs.drop wd).getD i 0))):=by
  intro i hi
  rw[zl4]
  exact hcx (wd+i) (by omega)
 clear hcx dx hL
 rw[hdl.out]
 generalize xs.drop wd=ys at*
 go_enter Tryz.func316,Tryz.ntmps316
 go_wp2_with (at_make;refine wpList_make_full _ rfl _ _ 22 rfl w.heap.size 150 i0 (.int .u32 0) 1 Tryz.underlying22 hi hz0 hz1 _ _ _ _ L rfl rfl (by omega) (by omega) (by rw[hz2];omega) (by unfold maxLen;omega) (Nat.le_refl _) ?_)
 intro w1 az aC
 have aR:Blk w1 w.heap.size (List.replicate L 0):=zb1 az
 have aw:Below w.heap.size w w1:=(Below.refl _ _).grown aC (Nat.le_refl _) (fun _ h=>by cases h)
 clear az aC hi hz0 hz1 hz2
 go_wp2
 go_loopw [26] (fun i wr=>∃(k:Nat) (out:List Int),k<=L/\i=.int .i64 k/\Hid (Srb ys r k out)/\Blk wr w.heap.size (out++List.replicate (L - k) 0)/\Below w.heap.size w wr) (fun i _=>L - (intOf i).toNat)
 case atStart=>exact⟨0,[],Nat.zero_le _,rfl,Srb.zero ys r,by simpa using aR,aw⟩
 case round=>
  clear aR aw
  obtain⟨k,out,hk,rfl,hsh,hbk,hbw⟩:=hrel
  have ae:=hsh.out.len
  by_cases hlt:k<L
  ·have aF:(k:Int)<(L:Int):=by omega
   obtain⟨m,hm⟩:∃m,L - k=m+1:=⟨L - k - 1,by omega⟩
   rw[hm] at hbk
   have hxl:=hL'.out
   have hkw:(wd:Int)+(k:Int)<(xs.length:Int):=by omega
   have cc:wr.cell? ⟨b,o+(wd+k),none⟩=some (.int .u32 (ys.getD k 0)):=(hbw.cell (by exact hb)).trans (cx'.out k hlt)
   have c2:=hbk.cell (j:=k) (by simp;omega)
   have hfr:=hbk.frozen k
   generalize (out++List.replicate (m+1) 0).getD k 0=Z3 at c2
   have hxk:=dy'.out k
   have jc:=dy'.out (k+1)
   have aa:=hsh.out.step dy'.out hr
   have aY:=fun d=>set_one out d m
   rw[ae] at aY
   have bQ:Hid (∀d,(out++List.replicate (m+1) 0).set k d=(out++[d])++List.replicate m 0):=aY
   clear aY ae
   have hp:=zar r
   have hp31:=zgj hr
   by_cases cV:k+1<L
   ·have cc1:wr.cell? ⟨b,o+(wd+k+1),none⟩=some (.int .u32 (ys.getD (k+1) 0)):=(hbw.cell (by exact hb)).trans (cx'.out (k+1) cV)
    have jd:(wd:Int)+(k:Int)+1<(xs.length:Int):=by omega
    generalize ys.getD k 0=X at*
    generalize ys.getD (k+1) 0=Y at*
    have hor:=(or_hi jc hxk).2
    unfold srdb at aa
    obtain⟨S,hS⟩:∃S,X+Y*4294967296=S:=⟨_,rfl⟩
    rw[hS] at hor aa
    have hS0:0<=S/\S<=18446744073709551615:=by omega
    have hq0:0<=S / 2^r:=Int.ediv_nonneg hS0.1 (by omega)
    have hq1:S / 2^r<=18446744073709551615:=Int.le_trans (Int.ediv_le_self _ hS0.1) hS0.2
    have aE:Hid (Srb ys r (k+1) (out++[S / 2^r % 4294967296])):=aa
    clear aa hS
    go_wp2
    go_roundw
    case rel=>
     refine⟨k+1,_,by omega,by go_num,aE.out,?_,hbw.setCell (Nat.le_refl _) _⟩
     rw[show L - (k+1)=m by omega,<-bQ.out]
     exact hbk.set k _
    case measure=>simp[intOf];omega
   ·have jd:¬(wd:Int)+(k:Int)+1<(xs.length:Int):=by omega
    have hY:ys.getD (k+1) 0=0:=by
     have:=hdl.out
     simp[List.getD,List.getElem?_eq_none (by omega:ys.length<=k+1)]
    rw[hY] at aa
    generalize ys.getD k 0=X at*
    unfold srdb at aa
    rw[Int.zero_mul,Int.add_zero] at aa
    have hq0:0<=X / 2^r:=Int.ediv_nonneg hxk.1 (by omega)
    have hq1:X / 2^r<=4294967295:=Int.le_trans (Int.ediv_le_self _ hxk.1) hxk.2
    have aE:Hid (Srb ys r (k+1) (out++[X / 2^r % 4294967296])):=aa
    clear aa hY
    go_wp2
    go_roundw
    case rel=>
     have hm':X / 2^r % 4294967296=X / 2^r:=by omega
     refine⟨k+1,_,by omega,by go_num,aE.out,?_,hbw.setCell (Nat.le_refl _) _⟩
     rw[show L - (k+1)=m by omega,<-bQ.out]
     first | exact hbk.set k _ | (rw[hm'];exact hbk.set k _)
    case measure=>simp[intOf];omega
  ·obtain rfl:k=L:=by omega
   rw[Nat.sub_self,List.replicate_zero,List.append_nil] at hbk
   have hxl:=hL'.out
   have hsl:=zl3 hbk hsh.out.dig (by omega)
   obtain⟨u,ai,hr⟩:=zgk hsl
   rw[ae] at ai
   go_wp2_with (go_at_call 206;refine ai.mono ?_;rintro e w9 ⟨rfl,rfl⟩)
   go_ret
   exact⟨u,out,rfl,hsh.out,hr,hbw⟩
theorem zgl {w:World} {v:Value} {xs:List Int} (hx:Sl w v xs) (lx:xs.length<=274877906944) (t:Nat) (ht:t<=8796093022208):
  Calls Tryz.prog 316 #[v,.int .i64 t] w fun e w'=>∃r zs,e=.returned r/\Sl w' r zs/\Canon zs/\val zs=val xs / 2^t/\zs.length<=xs.length/\Below w.heap.size w w':=by
 obtain⟨dx,_,q,cap,rfl,aD,hxx⟩:=hx
 have ht2:(t:Int)=32*((t / 32:Nat):Int)+((t % 32:Nat):Int):=by omega
 have ep:(2:Int)^t=4294967296^(t / 32)*2^(t % 32):=by
  conv=>lhs;rw[<-Nat.div_add_mod t 32]
  rw[Int.pow_add,Int.pow_mul]
  rfl
 rw[ht2]
 by_cases hw:t / 32<xs.length
 ·rcases hxx with rfl | ⟨b,o,rfl,hb,hc⟩
  ·simp at hw
  ·refine(zka (t / 32) (t % 32) (by omega) hw aD dx lx hb hc).mono ?_
   rintro e w' ⟨u,out,rfl,hsh,hu,hbw⟩
   refine⟨u,trim out,rfl,hu,zal _,?_,?_,hbw⟩
   ·rw[zbp,hsh.done (zbg dx _) (by omega),zeh dx _ (by omega),ep,Int.ediv_ediv_of_nonneg (by have:=zav (t / 32);omega)]
   ·rw[zag]
    have:=zan out out.length
    have h2:=hsh.len
    rw[List.length_drop] at h2
    omega
 ·refine(zij (t / 32) (t % 32) (by omega) (by omega) (by omega) lx).mono ?_
  rintro e w' ⟨rfl,rfl⟩
  refine⟨_,[],rfl,Sl.nil _,zbh,?_,by simp,Below.refl _ _⟩
  have h1:=za4 dx
  have h0:=zae dx
  have h2:=zeb (by omega:xs.length<=t / 32)
  have hp:=zar (t % 32)
  have h3:(4294967296:Int)^(t / 32)*1<=4294967296^(t / 32)*2^(t % 32):=Int.mul_le_mul_of_nonneg_left (by omega) (by have:=zav (t / 32);omega)
  rw[ep,Int.ediv_eq_zero_of_lt h0 (by omega)]
  rfl
theorem zhf {w:World} {b o cap:Nat} {xs:List Int} (B:Int) (hB0:1<=B) (hB1:B<=4294967295) (dx:Dig xs) (lx:xs.length<=274877906944) (hb:b<w.heap.size)
  (hcx:∀i,i<xs.length->w.cell? ⟨b,o+i,none⟩=some (.int .u32 (xs.getD i 0))):
  Calls Tryz.prog 294 #[.slice (some ⟨b,o,none⟩) xs.length cap,.int .u32 B] w fun e w'=>∃r os rest,e=.returned (.tuple #[r,.int .u32 rest])/\Smb xs B 0 os rest/\Sl w' r (trim os)/\Below w.heap.size w w'/\∃n c cs fr,r=.slice (some ⟨w.heap.size,0,none⟩) n c/\w'.heap[w.heap.size]?=some (.cells cs 150 fr):=by
 obtain⟨i0,hi,hz0,hz1,hz2⟩:=info_parts (show(Tryz.prog.info? 150).map (fun i=>(i.zero,i.size,i.bytes))=some (some (.int .u32 0),1,4) by kernel_rfl)
 have cx':=zab hcx
 have dx':Hid (Dig xs):=dx
 clear hcx dx
 go_enter Tryz.func294,Tryz.ntmps294
 go_wp2_with (at_make;refine wpList_make_full _ rfl _ _ 22 rfl w.heap.size 150 i0 (.int .u32 0) 1 Tryz.underlying22 hi hz0 hz1 _ _ _ _ xs.length rfl rfl (by omega) (by omega) (by rw[hz2];omega) (by unfold maxLen;omega) (Nat.le_refl _) ?_)
 intro w1 az aC
 have aR:Blk w1 w.heap.size (List.replicate xs.length 0):=zb1 az
 have aw:Below w.heap.size w w1:=(Below.refl _ _).grown aC (Nat.le_refl _) (fun _ h=>by cases h)
 clear az aC hi hz0 hz1 hz2
 go_wp2
 go_loopw [7,8] (fun t7 i wr=>∃(k:Nat) (os:List Int) (r:Int),k<=xs.length/\i=.int .i64 ((k:Int) - 1)/\t7=.int .u64 r/\0<=r/\r<B/\Hid (Smb xs B k os r)/\Blk wr w.heap.size os/\Below w.heap.size w wr) (fun _ i _=>(intOf i+1).toNat)
 case atStart=>exact⟨xs.length,_,0,Nat.le_refl _,rfl,rfl,by omega,by omega,Smb.zero xs (by omega),aR,aw⟩
 case round=>
  clear aR aw
  obtain⟨k,os,r,hk,rfl,rfl,r0,r1,hsm,hbk,hbw⟩:=hrel
  match k,hk,hsm with
  | 0,hk,hsm=>
   have ae:=hsm.out.len
   have ai:=zhs w.heap.size 0 xs.length xs.length os wr (fun i hi=>by simpa using hbk.cell (by rw[ae];exact hi)) (Nat.le_refl _) (by omega)
   have hr:Hid (Sl wr (.slice (some ⟨w.heap.size,0,none⟩) (trimTo os xs.length) xs.length) (trim os)):=by
    have h1:=zag os
    have h2:=zan os xs.length
    rw[ae] at h1
    refine⟨zdf hsm.out.dig,by omega,some ⟨w.heap.size,0,none⟩,xs.length,by rw[h1],by omega,.inr ⟨w.heap.size,0,rfl,?_,fun i hi=>?_⟩⟩
    ·unfold Blk at hbk
     exact(Array.getElem?_eq_some_iff.1 hbk).1
    ·rw[zbe _ _ hi]
     simpa using hbk.cell (j:=i) (by rw[ae];omega)
   clear ae
   go_wp2_with (go_at_call 206;refine ai.mono ?_;rintro e w9 ⟨rfl,rfl⟩)
   go_ret2
   exact⟨_,os,r,rfl,hsm.out,hr.out,hbw,_,_,_,_,rfl,hbk⟩
  | k+1,hk,hsm=>
   have e1:((k+1:Nat):Int) - 1=(k:Int):=by omega
   rw[e1]
   have ae:=hsm.out.len
   have c1:wr.cell? ⟨b,o+k,none⟩=some (.int .u32 (xs.getD k 0)):=(hbw.cell (by exact hb)).trans (cx'.out k (by omega))
   have hfr:=hbk.frozen k
   have c2:wr.cell? ⟨w.heap.size,k,none⟩=some (.int .u32 (os.getD k 0)):=hbk.cell (by rw[ae];omega)
   generalize os.getD k 0=OK at c2
   have hxk:=dx'.out k
   have aa:=hsm.out.step (S:=r*4294967296+xs.getD k 0) (by omega) dx'.out rfl
   generalize hX:xs.getD k 0=X at c1 hxk aa
   have hor:=(or_hi ⟨r0,by omega⟩ hxk).1
   have hkl:(k:Int)<(xs.length:Int):=by omega
   obtain⟨S,hS⟩:∃S,r*4294967296+X=S:=⟨_,rfl⟩
   rw[hS] at hor aa
   have hS0:0<=S:=by omega
   have hS1:S<=18446744073709551615:=by omega
   have hd0:=Int.ediv_nonneg hS0 (by omega:0<=B)
   have hd1:S / B<4294967296:=Int.ediv_lt_of_lt_mul (by omega) (by omega)
   have hm0:=Int.emod_nonneg S (by omega:B≠0)
   have hm1:=Int.emod_lt_of_pos S (by omega:0<B)
   have aE:Hid (Smb xs B k (os.set k (S / B)) (S % B)):=aa
   clear aa ae hX e1 hS
   go_wp2
   go_roundw
   case rel=>
    exact⟨k,_,_,by omega,by go_num,rfl,hm0,hm1,aE,hbk.set _ _,hbw.setCell (p:=⟨w.heap.size,k,none⟩) (Nat.le_refl _) _⟩
   case measure=>simp[intOf]
theorem zei {w:World} {v:Value} {xs:List Int} (hx:Sl w v xs) (hne:xs≠[]) (lx:xs.length<=274877906944) (B:Int) (hB0:1<=B) (hB1:B<=4294967295):
  Calls Tryz.prog 294 #[v,.int .u32 B] w fun e w'=>∃r zs,e=.returned (.tuple #[r,.int .u32 (val xs % B)])/\Sl w' r zs/\Canon zs/\val zs=val xs / B/\Below w.heap.size w w'/\∃n c cs fr,r=.slice (some ⟨w.heap.size,0,none⟩) n c/\w'.heap[w.heap.size]?=some (.cells cs 150 fr):=by
 obtain⟨dx,_,q,cap,rfl,aD,hxx⟩:=hx
 rcases hxx with h | ⟨b,o,rfl,hb,hc⟩
 ·exact absurd h hne
 ·refine(zhf B hB0 hB1 dx lx hb hc).mono ?_
  rintro e w' ⟨r,os,rest,rfl,hsm,hr,hbw,am⟩
  have he:=hsm.eq
  have hr0:=hsm.r0
  simp only[List.drop_zero] at he
  have h1:val xs / B=val os:=by
   rw[he,Int.add_comm,Int.add_mul_ediv_left _ _ (by omega),Int.ediv_eq_zero_of_lt hr0.1 hr0.2,Int.zero_add]
  have h2:val xs % B=rest:=by
   rw[he,Int.add_comm,Int.add_mul_emod_self_left,Int.emod_eq_of_lt hr0.1 hr0.2]
  exact⟨r,trim os,by rw[h2],hr,zal _,by rw[zbp,h1],hbw,am⟩
theorem zik {w:World} {v:Value} {xs:List Int} (hx:Sl w v xs) (hne:xs≠[]) (lx:xs.length<=274877906944) (B:Int) (hB0:1<=B) (hB1:B<=4294967295):
  Calls Tryz.prog 294 #[v,.int .u32 B] w fun e w'=>∃r zs,e=.returned (.tuple #[r,.int .u32 (val xs % B)])/\Sl w' r zs/\Canon zs/\val zs=val xs / B/\Below w.heap.size w w':=
 (zei hx hne lx B hB0 hB1).mono fun _ _ ⟨r,zs,a,b,c,d,f,_⟩=>⟨r,zs,a,b,c,d,f⟩
end Go.Proofs.YtnnhofmknilopaaGreatDoor
