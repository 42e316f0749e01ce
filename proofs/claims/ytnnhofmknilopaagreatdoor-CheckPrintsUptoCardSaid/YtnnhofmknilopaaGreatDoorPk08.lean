import Derived.Lib.TrailingZeros
import Derived.Lib.BitFns
import Derived.Shelf.Small.Bits
import Derived.Laws.Bits64b
import Derived.Shelf.Spec.TrailingZeros
import Derived.Test.YtnnhofmknilopaaGreatDoorPk07
namespace Go.Proofs.YtnnhofmknilopaaGreatDoor
open Go Go.RowKit
theorem zjj {us:List Int} {m:Nat} (h:us.length=m+3):val us=val (us.take m)+((us.getD (m+2) 0*4294967296+us.getD (m+1) 0)*4294967296+us.getD m 0)*4294967296^m:=by
 have h1:=zat us m
 have h2:val us=val (us.take (m+1))+(us.getD (m+2) 0*4294967296+us.getD (m+1) 0)*4294967296^(m+1):=zcq (us:=us) (m:=m+1) h
 rw[h1,Int.pow_succ] at h2
 rw[h2,Int.add_mul _ (us.getD m 0),Int.mul_assoc _ 4294967296,Int.mul_comm (4294967296^m)]
 omega
structure Gs (us vs:List Int) (m:Nat) (G R:Int):Prop where
 ge:val us / val vs<=G
 g0:0<=G
 r0:0<=R
 eq:G*vs.getD (m+1) 0+R=us.getD (m+2) 0*4294967296+us.getD (m+1) 0
theorem Gs.zero {us vs:List Int} {m:Nat} (du:Dig us) (dv:Dig vs) (hu:us.length=m+3) (hv:vs.length=m+2) (ht:0<vs.getD (m+1) 0):
  Gs us vs m ((us.getD (m+2) 0*4294967296+us.getD (m+1) 0) / vs.getD (m+1) 0) ((us.getD (m+2) 0*4294967296+us.getD (m+1) 0) % vs.getD (m+1) 0):=by
 have h1:=du (m+2)
 have h2:=du (m+1)
 refine⟨zmt du dv hu hv ht,Int.ediv_nonneg (by omega) (by omega),Int.emod_nonneg _ (by omega),?_⟩
 generalize us.getD (m+2) 0*4294967296+us.getD (m+1) 0=top
 generalize vs.getD (m+1) 0=d1
 have:=Int.emod_add_mul_ediv top d1
 rw[Int.mul_comm (top / d1)]
 omega
theorem zes {vs:List Int} {m:Nat} (dv:Dig vs) (hv:vs.length=m+2) (ht:0<vs.getD (m+1) 0):0<val vs:=by
 have h1:=zbb (vs:=vs) (m:=m+1) hv
 have h2:=zae (zao dv (m+1))
 have h3:=Int.mul_pos ht (zav (m+1))
 omega
theorem Gs.down {us vs:List Int} {m:Nat} {G R:Int} (h:Gs us vs m G R) (du:Dig us) (dv:Dig vs) (hu:us.length=m+3) (hv:vs.length=m+2) (ht:0<vs.getD (m+1) 0) (hq:val us<val vs*4294967296)
  (hgt:4294967296<=G\/R*4294967296+us.getD m 0<G*vs.getD m 0):Gs us vs m (G - 1) (R+vs.getD (m+1) 0)/\1<=G:=by
 have vp:=zes dv hv ht
 have u0:=zae du
 have q0:0<=val us / val vs:=Int.ediv_nonneg u0 (by omega)
 have hlt:val us / val vs<=G - 1:=by
  rcases hgt with hgt | hgt
  ·have:val us / val vs<4294967296:=Int.ediv_lt_of_lt_mul vp (by rwa [Int.mul_comm] at hq)
   omega
  ·have e1:=zjj hu
   have e2:=zcq (us:=vs) (m:=m) hv
   have l1:=za4 (zao du m)
   have l2:=zae (zao dv m)
   rw[List.length_take,Nat.min_eq_left (by omega)] at l1
   have he:=h.eq
   have hg:=h.g0
   have hp:=zav m
   generalize us.getD (m+2) 0*4294967296+us.getD (m+1) 0=top at*
   generalize us.getD m 0=w0 at*
   generalize vs.getD (m+1) 0=d1 at*
   generalize vs.getD m 0=v2 at*
   generalize (4294967296:Int)^m=p at*
   have h1:top*4294967296+w0+1<=G*(d1*4294967296+v2):=by
    rw[Int.mul_add,<-Int.mul_assoc,<-he]
    omega
   have h2:(top*4294967296+w0+1)*p<=G*(d1*4294967296+v2)*p:=Int.mul_le_mul_of_nonneg_right h1 (by omega)
   rw[Int.add_mul _ 1 p,Int.one_mul] at h2
   have h3:G*(d1*4294967296+v2)*p<=G*val vs:=by
    rw[e2,Int.mul_add G (val (vs.take m)),Int.mul_assoc G]
    have:=Int.mul_nonneg hg l2
    omega
   have h4:val us<G*val vs:=by omega
   have:=Int.ediv_lt_of_lt_mul vp h4
   omega
 refine⟨⟨hlt,by omega,by have:=h.r0;omega,?_⟩,by omega⟩
 rw[<-h.eq,Int.sub_mul]
 omega
theorem Gs.good {us vs:List Int} {m:Nat} {G R:Int} (h:Gs us vs m G R) (du:Dig us) (dv:Dig vs) (hu:us.length=m+3) (hv:vs.length=m+2) (ht:0<vs.getD (m+1) 0)
  (h1:G<4294967296) (h2:G*vs.getD m 0<=R*4294967296+us.getD m 0):G<=val us / val vs+1:=by
 have vp:=zes dv hv ht
 have e1:=zjj hu
 have e2:=zcq (us:=vs) (m:=m) hv
 have l1:=zae (zao du m)
 have l2:=zae (zao dv m)
 have l3:=za4 (zao dv m)
 rw[List.length_take,Nat.min_eq_left (by omega)] at l3
 have he:=h.eq
 have hg:=h.g0
 have hp:=zav m
 have dv2:=dv m
 have hdm:=Int.emod_add_mul_ediv (val us) (val vs)
 have hml:=Int.emod_lt_of_pos (val us) vp
 generalize us.getD (m+2) 0*4294967296+us.getD (m+1) 0=top at*
 generalize us.getD m 0=w0 at*
 generalize vs.getD (m+1) 0=d1 at*
 generalize vs.getD m 0=v2 at*
 generalize (4294967296:Int)^m=p at*
 have h3:G*(d1*4294967296+v2)<=top*4294967296+w0:=by
  rw[Int.mul_add,<-Int.mul_assoc,<-he]
  omega
 have h4:G*(d1*4294967296+v2)*p<=(top*4294967296+w0)*p:=Int.mul_le_mul_of_nonneg_right h3 (by omega)
 have h5:G*val (vs.take m)<=4294967295*val (vs.take m):=Int.mul_le_mul_of_nonneg_right (by omega) l2
 have h6:1*(4294967296*p)<=d1*(4294967296*p):=Int.mul_le_mul_of_nonneg_right (by omega) (by omega)
 have h7:0<=v2*p:=Int.mul_nonneg dv2.1 (by omega)
 have h8:d1*(4294967296*p)+v2*p<=val vs:=by
  rw[e2,Int.add_mul,Int.mul_assoc]
  omega
 have h9:G*val vs=G*val (vs.take m)+G*(d1*4294967296+v2)*p:=by rw[e2,Int.mul_add,Int.mul_assoc]
 have h10:G*val vs<val us+val vs:=by omega
 rcases (by omega:G<=val us / val vs+1\/val us / val vs+2<=G) with h | h
 ·exact h
 ·exfalso
  have:=Int.mul_le_mul_of_nonneg_right h (by omega:0<=val vs)
  rw[Int.add_mul,Int.mul_comm (val us / val vs)] at this
  omega
theorem Gs.big {us vs:List Int} {m:Nat} {G R:Int} (h:Gs us vs m G R) (du:Dig us) (dv:Dig vs) (hu:us.length=m+3) (hv:vs.length=m+2) (ht:0<vs.getD (m+1) 0) (hq:val us<val vs*4294967296)
  (hR:4294967296<=R):G<4294967296/\G*vs.getD m 0<=R*4294967296+us.getD m 0:=by
 have e1:val us=val (us.take (m+1))+(us.getD (m+2) 0*4294967296+us.getD (m+1) 0)*4294967296^(m+1):=zcq (us:=us) (m:=m+1) hu
 have e2:=zbb (vs:=vs) (m:=m+1) hv
 have l1:=zae (zao du (m+1))
 have l3:=za4 (zao dv (m+1))
 rw[List.length_take,Nat.min_eq_left (by omega)] at l3
 have he:=h.eq
 have hg:=h.g0
 have hp:=zav (m+1)
 have dv2:=dv m
 have du0:=du m
 generalize us.getD (m+2) 0*4294967296+us.getD (m+1) 0=top at*
 generalize vs.getD (m+1) 0=d1 at*
 generalize vs.getD m 0=v2 at*
 generalize us.getD m 0=w0 at*
 generalize (4294967296:Int)^(m+1)=p at*
 have h1:top*p<(d1+1)*4294967296*p:=by
  rw[Int.mul_assoc,Int.mul_comm 4294967296 p,<-Int.mul_assoc,Int.add_mul,Int.one_mul]
  omega
 have h2:top<(d1+1)*4294967296:=Int.lt_of_mul_lt_mul_right h1 (by omega)
 have h3:G<4294967296:=by
  rcases (by omega:G<4294967296\/4294967296<=G) with h | h
  ·exact h
  ·exfalso
   have:=Int.mul_le_mul_of_nonneg_right h (by omega:0<=d1)
   omega
 have h4:=zdc (a:=G) (b:=v2) ⟨hg,by omega⟩ dv2
 exact⟨h3,by omega⟩
structure Mb (us vs:List Int) (g:Int) (i:Nat) (cur:List Int) (c b:Int):Prop where
 len:cur.length=us.length
 dig:Dig cur
 c0:0<=c/\c<=4294967295
 b0:b=0\/b=1
 eq:val (cur.take i) - (c+b)*4294967296^i=val (us.take i) - g*val (vs.take i)
 rest:∀k,i<=k->cur.getD k 0=us.getD k 0
theorem Mb.zero {us vs:List Int} {g:Int} (h:Dig us):Mb us vs g 0 us 0 0:=⟨rfl,h,by omega,.inl rfl,by simp[val],fun _ _=>rfl⟩
theorem zfd {g w c:Int} (hg:0<=g/\g<=4294967295) (hw:0<=w/\w<=4294967295) (hc:0<=c/\c<=4294967295):0<=g*w+c/\g*w+c<=18446744069414584320:=by
 have h1:=zdc hg hw
 omega
theorem Mb.step {us vs cur:List Int} {g c b S T:Int} {i:Nat} (h:Mb us vs g i cur c b) (du:Dig us) (dv:Dig vs) (hg:0<=g/\g<=4294967295) (hi:i<us.length) (hS:S=g*vs.getD i 0+c) (hT:T=us.getD i 0 - S % 4294967296 - b):
  Mb us vs g (i+1) (cur.set i (T % 4294967296)) (S / 4294967296) (if T<0 then 1 else 0):=by
 have hb:=zfd hg (dv i) h.c0
 rw[<-hS] at hb
 have hu:=du i
 have ho:=h.b0
 refine⟨by simp[h.len],zdy h.dig (by omega),by omega,by split<;>simp,?_,fun k hk=>?_⟩
 ·have he:=h.eq
  rw[zat,zat us,zat vs,za8,za3 (by rw[h.len];exact hi),Int.pow_succ]
  have hTm:T % 4294967296=T+(if T<0 then 1 else 0)*4294967296:=by split<;>omega
  have hSm:S=S % 4294967296+S / 4294967296*4294967296:=by omega
  have hgw:g*vs.getD i 0=S - c:=by omega
  generalize hB:(if T<0 then(1:Int) else 0)=B at*
  rw[hTm,Int.mul_add g,<-Int.mul_assoc g,hgw]
  generalize (4294967296:Int)^i=p at*
  have e1:(T+B*4294967296)*p=us.getD i 0*p - S % 4294967296*p - b*p+B*(p*4294967296):=by
   rw[hT,Int.add_mul,Int.sub_mul,Int.sub_mul,Int.mul_assoc B,Int.mul_comm 4294967296 p]
  have e2:(S / 4294967296+B)*(p*4294967296)=S / 4294967296*(p*4294967296)+B*(p*4294967296):=by rw[Int.add_mul]
  have e3:(S - c)*p=S % 4294967296*p+S / 4294967296*(p*4294967296) - c*p:=by
   conv=>lhs;rw[hSm]
   rw[Int.sub_mul,Int.add_mul,Int.mul_assoc,Int.mul_comm 4294967296 p]
  rw[Int.add_mul] at he
  omega
 ·rw[getD_set_ne (by omega)]
  exact h.rest k (by omega)
theorem Mb.last {us vs cur:List Int} {g c b T:Int} {n:Nat} (h:Mb us vs g n cur c b) (du:Dig us) (hu:us.length=n+1) (hv:vs.length=n) (hT:T=us.getD n 0 - c - b):
  (cur.set n (T % 4294967296)).length=n+1/\Dig (cur.set n (T % 4294967296))/\val (cur.set n (T % 4294967296))=val us - g*val vs+(if T<0 then 4294967296^(n+1) else 0):=by
 have h1:=h.len
 have h2:=h.eq
 have h3:=h.c0
 have h4:=h.b0
 have h5:=du n
 refine⟨by simp;omega,zdy h.dig (by omega),?_⟩
 have e1:=zbb (vs:=cur.set n (T % 4294967296)) (m:=n) (by simp;omega)
 have e2:=zbb (vs:=us) (m:=n) hu
 rw[za8,za3 (by omega)] at e1
 rw[List.take_of_length_le (by omega:vs.length<=n)] at h2
 have hTm:T % 4294967296=T+(if T<0 then 4294967296 else 0):=by split<;>omega
 rw[e1,e2,hTm,Int.pow_succ]
 generalize (4294967296:Int)^n=p at*
 have e3:T*p=us.getD n 0*p - (c+b)*p:=by rw[hT,Int.sub_sub,Int.sub_mul]
 split
 ·rw[Int.add_mul,e3,Int.mul_comm p]
  omega
 ·rw[Int.add_zero,e3]
  omega
structure Ab (c0 vs:List Int) (i:Nat) (cur:List Int) (c:Int):Prop where
 len:cur.length=c0.length
 dig:Dig cur
 c01:c=0\/c=1
 eq:val (cur.take i)+c*4294967296^i=val (c0.take i)+val (vs.take i)
 rest:∀k,i<=k->cur.getD k 0=c0.getD k 0
theorem Ab.zero {c0 vs:List Int} (h:Dig c0):Ab c0 vs 0 c0 0:=⟨rfl,h,.inl rfl,by simp[val],fun _ _=>rfl⟩
theorem Ab.step {c0 vs cur:List Int} {c S:Int} {i:Nat} (h:Ab c0 vs i cur c) (du:Dig c0) (dv:Dig vs) (hi:i<c0.length) (hS:S=c0.getD i 0+vs.getD i 0+c):
  Ab c0 vs (i+1) (cur.set i (S % 4294967296)) (S / 4294967296):=by
 have hu:=du i
 have hv:=dv i
 have ho:=h.c01
 refine⟨by simp[h.len],zdy h.dig (by omega),by omega,?_,fun k hk=>?_⟩
 ·have he:=h.eq
  rw[zat,zat c0,zat vs,za8,za3 (by rw[h.len];exact hi),Int.pow_succ]
  generalize (4294967296:Int)^i=p at*
  have e1:S*p=S % 4294967296*p+S / 4294967296*(p*4294967296):=by
   have h1:S=S % 4294967296+4294967296*(S / 4294967296):=by omega
   calc S*p=(S % 4294967296+4294967296*(S / 4294967296))*p:=by rw[<-h1]
    _=_:=by rw[Int.add_mul,Int.mul_comm 4294967296,Int.mul_assoc,Int.mul_comm 4294967296 p]
  have e2:S*p=c0.getD i 0*p+vs.getD i 0*p+c*p:=by rw[hS,Int.add_mul,Int.add_mul]
  omega
 ·rw[getD_set_ne (by omega)]
  exact h.rest k (by omega)
theorem Ab.last {c0 vs cur:List Int} {c R:Int} {n:Nat} (h:Ab c0 vs n cur c) (du:Dig c0) (dv:Dig vs) (hu:c0.length=n+1) (hv:vs.length=n) (hR:val c0+val vs=R+4294967296^(n+1)) (hR0:0<=R) (_hR1:R<val vs):
  (cur.set n ((c0.getD n 0+c) % 4294967296)).length=n+1/\Dig (cur.set n ((c0.getD n 0+c) % 4294967296))/\val (cur.set n ((c0.getD n 0+c) % 4294967296))=R:=by
 have h1:=h.len
 have h2:=h.eq
 have h4:=h.c01
 have h5:=du n
 have hd:Dig (cur.set n ((c0.getD n 0+c) % 4294967296)):=zdy h.dig (by omega)
 refine⟨by simp;omega,hd,?_⟩
 have e1:=zbb (vs:=cur.set n ((c0.getD n 0+c) % 4294967296)) (m:=n) (by simp;omega)
 have e2:=zbb (vs:=c0) (m:=n) hu
 rw[za8,za3 (by omega)] at e1
 rw[List.take_of_length_le (by omega:vs.length<=n)] at h2
 have b1:=za4 hd
 have b0:=zae hd
 have b2:=za4 dv
 rw[show (cur.set n ((c0.getD n 0+c) % 4294967296)).length=n+1 by simp;omega] at b1
 rw[hv] at b2
 generalize val (cur.set n ((c0.getD n 0+c) % 4294967296))=V at*
 rw[Int.pow_succ] at*
 generalize (4294967296:Int)^n=p at*
 rcases (by omega:c0.getD n 0+c<4294967296\/c0.getD n 0+c=4294967296) with hc | hc
 ·exfalso
  have hm:(c0.getD n 0+c) % 4294967296=c0.getD n 0+c:=by omega
  rw[hm,Int.add_mul] at e1
  omega
 ·have hm:(c0.getD n 0+c) % 4294967296=0:=by omega
  have h6:(c0.getD n 0+c)*p=p*4294967296:=by rw[hc,Int.mul_comm]
  rw[Int.add_mul] at h6
  rw[hm,Int.zero_mul] at e1
  omega
theorem gcdI_two {a b:Int} (k:Nat) (ha:0<=a) (hb:0<=b):gcdI (2^k*a) (2^k*b)=2^k*gcdI a b:=by
 obtain⟨A,rfl⟩:=Int.eq_ofNat_of_zero_le ha
 obtain⟨B,rfl⟩:=Int.eq_ofNat_of_zero_le hb
 unfold gcdI
 rw[show (2:Int)^k*(A:Int)=((2^k*A:Nat):Int) by simp,show(2:Int)^k*(B:Int)=((2^k*B:Nat):Int) by simp]
 rw[Int.toNat_natCast,Int.toNat_natCast,Int.toNat_natCast,Int.toNat_natCast,Nat.gcd_mul_left]
 simp
theorem ziu (m j:Nat):Nat.gcd (2*m+1) (2^j)=1:=by
 have h2:Nat.gcd (2*m+1) 2=1:=by
  rw[Nat.gcd_comm,Nat.gcd_rec]
  simp[Nat.add_mod]
 exact Nat.Coprime.pow_right j h2
theorem gcdI_pow {X':Int} {j:Nat} (h0:0<=X') (h:j=0\/∃m:Nat,X'=2*m+1):gcdI X' (2^j)=1:=by
 rcases h with rfl | ⟨m,rfl⟩
 ·unfold gcdI
  simp
 ·unfold gcdI
  rw[show (2:Int)^j=((2^j:Nat):Int) by simp,show(2:Int)*(m:Int)+1=((2*m+1:Nat):Int) by simp,Int.toNat_natCast,Int.toNat_natCast,ziu]
  rfl
def TwosIs (x:Int) (t:Nat):Prop:=∃m:Nat,x=2^t*(2*m+1)
theorem TwosIs.pos {x:Int} {t:Nat} (h:TwosIs x t):0<x:=by
 obtain⟨m,rfl⟩:=h
 exact Int.mul_pos (zar t) (by omega)
theorem TwosIs.div {x:Int} {t k:Nat} (h:TwosIs x t) (hk:k<=t):x=2^k*(x / 2^k)/\TwosIs (x / 2^k) (t - k):=by
 obtain⟨m,rfl⟩:=h
 obtain⟨d,rfl⟩:∃d,t=k+d:=⟨t - k,by omega⟩
 have hp:=zar k
 have e:(2:Int)^(k+d)*(2*(m:Int)+1)=2^k*(2^d*(2*(m:Int)+1)):=by rw[Int.pow_add,Int.mul_assoc]
 rw[e,Int.mul_ediv_cancel_left _ (by omega)]
 exact⟨rfl,m,by rw[Nat.add_sub_cancel_left]⟩
theorem TwosIs.unique {x:Int} {s t:Nat} (h:TwosIs x s) (h':TwosIs x t):s=t:=by
 have key:∀{s t:Nat} {a b:Nat},s<t->(2:Int)^s*(2*(a:Int)+1)=2^t*(2*(b:Int)+1)->False:=by
  intro s t a b hst he
  obtain⟨d,rfl⟩:∃d,t=s+(d+1):=⟨t - s - 1,by omega⟩
  have hp:=zar s
  rw[Int.pow_add,Int.mul_assoc] at he
  have h2:=Int.eq_of_mul_eq_mul_left (by omega) he
  rw[Int.pow_succ,Int.mul_assoc,Int.mul_comm (2^d),Int.mul_assoc] at h2
  omega
 obtain⟨a,ha⟩:=h
 obtain⟨b,hb⟩:=h'
 rcases Nat.lt_trichotomy s t with h | h | h
 ·exact(key h (ha.symm.trans hb)).elim
 ·exact h
 ·exact(key h (hb.symm.trans ha)).elim
theorem TwosIs.pow {x:Int} {t:Nat} (h:TwosIs x t) (hx:x<2^(t+1)):x=2^t:=by
 obtain⟨m,rfl⟩:=h
 have hp:=zar t
 rw[Int.pow_succ] at hx
 have hm:m=0:=by
  rcases (by omega:m=0\/1<=m) with h | h
  ·exact h
  ·exfalso
   have:=Int.mul_le_mul_of_nonneg_left (by omega:(2:Int)<=2*(m:Int)+1) (by omega:(0:Int)<=2^t)
   omega
 subst hm
 simp
theorem gcdI_dvd {a b:Int} (ha:0<=a) (hb:0<=b):(∃p:Int,a=gcdI a b*p)/\∃p:Int,b=gcdI a b*p:=by
 obtain⟨A,rfl⟩:=Int.eq_ofNat_of_zero_le ha
 obtain⟨B,rfl⟩:=Int.eq_ofNat_of_zero_le hb
 unfold gcdI
 rw[Int.toNat_natCast,Int.toNat_natCast]
 obtain⟨p,hp⟩:=Nat.gcd_dvd_left A B
 obtain⟨r,hr⟩:=Nat.gcd_dvd_right A B
 refine⟨⟨p,?_⟩,r,?_⟩
 ·conv=>lhs;rw[hp]
  simp
 ·conv=>lhs;rw[hr]
  simp
theorem ziv {X Y:Int} {k:Nat} (hX:0<X) (hY:0<Y) (ex:X=2^k*(X / 2^k)) (ey:Y=2^k*(Y / 2^k)):
  X / gcdI X Y=X / 2^k / gcdI (X / 2^k) (Y / 2^k)/\Y / gcdI X Y=Y / 2^k / gcdI (X / 2^k) (Y / 2^k)/\0<X / 2^k/\0<Y / 2^k:=by
 have hp:=zar k
 have h1:0<X / 2^k:=by
  rcases (by omega:0<X / 2^k\/X / 2^k<=0) with h | h
  ·exact h
  ·have:=Int.mul_nonpos_of_nonneg_of_nonpos (by omega:(0:Int)<=2^k) h
   omega
 have h2:0<Y / 2^k:=by
  rcases (by omega:0<Y / 2^k\/Y / 2^k<=0) with h | h
  ·exact h
  ·have:=Int.mul_nonpos_of_nonneg_of_nonpos (by omega:(0:Int)<=2^k) h
   omega
 generalize X / 2^k=a at*
 generalize Y / 2^k=b at*
 subst ex ey
 rw[gcdI_two k (by omega) (by omega),Int.mul_ediv_mul_of_pos _ _ hp,Int.mul_ediv_mul_of_pos _ _ hp]
 exact⟨rfl,rfl,h1,h2⟩
end Go.Proofs.YtnnhofmknilopaaGreatDoor
namespace Go.Proofs.YtnnhofmknilopaaGreatDoor
open Go Go.RowKit Go.Shelf
set_option maxRecDepth 100000
set_option maxHeartbeats 16000000
theorem zfe:∀(x:Nat),x≠0->x<2^64->2^(Lib.bitLen x - 1)<=x/\x<2^Lib.bitLen x/\1<=Lib.bitLen x:=by
 intro x
 induction x using Nat.strongRecOn with
 | ind x ih=>
  intro h0 h
  rw[Lib.bitLen_half x h0 h]
  by_cases h1:x=1
  ·subst h1
   decide
  ·obtain⟨a,b,c⟩:=ih (x / 2) (by omega) (by omega) (by omega)
   obtain⟨d,hd⟩:∃d,Lib.bitLen (x / 2)=d+1:=⟨Lib.bitLen (x / 2) - 1,by omega⟩
   rw[hd] at a b ⊢
   rw[Nat.add_sub_cancel] at a
   rw[show 1+(d+1) - 1=d+1 by omega,show 1+(d+1)=d+1+1 by omega]
   simp only[Nat.pow_succ] at b ⊢
   omega
def lays128_ren:Go.Shelf.Ren:=⟨fun | 128=>400 | n=>n,fun | 51=>150 | 3=>3 | 4=>4 | 46=>252 | 5=>5 | 9=>9 | n=>n,fun | n=>n⟩
theorem lays128:Go.Proofs.Lays.n128 Tryz.prog lays128_ren:={
 mixed:=by kernel_rfl
 f128:=Tryz.func400.trans (congrArg some (by kernel_rfl))
 t3:=Tryz.underlying3
 a3:=Tryz.isAgg3
 z3:=Tryz.sizeOf3
 v3:=Tryz.zeroValue3
 t4:=Tryz.underlying4
 a4:=Tryz.isAgg4
 z4:=Tryz.sizeOf4
 v4:=Tryz.zeroValue4
 t5:=Tryz.underlying5
 a5:=Tryz.isAgg5
 z5:=Tryz.sizeOf5
 v5:=Tryz.zeroValue5
 t9:=Tryz.underlying9
 a9:=Tryz.isAgg9
 z9:=Tryz.sizeOf9
 v9:=Tryz.zeroValue9
 t46:=Tryz.underlying252
 a46:=Tryz.isAgg252
 z46:=Tryz.sizeOf252
 v46:=Tryz.zeroValue252
 t51:=Tryz.underlying150
 a51:=Tryz.isAgg150
 z51:=Tryz.sizeOf150
 v51:=Tryz.zeroValue150 }
def lays133_ren:Go.Shelf.Ren:=⟨fun | 133=>401 | 128=>400 | n=>n,fun | 51=>150 | 3=>3 | 4=>4 | 46=>252 | 5=>5 | 9=>9 | n=>n,fun | n=>n⟩
theorem lays133:Go.Proofs.Lays.n133 Tryz.prog lays133_ren:={
 mixed:=by kernel_rfl
 f128:=Tryz.func400.trans (congrArg some (by kernel_rfl))
 f133:=Tryz.func401.trans (congrArg some (by kernel_rfl))
 t3:=Tryz.underlying3
 a3:=Tryz.isAgg3
 z3:=Tryz.sizeOf3
 v3:=Tryz.zeroValue3
 t4:=Tryz.underlying4
 a4:=Tryz.isAgg4
 z4:=Tryz.sizeOf4
 v4:=Tryz.zeroValue4
 t5:=Tryz.underlying5
 a5:=Tryz.isAgg5
 z5:=Tryz.sizeOf5
 v5:=Tryz.zeroValue5
 t9:=Tryz.underlying9
 a9:=Tryz.isAgg9
 z9:=Tryz.sizeOf9
 v9:=Tryz.zeroValue9
 t46:=Tryz.underlying252
 a46:=Tryz.isAgg252
 z46:=Tryz.sizeOf252
 v46:=Tryz.zeroValue252
 t51:=Tryz.underlying150
 a51:=Tryz.isAgg150
 z51:=Tryz.sizeOf150
 v51:=Tryz.zeroValue150 }
theorem len32_ok (x:Int) (w:World) (h0:0<=x) (h1:x<=4294967295):
 Calls Tryz.prog 400 #[.int .u32 x] w fun e w'=>e=.returned (.int .i64 (Lib.bitLen x.toNat))/\w'=w:=Any.bits_Len32 lays128 x w h0 h1
theorem zff (x:Int) (h0:0<=x) (h1:x<=4294967295):Lib.bitLen x.toNat<=32:=Lib.bitLen_le x.toNat 32 (by omega) (by omega)
theorem zm1 (x:Int) (w:World) (h0:0<=x) (h1:x<=4294967295):
 Calls Tryz.prog 401 #[.int .u32 x] w fun e w'=>e=.returned (.int .i64 (32 - (Lib.bitLen x.toNat:Int)))/\w'=w:=Any.bits_LeadingZeros32 lays133 x w h0 h1
structure Tb (w:World):Prop where
 lt:2<w.heap.size
 at_:∀j,j<32->w.cell? ⟨2,j,none⟩=some (.int .u8 (Lib.deBruijn32tab.getD j 0))
theorem Tb.below {w w':World} (h:Tb w) (hb:Below w.heap.size w w'):Tb w':=
 ⟨Nat.lt_of_lt_of_le h.lt hb.size,fun j hj=>(hb.cell (by exact h.lt)).trans (h.at_ j hj)⟩
theorem zm2 (x k idx:Nat) (w:World) (hx0:((x:Int)==0)=false)
  (key:bits BinOp.and IntKind.u32 (x:Int) (-(x:Int) % 4294967296)*125613361 % 4294967296 / 134217728=(idx:Int))
  (hi:idx<32) (hk:k<32) (aj:w.cell? ⟨2,idx,none⟩=some (.int .u8 k)):
  Calls Tryz.prog 399 #[.int .u32 x] w fun e w'=>e=.returned (.int .i64 k)/\w'=w:=by
 go_enter Tryz.func399,Tryz.ntmps399
 go_wp2_with (simp only[key])
 go_ret
 exact⟨rfl,rfl⟩
theorem tz32_ok (x:Int) (w:World) (h0:0<x) (h1:x<=4294967295) (hT:Tb w):
  Calls Tryz.prog 399 #[.int .u32 x] w fun e w'=>∃t:Nat,e=.returned (.int .i64 t)/\TwosIs x t/\t<=31/\w'=w:=by
 obtain⟨n,rfl⟩:=Int.eq_ofNat_of_zero_le (by omega:0<=x)
 have hn:n≠0:=by omega
 obtain⟨jD,hk⟩:=Lib.lowest_bit 32 n hn (by omega)
 obtain⟨hi,dU⟩:=Lib.deBruijn32_at _ hk
 have aj:=hT.at_ _ hi
 rw[dU] at aj
 obtain⟨m,hm,_⟩:=Lib.ctzFrom_spec 32 n (by omega) (by omega)
 refine(zm2 n _ _ w (by simp;omega) (tz32_key n _ (by omega) hn jD) hi hk aj).mono ?_
 rintro e w' ⟨rfl,rfl⟩
 refine⟨_,rfl,⟨m,?_⟩,by omega,rfl⟩
 have hc:Lib.ctz 32 n=Lib.ctzFrom 32 n:=by simp[Lib.ctz,hn]
 rw[hc]
 conv=>lhs;rw[hm]
 simp
end Go.Proofs.YtnnhofmknilopaaGreatDoor
namespace Go.Proofs.YtnnhofmknilopaaGreatDoor
open Go Go.RowKit
set_option maxRecDepth 100000
def lenOf (v:Value):Nat:=match v with | .slice _ n _=>n | _=>0
theorem zhs (b o len cap:Nat) (xs:List Int) (w:World) (hc:∀i,i<len->w.cell? ⟨b,o+i,none⟩=some (.int .u32 (xs.getD i 0))) (hm:len<=cap) (hm2:len<=1099511627776):
  Calls Tryz.prog 206 #[.slice (some ⟨b,o,none⟩) len cap] w fun e w'=>e=.returned (.slice (some ⟨b,o,none⟩) (trimTo xs len) cap)/\w'=w:=by
 go_enter Tryz.func206,Tryz.ntmps206
 go_wp2
 go_loop [0] (fun l=>∃k:Nat,k<=len/\l=.slice (some ⟨b,o,none⟩) k cap/\trimTo xs k=trimTo xs len) (fun l=>lenOf l)
 case atStart=>exact⟨len,Nat.le_refl _,rfl,rfl⟩
 case round=>
  obtain⟨k,hk,rfl,ht⟩:=hrel
  have aL:Hid (trimTo xs k=trimTo xs len):=ht
  clear ht
  match k,hk,aL with
  | 0,hk,aL=>
   go_wp2
   go_ret
   have h0:trimTo xs len=0:=aL.out.symm
   refine⟨?_,rfl⟩
   simp[h0]
  | k+1,hk,aL=>
   have hck:w.cell? ⟨b,o+k,none⟩=some (.int .u32 (xs.getD k 0)):=hc k (by omega)
   generalize hX:xs.getD k 0=X at hck
   go_wp2
   ·go_round
    case rel=>
     have h0':(X==0)=true:=by assumption
     have h0:X=0:=by simpa using h0'
     refine⟨k,by omega,by go_num,?_⟩
     rw[<-aL.out]
     simp only[trimTo,hX,h0,if_true]
    case measure=>simp[lenOf]
   ·go_ret
    have h0':(X==0)=false:=by assumption
    have h0:¬X=0:=by simpa using h0'
    refine⟨?_,rfl⟩
    rw[<-aL.out]
    simp only[trimTo,hX,if_neg h0]
    rfl
theorem zm3 (q:Option Addr) (cap:Nat) (w:World):Calls Tryz.prog 206 #[.slice q 0 cap] w fun e w'=>e=.returned (.slice q 0 cap)/\w'=w:=by
 go_enter Tryz.func206,Tryz.ntmps206
 go_wp2
 refine wp_loop_once ?_
 go_wp2
 go_ret
 exact⟨rfl,rfl⟩
theorem zfg {w:World} {v:Value} {xs:List Int} (h:Sl w v xs):∃u,Sl w u (trim xs)/\∀w1,Below w.heap.size w w1->Calls Tryz.prog 206 #[v] w1 fun e w'=>e=.returned u/\w'=w1:=by
 obtain⟨h1,h2,q,cap,rfl,h4,h5⟩:=h
 have hl:=zan xs xs.length
 rcases h5 with rfl | ⟨b,o,rfl,hlt,hc⟩
 ·exact⟨.slice q 0 cap,⟨h1,by simp[trim],q,cap,rfl,by simp[trim],.inl rfl⟩,fun w1 _=>zm3 q cap w1⟩
 ·refine⟨.slice (some ⟨b,o,none⟩) (trimTo xs xs.length) cap,⟨zdf h1,by rw[zag];omega,_,cap,by rw[zag],by rw[zag];omega,.inr ⟨b,o,rfl,hlt,fun i hi=>?_⟩⟩,
   fun w1 hb=>zhs b o xs.length cap xs w1 (fun i hi=>(hb.cell (by exact hlt)).trans (hc i hi)) h4 (by omega)⟩
  rw[zbe xs i hi]
  exact hc i (by rw[zag] at hi;omega)
theorem Sl.form {w:World} {v:Value} {xs:List Int} (h:Sl w v xs):∃q cap,v=.slice q xs.length cap:=by
 obtain⟨_,_,q,cap,rfl,_⟩:=h
 exact⟨q,cap,rfl⟩
theorem Sl.nil (w:World):Sl w (.slice none 0 0) []:=⟨fun j=>by simp[List.getD],by simp,none,0,rfl,Nat.le_refl _,.inl rfl⟩
theorem zbh:Canon []:=fun m hm=>by simp at hm
theorem zbi (q:Option Addr) (n cap:Nat) (w:World):Calls Tryz.prog 207 #[.slice q n cap] w fun e w'=>e=.returned (.bool (decide (n=0)))/\w'=w:=by
 go_enter Tryz.func207,Tryz.ntmps207
 go_wp2
 go_ret
 refine⟨?_,rfl⟩
 congr 2
 by_cases h:n=0
 ·subst h;rfl
 ·simp[h]
def smallW (x:Int):List Int:=trim [x % 4294967296,x / 4294967296]
theorem zfh {x:Int} (h0:0<=x) (h1:x<=18446744073709551615):Dig (smallW x)/\Canon (smallW x)/\val (smallW x)=x/\(smallW x).length<=2:=by
 have hd:Dig [x % 4294967296,x / 4294967296]:=fun j=>by
  match j with
  | 0=>simp;omega
  | 1=>simp;omega
  | j+2=>simp
 refine⟨zdf hd,zal _,?_,?_⟩
 ·unfold smallW
  rw[zbp]
  simp[val]
  omega
 ·unfold smallW
  rw[zag]
  exact zan _ _
theorem zed (w:World) (x:Int) (h0:0<=x) (h1:x<=18446744073709551615):
  Calls Tryz.prog 208 #[.int .u64 x] w fun e w'=>∃r,e=.returned r/\Sl w' r (smallW x)/\Below w.heap.size w w':=by
 have hd:Dig [x % 4294967296,x / 4294967296]:=fun j=>by
  match j with
  | 0=>simp;omega
  | 1=>simp;omega
  | j+2=>simp
 have hsl:Sl (w.alloc (.cells #[.int .u32 (x % 4294967296),.int .u32 (x / 4294967296)] 150)) (.slice (some ⟨w.heap.size,0,none⟩) 2 2) [x % 4294967296,x / 4294967296]:=by
  refine⟨hd,by simp,_,2,rfl,by simp,.inr ⟨w.heap.size,0,rfl,by show w.heap.size<(w.heap.push _).size;simp,fun i hi=>?_⟩⟩
  match i,hi with
  | 0,_=>show World.cell? _ _=_;simp
  | 1,_=>show World.cell? _ _=_;simp
 obtain⟨u,hu,ai⟩:=zfg hsl
 have gg:=ai _ (Below.refl _ _)
 go_enter Tryz.func208,Tryz.ntmps208
 go_wp2_with (go_at_call 206;refine gg.mono ?_;rintro e w2 ⟨rfl,rfl⟩)
 go_ret
 exact⟨u,rfl,hu,zaa w _⟩
end Go.Proofs.YtnnhofmknilopaaGreatDoor
