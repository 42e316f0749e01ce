import Derived.Lib.TrailingZeros
import Derived.Lib.BitFns
import Derived.Test.YtaonejnicgbifaaGreatDoorQk10
namespace Go.Proofs.YtaonejnicgbifaaGreatDoor
open Go Go.RowKit
theorem zar (l:List Int) (k:Nat):val (l.take (k+1))=val (l.take k)+l.getD k 0*4294967296^k:=by
 by_cases h:k<l.length
 ·exact zc8 l k h
 ·have h0:l.getD k 0=0:=by simp[List.getD,List.getElem?_eq_none (by omega:l.length<=k)]
  rw[List.take_of_length_le (by omega),List.take_of_length_le (by omega),h0]
  omega
theorem za3:∀{xs:List Int},Dig xs->val xs<4294967296^xs.length
 | [],_=>by simp[val]
 | x::xs,h=>by
  have h0:=h 0
  have h1:=za3 (zcr h)
  have h2:val (x::xs)=x+4294967296*val xs:=rfl
  rw[h2,List.length_cons,Int.pow_succ]
  simp only[List.getD_cons_zero] at h0
  omega
theorem zel {l:List Int} (h:Dig l) {d:Int} (hd:0<=d/\d<=4294967295):Dig (l++[d]):=fun j=>by
 by_cases hj:j<l.length
 ·have:=h j
  rwa [show (l++[d]).getD j 0=l.getD j 0 by simp[List.getD,List.getElem?_append_left hj]]
 ·by_cases hj2:j=l.length
  ·subst hj2
   simpa [List.getD] using hd
  ·have:(l++[d]).getD j 0=0:=by
    simp only[List.getD]
    rw[List.getElem?_eq_none (by simp;omega)]
    rfl
   rw[this]
   omega
theorem zem (l:List Int) (d:Int):val (l++[d])=val l+d*4294967296^l.length:=by
 rw[za6]
 have:val [d]=d:=by simp[val]
 rw[this,Int.mul_comm]
theorem zan {xs:List Int} (h:Dig xs) (k:Nat):Dig (xs.take k):=fun j=>by
 have:=h j
 simp only[List.getD,List.getElem?_take] at this ⊢
 split
 ·exact this
 ·simp
theorem zbi {xs:List Int} (h:Dig xs) (k:Nat):Dig (xs.drop k):=fun j=>by
 have:=h (k+j)
 simpa [List.getD,List.getElem?_drop] using this
theorem zat (k:Nat):(0:Int)<4294967296^k:=Int.pow_pos (by decide)
theorem zco {us:List Int} {m:Nat} (h:us.length=m+2):val us=val (us.take m)+(us.getD (m+1) 0*4294967296+us.getD m 0)*4294967296^m:=by
 have h1:=zar us m
 have h2:=zar us (m+1)
 rw[List.take_of_length_le (by omega:us.length<=m+1+1),h1,Int.pow_succ] at h2
 rw[h2,Int.add_mul,Int.mul_assoc,Int.mul_comm (4294967296^m) 4294967296]
 omega
theorem zbc {vs:List Int} {m:Nat} (h:vs.length=m+1):val vs=val (vs.take m)+vs.getD m 0*4294967296^m:=by
 have h1:=zar vs m
 rwa [List.take_of_length_le (by omega:vs.length<=m+1)] at h1
theorem zlc {us vs:List Int} {m:Nat} (du:Dig us) (dv:Dig vs) (hu:us.length=m+2) (hv:vs.length=m+1) (ht:0<vs.getD m 0):
  val us / val vs<=(us.getD (m+1) 0*4294967296+us.getD m 0) / vs.getD m 0:=by
 have e1:=zco hu
 have e2:=zbc hv
 have l1:=za3 (zan du m)
 have l2:=zaf (zan dv m)
 rw[List.length_take,Nat.min_eq_left (by omega)] at l1
 have hp:=zat m
 generalize us.getD (m+1) 0*4294967296+us.getD m 0=top at*
 generalize vs.getD m 0=vt at*
 generalize (4294967296:Int)^m=p at*
 have hvp:0<vt*p:=Int.mul_pos ht hp
 have hd:top<(top / vt+1)*vt:=by
  have:=Int.emod_add_mul_ediv top vt
  have:=Int.emod_lt_of_pos top ht
  rw[Int.add_mul,Int.one_mul,Int.mul_comm (top / vt)]
  omega
 generalize top / vt=g at*
 have h3:(top+1)*p<=(g+1)*vt*p:=Int.mul_le_mul_of_nonneg_right (by omega) (by omega)
 rw[Int.add_mul top 1 p,Int.one_mul] at h3
 have hg:0<=g+1\/g+1<0:=by omega
 have h4:val us<(g+1)*val vs:=by
  rw[e2,Int.mul_add]
  have h5:0<=(g+1)*val (vs.take m):=by
   rcases hg with hg | hg
   ·exact Int.mul_nonneg hg l2
   ·exfalso
    have h7:(g+1)*vt<0:=Int.mul_neg_of_neg_of_pos hg ht
    have h8:(g+1)*vt*p<0:=Int.mul_neg_of_neg_of_pos h7 hp
    have h9:=zaf du
    have h10:=zaf (zan du m)
    have d1:=du (m+1)
    have d2:=du m
    omega
  rw[Int.mul_assoc] at h3
  omega
 have:=Int.ediv_lt_of_lt_mul (by omega:0<val vs) h4
 omega
theorem zcs {xs ys:List Int} {k:Nat} (hl:xs.length=ys.length) (dx:Dig xs) (dy:Dig ys) (hk:k<xs.length) (h:xs.getD k 0<ys.getD k 0) (hag:∀j,k+1<=j->j<xs.length->xs.getD j 0=ys.getD j 0):val xs<val ys:=by
 have key:∀m,k+1+m<=xs.length->val (xs.take (k+1+m))<val (ys.take (k+1+m)):=by
  intro m
  induction m with
  | zero=>
   intro _
   have dt:∀l:List Int,Dig l->Dig (l.take k):=fun l hd j=>by
    have:=hd j
    simp only[List.getD,List.getElem?_take]
    split
    ·exact this
    ·simp
   have h1:=za3 (dt xs dx)
   have h2:=zaf (dt ys dy)
   rw[Nat.add_zero,zar,zar]
   rw[List.length_take,Nat.min_eq_left (by omega)] at h1
   generalize (4294967296:Int)^k=p at*
   have h3:(xs.getD k 0+1)*p<=ys.getD k 0*p:=Int.mul_le_mul_of_nonneg_right (by omega) (by have:=zaf (dt xs dx);omega)
   rw[Int.add_mul,Int.one_mul] at h3
   omega
  | succ m ih=>
   intro hm
   have h1:=ih (by omega)
   rw[<-Nat.add_assoc,zar,zar,hag (k+1+m) (by omega) (by omega)]
   omega
 have:=key (xs.length - (k+1)) (by omega)
 rwa [show k+1+(xs.length - (k+1))=xs.length by omega,List.take_length,hl,List.take_length] at this
theorem zbt {xs ys:List Int} (dx:Dig xs) (dy:Dig ys) (cy:Canon ys) (hl:xs.length<ys.length):val xs<val ys:=by
 obtain⟨m,hm⟩:∃m,ys.length=m+1:=⟨ys.length - 1,by omega⟩
 have h0:=cy m hm
 have h1:=dy m
 have hv:=zar ys m
 rw[<-hm,List.take_length] at hv
 have dt:Dig (ys.take m):=fun j=>by
  have:=dy j
  simp only[List.getD,List.getElem?_take]
  split
  ·exact this
  ·simp
 have h2:=zaf dt
 have h3:=za3 dx
 obtain⟨d,hd⟩:∃d,m=xs.length+d:=⟨m - xs.length,by omega⟩
 have h4:(4294967296:Int)^xs.length<=4294967296^m:=by
  rw[hd,Int.pow_add]
  have a1:(0:Int)<4294967296^d:=Int.pow_pos (by decide)
  have a2:(0:Int)<4294967296^xs.length:=Int.pow_pos (by decide)
  have:=Int.mul_le_mul_of_nonneg_left (by omega:(1:Int)<=4294967296^d) (by omega:(0:Int)<=4294967296^xs.length)
  rwa [Int.mul_one] at this
 have h5:(1:Int)*4294967296^m<=ys.getD m 0*4294967296^m:=Int.mul_le_mul_of_nonneg_right (by omega) (by have:(0:Int)<4294967296^m:=Int.pow_pos (by decide);omega)
 rw[Int.one_mul] at h5
 omega
theorem zcz {a b:List Int} (ha:Dig a) (hb:Dig b):Dig (a++b):=fun j=>by
 by_cases h:j<a.length
 ·have:=ha j
  rwa [show (a++b).getD j 0=a.getD j 0 by simp[List.getD,List.getElem?_append_left h]]
 ·have:=hb (j - a.length)
  rwa [show (a++b).getD j 0=b.getD (j - a.length) 0 by simp[List.getD,List.getElem?_append_right (by omega:a.length<=j)]]
theorem zdr {a b:Nat} (h:a<=b):(4294967296:Int)^a<=4294967296^b:=by
 obtain⟨d,rfl⟩:∃d,b=a+d:=⟨b - a,by omega⟩
 rw[Int.pow_add]
 have:=Int.mul_le_mul_of_nonneg_left (by have:=zat d;omega:(1:Int)<=4294967296^d) (by have:=zat a;omega:(0:Int)<=4294967296^a)
 rwa [Int.mul_one] at this
theorem zbd {xs ys:List Int} (dx:Dig xs) (dy:Dig ys) (cx:Canon xs) (h:val xs<=val ys):xs.length<=ys.length:=by
 rcases Nat.lt_or_ge ys.length xs.length with h1 | h1
 ·have:=zbt dy dx cx h1
  omega
 ·exact h1
theorem zgn {xs:List Int} {k:Nat} (dx:Dig xs) (cx:Canon xs) (h1:xs.length=k+1):4294967296^k<=val xs:=by
 have h2:=cx k h1
 have h3:=dx k
 have h4:=zbc h1
 have h5:=zaf (zan dx k)
 have h6:=Int.mul_le_mul_of_nonneg_right (by omega:1<=xs.getD k 0) (by have:=zat k;omega:(0:Int)<=4294967296^k)
 omega
theorem ze3 {xs:List Int} {k:Nat} (dx:Dig xs) (cx:Canon xs) (h:val xs<4294967296^k):xs.length<=k:=by
 rcases Nat.lt_or_ge k xs.length with h1 | h1
 ·obtain⟨m,hm⟩:∃m,xs.length=m+1:=⟨xs.length - 1,by omega⟩
  have h2:=zgn dx cx hm
  have h3:=zdr (by omega:k<=m)
  omega
 ·exact h1
theorem zb6:∀(xs:List Int) (k:Nat),k<xs.length->val (xs.drop k)=xs.getD k 0+4294967296*val (xs.drop (k+1))
 | [],k,h=>by simp at h
 | x::l,0,h=>by simp[val]
 | x::l,k+1,h=>by
  have:=zb6 l k (by simpa using h)
  simpa using this
structure Smb (xs:List Int) (B:Int) (k:Nat) (os:List Int) (r:Int):Prop where
 len:os.length=xs.length
 dig:Dig os
 r0:0<=r/\r<B
 eq:val (xs.drop k)=B*val (os.drop k)+r
theorem Smb.zero (xs:List Int) {B:Int} (hB:0<B):Smb xs B xs.length (List.replicate xs.length 0) 0:=by
 refine⟨by simp,fun j=>?_,⟨by decide,hB⟩,?_⟩
 ·have:(List.replicate xs.length (0:Int)).getD j 0=0:=by
   simp only[List.getD_eq_getElem?_getD,List.getElem?_replicate]
   split<;>rfl
  rw[this]
  omega
 ·rw[List.drop_length,List.drop_of_length_le (by simp)]
  simp[val]
theorem Smb.step {xs os:List Int} {B r S:Int} {k:Nat} (h:Smb xs B (k+1) os r) (hk:k<xs.length) (dx:Dig xs) (hS:S=r*4294967296+xs.getD k 0):Smb xs B k (os.set k (S / B)) (S % B):=by
 have hr:=h.r0
 have hB:0<B:=by omega
 have hx:=dx k
 have hS0:0<=S:=by omega
 have hd0:=Int.ediv_nonneg hS0 (by omega:0<=B)
 have hd1:S / B<4294967296:=Int.ediv_lt_of_lt_mul hB (by omega)
 refine⟨by simp[h.len],zck h.dig (by omega),⟨Int.emod_nonneg _ (by omega),Int.emod_lt_of_pos _ hB⟩,?_⟩
 have hdm:=Int.emod_add_mul_ediv S B
 have he:=h.eq
 rw[zb6 xs k hk,zb6 (os.set k (S / B)) k (by simp[h.len,hk]),za1 (by rw[h.len];exact hk),zcd,he,Int.mul_add,Int.mul_add,<-Int.mul_assoc,<-Int.mul_assoc,Int.mul_comm 4294967296 B]
 omega
structure Dvb (u0 vs:List Int) (k:Nat) (us q:List Int):Prop where
 len:us.length=u0.length
 dig:Dig us
 qlen:q.length+vs.length=u0.length
 qdig:Dig q
 qz:∀i,i<k->q.getD i 0=0
 eq:val us+val vs*val q=val u0
 top:val (us.drop k)<val vs
theorem Dvb.window {u0 vs us q:List Int} {k:Nat} (h:Dvb u0 vs (k+1) us q) (hk:k<q.length) (dv:Dig vs):
  val us=val (us.take k)+4294967296^k*val ((us.drop k).take (vs.length+1))/\val (us.drop (k+(vs.length+1)))=0/\val ((us.drop k).take (vs.length+1))<val vs*4294967296:=by
 have hq:=h.qlen
 have hl:=h.len
 have h1:=zb6 us k (by omega)
 have h2:=(h.dig k)
 have h3:=h.top
 have dL:us.drop k=(us.drop k).take (vs.length+1)++us.drop (k+(vs.length+1)):=by
  rw[<-List.drop_drop]
  exact(List.take_append_drop _ _).symm
 have hw:((us.drop k).take (vs.length+1)).length=vs.length+1:=by rw[List.length_take,List.length_drop];omega
 have h4:val (us.drop k)=val ((us.drop k).take (vs.length+1))+4294967296^(vs.length+1)*val (us.drop (k+(vs.length+1))):=by
  conv=>lhs;rw[dL]
  rw[za6,hw]
 have c0:=zaf (zbi h.dig (k+(vs.length+1)))
 have w0:=zaf (zan (zbi h.dig k) (vs.length+1))
 have hv:=za3 dv
 have hz:val (us.drop (k+(vs.length+1)))=0:=by
  refine zce (zat (vs.length+1)) c0 (v:=val (us.drop k)) (by omega) ?_
  rw[Int.pow_succ]
  omega
 have h5:val us=val (us.take k)+4294967296^k*val (us.drop k):=by
  conv=>lhs;rw[<-List.take_append_drop k us]
  rw[za6,List.length_take,Nat.min_eq_left (by omega)]
 rw[hz,Int.mul_zero,Int.add_zero] at h4
 exact⟨by rw[h5,h4],hz,by omega⟩
theorem Dvb.step {u0 vs us q W:List Int} {k:Nat} (h:Dvb u0 vs (k+1) us q) (hk:k<q.length) (dv:Dig vs) (hv:0<val vs) (hW:W.length=vs.length+1) (dW:Dig W)
  (bW:val W=val ((us.drop k).take (vs.length+1)) % val vs):
  Dvb u0 vs k (us.take k++W++us.drop (k+(vs.length+1))) (q.set k (val ((us.drop k).take (vs.length+1)) / val vs)):=by
 obtain⟨h1,h2,h3⟩:=h.window hk dv
 have hq:=h.qlen
 have hl:=h.len
 have w0:=zaf (zan (zbi h.dig k) (vs.length+1))
 generalize hX:val ((us.drop k).take (vs.length+1))=X at*
 have hd0:0<=X / val vs:=Int.ediv_nonneg w0 (by omega)
 have hd1:X / val vs<4294967296:=Int.ediv_lt_of_lt_mul hv (by rwa [Int.mul_comm] at h3)
 have hdm:=Int.emod_add_mul_ediv X (val vs)
 have hml:=Int.emod_lt_of_pos X hv
 have htl:(us.take k).length=k:=by rw[List.length_take,Nat.min_eq_left (by omega)]
 have hqs:=zfg q k (X / val vs) hk
 rw[h.qz k (by omega),Int.sub_zero] at hqs
 refine⟨?_,zcz (zcz (zan h.dig k) dW) (zbi h.dig _),by simpa using hq,zck h.qdig ⟨hd0,by omega⟩,fun i hi=>?_,?_,?_⟩
 ·rw[List.length_append,List.length_append,htl,hW,List.length_drop]
  omega
 ·rw[getD_set_ne (by omega)]
  exact h.qz i (by omega)
 ·have he:=h.eq
  rw[List.append_assoc,za6,za6,h2,Int.mul_zero,Int.add_zero,htl,bW,hqs,<-he,h1,Int.mul_add]
  have e1:4294967296^k*X=4294967296^k*(X % val vs)+val vs*(X / val vs*4294967296^k):=by
   have:val vs*(X / val vs*4294967296^k)=4294967296^k*(val vs*(X / val vs)):=by
    rw[<-Int.mul_assoc,Int.mul_comm]
   rw[this,<-Int.mul_add,hdm]
  omega
 ·rw[List.append_assoc,List.drop_append_of_le_length (by omega),List.drop_of_length_le (by omega),List.nil_append,za6,h2,Int.mul_zero,Int.add_zero,bW]
  exact hml
theorem Dvb.zero {u0 vs:List Int} {Lq:Nat} (hL:Lq+vs.length=u0.length) (du:Dig u0) (ht:val (u0.drop Lq)<val vs):Dvb u0 vs Lq u0 (List.replicate Lq 0):=by
 have hg:∀j,(List.replicate Lq (0:Int)).getD j 0=0:=fun j=>by
  simp only[List.getD_eq_getElem?_getD,List.getElem?_replicate]
  split<;>rfl
 refine⟨rfl,du,by simpa using hL,fun j=>by rw[hg];omega,fun i _=>hg i,?_,ht⟩
 have hv:∀n:Nat,val (List.replicate n 0)=0:=by
  intro n
  induction n with
  | zero=>rfl
  | succ n ih=>simp[List.replicate_succ,val,ih]
 rw[hv,Int.mul_zero,Int.add_zero]
theorem Dvb.done {u0 vs us q:List Int} (h:Dvb u0 vs 0 us q) (hv:0<val vs) (dv:Dig vs) (hl:vs.length<=us.length):val q=val u0 / val vs/\val (us.take vs.length)=val u0 % val vs:=by
 have ht:=h.top
 have he:=h.eq
 rw[List.drop_zero] at ht
 have h0:=zaf h.dig
 have hs:val us=val (us.take vs.length)+4294967296^vs.length*val (us.drop vs.length):=by
  conv=>lhs;rw[<-List.take_append_drop vs.length us]
  rw[za6,List.length_take,Nat.min_eq_left hl]
 have hz:val (us.drop vs.length)=0:=by
  refine zce (zat vs.length) (zaf (zbi h.dig _)) (v:=val us) ?_ ?_
  ·have:=zaf (zan h.dig vs.length)
   omega
  ·have:=za3 dv
   omega
 rw[hz,Int.mul_zero,Int.add_zero] at hs
 rw[<-he,<-hs]
 refine⟨?_,?_⟩
 ·rw[Int.add_mul_ediv_left _ _ (by omega),Int.ediv_eq_zero_of_lt h0 ht,Int.zero_add]
 ·rw[Int.add_mul_emod_self_left,Int.emod_eq_of_lt h0 ht]
structure Shb (xs:List Int) (s k:Nat) (out:List Int) (cy:Int):Prop where
 len:out.length=k
 dig:Dig out
 c:0<=cy/\cy<2^s
 eq:val out+cy*4294967296^k=val (xs.take k)*2^s
theorem Shb.zero (xs:List Int) (s:Nat):Shb xs s 0 [] 0:=⟨rfl,fun j=>by simp[List.getD],⟨by decide,zaq s⟩,by simp[val]⟩
theorem Shb.step {xs out:List Int} {s k:Nat} {cy S:Int} (h:Shb xs s k out cy) (dx:Dig xs) (hS:S=xs.getD k 0*2^s+cy):Shb xs s (k+1) (out++[S % 4294967296]) (S / 4294967296):=by
 have hd:=dx k
 have hc:=h.c
 have hp:=zaq s
 have h0:0<=xs.getD k 0*2^s:=Int.mul_nonneg hd.1 (by omega)
 have h1:xs.getD k 0*2^s<=4294967295*2^s:=Int.mul_le_mul_of_nonneg_right hd.2 (by omega)
 refine⟨by simp[h.len],zel h.dig (by omega),by omega,?_⟩
 have he:=h.eq
 rw[zem,zar,h.len,Int.pow_succ,Int.add_mul]
 have e:S*4294967296^k=S % 4294967296*4294967296^k+S / 4294967296*(4294967296^k*4294967296):=by
  have h1:S=S % 4294967296+4294967296*(S / 4294967296):=by omega
  generalize (4294967296:Int)^k=p
  calc S*p=(S % 4294967296+4294967296*(S / 4294967296))*p:=by rw[<-h1]
   _=_:=by rw[Int.add_mul,Int.mul_comm 4294967296,Int.mul_assoc,Int.mul_comm 4294967296 p]
 have e2:S*4294967296^k=xs.getD k 0*4294967296^k*2^s+cy*4294967296^k:=by
  rw[hS,Int.add_mul,Int.mul_assoc,Int.mul_comm (2^s),<-Int.mul_assoc]
 omega
def srdb (x y:Int) (s:Nat):Int:=(x+y*4294967296) / 2^s % 4294967296
theorem srdb_eq {x y:Int} {s:Nat} (hx:0<=x/\x<=4294967295) (_hy:0<=y/\y<=4294967295) (hs:s<=31):srdb x y s*2^s=x - x % 2^s+y % 2^s*4294967296:=by
 unfold srdb
 rcases (by omega:s=0\/s=1\/s=2\/s=3\/s=4\/s=5\/s=6\/s=7\/s=8\/s=9\/s=10\/s=11\/s=12\/s=13\/s=14\/s=15\/s=16\/s=17\/s=18\/s=19\/s=20\/s=21\/s=22\/s=23\/s=24\/s=25\/s=26\/s=27\/s=28\/s=29\/s=30\/s=31) with rfl | rfl | rfl | rfl | rfl | rfl | rfl | rfl | rfl | rfl | rfl | rfl | rfl | rfl | rfl | rfl | rfl | rfl | rfl | rfl | rfl | rfl | rfl | rfl | rfl | rfl | rfl | rfl | rfl | rfl | rfl | rfl<;>omega
structure Srb (xs:List Int) (s k:Nat) (out:List Int):Prop where
 len:out.length=k
 dig:Dig out
 eq:val out*2^s=val (xs.take k) - xs.getD 0 0 % 2^s+xs.getD k 0 % 2^s*4294967296^k
theorem Srb.zero (xs:List Int) (s:Nat):Srb xs s 0 []:=⟨rfl,fun j=>by simp[List.getD],by simp[val];exact(Int.add_left_neg _).symm⟩
theorem Srb.step {xs out:List Int} {s k:Nat} (h:Srb xs s k out) (dx:Dig xs) (hs:s<=31):Srb xs s (k+1) (out++[srdb (xs.getD k 0) (xs.getD (k+1) 0) s]):=by
 have he:=h.eq
 have h1:=srdb_eq (dx k) (dx (k+1)) hs
 refine⟨by simp[h.len],zel h.dig (by unfold srdb;omega),?_⟩
 rw[zem,zar,h.len,Int.pow_succ,Int.add_mul,he,Int.mul_assoc,Int.mul_comm (4294967296^k) (2^s),<-Int.mul_assoc,h1,Int.add_mul,Int.sub_mul]
 have e:xs.getD (k+1) 0 % 2^s*4294967296*4294967296^k=xs.getD (k+1) 0 % 2^s*(4294967296^k*4294967296):=by rw[Int.mul_assoc,Int.mul_comm 4294967296]
 omega
theorem Srb.done {xs out:List Int} {s:Nat} (h:Srb xs s xs.length out) (dx:Dig xs) (hs:s<=31):val out=val xs / 2^s:=by
 have he:=h.eq
 have hz:xs.getD xs.length 0=0:=by simp[List.getD]
 rw[List.take_length,hz,Int.zero_emod,Int.zero_mul,Int.add_zero] at he
 have hp:=zaq s
 have h2:val xs % 2^s=xs.getD 0 0 % 2^s:=by
  match xs with
  | []=>rfl
  | x::r=>
   show(x+4294967296*val r) % 2^s=x % 2^s
   obtain⟨d,hd⟩:∃d,32=s+d:=⟨32 - s,by omega⟩
   have:(4294967296:Int)=2^s*2^d:=by rw[<-Int.pow_add,<-hd];decide
   rw[this,Int.mul_assoc,Int.add_mul_emod_self_left]
 rw[<-h2] at he
 have h3:=Int.emod_add_mul_ediv (val xs) (2^s)
 have h4:val out*2^s=val xs / 2^s*2^s:=by rw[he,Int.mul_comm (val xs / 2^s)];omega
 exact Int.eq_of_mul_eq_mul_right (by omega) h4
theorem zij {us:List Int} {m:Nat} (h:us.length=m+3):val us=val (us.take m)+((us.getD (m+2) 0*4294967296+us.getD (m+1) 0)*4294967296+us.getD m 0)*4294967296^m:=by
 have h1:=zar us m
 have h2:val us=val (us.take (m+1))+(us.getD (m+2) 0*4294967296+us.getD (m+1) 0)*4294967296^(m+1):=zco (us:=us) (m:=m+1) h
 rw[h1,Int.pow_succ] at h2
 rw[h2,Int.add_mul _ (us.getD m 0),Int.mul_assoc _ 4294967296,Int.mul_comm (4294967296^m)]
 omega
structure Gs (us vs:List Int) (m:Nat) (G R:Int):Prop where
 ge:val us / val vs<=G
 g0:0<=G
 r0:0<=R
 eq:G*vs.getD (m+1) 0+R=us.getD (m+2) 0*4294967296+us.getD (m+1) 0
theorem Gs.zero {us vs:List Int} {m:Nat} (du:Dig us) (dv:Dig vs) (hu:us.length=m+3) (hv:vs.length=m+2) (ht:0<vs.getD (m+1) 0):
  Gs us vs m ((us.getD (m+2) 0*4294967296+us.getD (m+1) 0) / vs.getD (m+1) 0) ((us.getD (m+2) 0*4294967296+us.getD (m+1) 0) % vs.getD (m+1) 0):=by
 have h1:=du (m+2)
 have h2:=du (m+1)
 refine⟨zlc du dv hu hv ht,Int.ediv_nonneg (by omega) (by omega),Int.emod_nonneg _ (by omega),?_⟩
 generalize us.getD (m+2) 0*4294967296+us.getD (m+1) 0=top
 generalize vs.getD (m+1) 0=d1
 have:=Int.emod_add_mul_ediv top d1
 rw[Int.mul_comm (top / d1)]
 omega
theorem zd4 {vs:List Int} {m:Nat} (dv:Dig vs) (hv:vs.length=m+2) (ht:0<vs.getD (m+1) 0):0<val vs:=by
 have h1:=zbc (vs:=vs) (m:=m+1) hv
 have h2:=zaf (zan dv (m+1))
 have h3:=Int.mul_pos ht (zat (m+1))
 omega
theorem Gs.down {us vs:List Int} {m:Nat} {G R:Int} (h:Gs us vs m G R) (du:Dig us) (dv:Dig vs) (hu:us.length=m+3) (hv:vs.length=m+2) (ht:0<vs.getD (m+1) 0) (hq:val us<val vs*4294967296)
  (hgt:4294967296<=G\/R*4294967296+us.getD m 0<G*vs.getD m 0):Gs us vs m (G - 1) (R+vs.getD (m+1) 0)/\1<=G:=by
 have vp:=zd4 dv hv ht
 have u0:=zaf du
 have q0:0<=val us / val vs:=Int.ediv_nonneg u0 (by omega)
 have hlt:val us / val vs<=G - 1:=by
  rcases hgt with hgt | hgt
  ·have:val us / val vs<4294967296:=Int.ediv_lt_of_lt_mul vp (by rwa [Int.mul_comm] at hq)
   omega
  ·have e1:=zij hu
   have e2:=zco (us:=vs) (m:=m) hv
   have l1:=za3 (zan du m)
   have l2:=zaf (zan dv m)
   rw[List.length_take,Nat.min_eq_left (by omega)] at l1
   have he:=h.eq
   have hg:=h.g0
   have hp:=zat m
   generalize us.getD (m+2) 0*4294967296+us.getD (m+1) 0=top at*
   generalize us.getD m 0=w0 at*
   generalize vs.getD (m+1) 0=d1 at*
   generalize vs.getD m 0=v2 at*
   generalize (4294967296:Int)^m=p at*
   have h1:top*4294967296+w0+1<=G*(d1*4294967296+v2):=by
    rw[Int.mul_add,<-Int.mul_assoc,<-he]
    omega
   have h2:(top*4294967296+w0+1)*p<=G*(d1*4294967296+v2)*p:=Int.mul_le_mul_of_nonneg_right h1 (by omega)
   rw[Int.add_mul _ 1 p,Int.one_mul] at h2
   have h3:G*(d1*4294967296+v2)*p<=G*val vs:=by
    rw[e2,Int.mul_add G (val (vs.take m)),Int.mul_assoc G]
    have:=Int.mul_nonneg hg l2
    omega
   have h4:val us<G*val vs:=by omega
   have:=Int.ediv_lt_of_lt_mul vp h4
   omega
 refine⟨⟨hlt,by omega,by have:=h.r0;omega,?_⟩,by omega⟩
 rw[<-h.eq,Int.sub_mul]
 omega
theorem Gs.good {us vs:List Int} {m:Nat} {G R:Int} (h:Gs us vs m G R) (du:Dig us) (dv:Dig vs) (hu:us.length=m+3) (hv:vs.length=m+2) (ht:0<vs.getD (m+1) 0)
  (h1:G<4294967296) (h2:G*vs.getD m 0<=R*4294967296+us.getD m 0):G<=val us / val vs+1:=by
 have vp:=zd4 dv hv ht
 have e1:=zij hu
 have e2:=zco (us:=vs) (m:=m) hv
 have l1:=zaf (zan du m)
 have l2:=zaf (zan dv m)
 have l3:=za3 (zan dv m)
 rw[List.length_take,Nat.min_eq_left (by omega)] at l3
 have he:=h.eq
 have hg:=h.g0
 have hp:=zat m
 have dv2:=dv m
 have hdm:=Int.emod_add_mul_ediv (val us) (val vs)
 have hml:=Int.emod_lt_of_pos (val us) vp
 generalize us.getD (m+2) 0*4294967296+us.getD (m+1) 0=top at*
 generalize us.getD m 0=w0 at*
 generalize vs.getD (m+1) 0=d1 at*
 generalize vs.getD m 0=v2 at*
 generalize (4294967296:Int)^m=p at*
 have h3:G*(d1*4294967296+v2)<=top*4294967296+w0:=by
  rw[Int.mul_add,<-Int.mul_assoc,<-he]
  omega
 have h4:G*(d1*4294967296+v2)*p<=(top*4294967296+w0)*p:=Int.mul_le_mul_of_nonneg_right h3 (by omega)
 have h5:G*val (vs.take m)<=4294967295*val (vs.take m):=Int.mul_le_mul_of_nonneg_right (by omega) l2
 have h6:1*(4294967296*p)<=d1*(4294967296*p):=Int.mul_le_mul_of_nonneg_right (by omega) (by omega)
 have h7:0<=v2*p:=Int.mul_nonneg dv2.1 (by omega)
 have h8:d1*(4294967296*p)+v2*p<=val vs:=by
  rw[e2,Int.add_mul,Int.mul_assoc]
  omega
 have h9:G*val vs=G*val (vs.take m)+G*(d1*4294967296+v2)*p:=by rw[e2,Int.mul_add,Int.mul_assoc]
 have h10:G*val vs<val us+val vs:=by omega
 rcases (by omega:G<=val us / val vs+1\/val us / val vs+2<=G) with h | h
 ·exact h
 ·exfalso
  have:=Int.mul_le_mul_of_nonneg_right h (by omega:0<=val vs)
  rw[Int.add_mul,Int.mul_comm (val us / val vs)] at this
  omega
theorem Gs.big {us vs:List Int} {m:Nat} {G R:Int} (h:Gs us vs m G R) (du:Dig us) (dv:Dig vs) (hu:us.length=m+3) (hv:vs.length=m+2) (ht:0<vs.getD (m+1) 0) (hq:val us<val vs*4294967296)
  (hR:4294967296<=R):G<4294967296/\G*vs.getD m 0<=R*4294967296+us.getD m 0:=by
 have e1:val us=val (us.take (m+1))+(us.getD (m+2) 0*4294967296+us.getD (m+1) 0)*4294967296^(m+1):=zco (us:=us) (m:=m+1) hu
 have e2:=zbc (vs:=vs) (m:=m+1) hv
 have l1:=zaf (zan du (m+1))
 have l3:=za3 (zan dv (m+1))
 rw[List.length_take,Nat.min_eq_left (by omega)] at l3
 have he:=h.eq
 have hg:=h.g0
 have hp:=zat (m+1)
 have dv2:=dv m
 have du0:=du m
 generalize us.getD (m+2) 0*4294967296+us.getD (m+1) 0=top at*
 generalize vs.getD (m+1) 0=d1 at*
 generalize vs.getD m 0=v2 at*
 generalize us.getD m 0=w0 at*
 generalize (4294967296:Int)^(m+1)=p at*
 have h1:top*p<(d1+1)*4294967296*p:=by
  rw[Int.mul_assoc,Int.mul_comm 4294967296 p,<-Int.mul_assoc,Int.add_mul,Int.one_mul]
  omega
 have h2:top<(d1+1)*4294967296:=Int.lt_of_mul_lt_mul_right h1 (by omega)
 have h3:G<4294967296:=by
  rcases (by omega:G<4294967296\/4294967296<=G) with h | h
  ·exact h
  ·exfalso
   have:=Int.mul_le_mul_of_nonneg_right h (by omega:0<=d1)
   omega
 have h4:=zb1 (a:=G) (b:=v2) ⟨hg,by omega⟩ dv2
 exact⟨h3,by omega⟩
structure Mb (us vs:List Int) (g:Int) (i:Nat) (cur:List Int) (c b:Int):Prop where
 len:cur.length=us.length
 dig:Dig cur
 c0:0<=c/\c<=4294967295
 b0:b=0\/b=1
 eq:val (cur.take i) - (c+b)*4294967296^i=val (us.take i) - g*val (vs.take i)
 rest:∀k,i<=k->cur.getD k 0=us.getD k 0
theorem Mb.zero {us vs:List Int} {g:Int} (h:Dig us):Mb us vs g 0 us 0 0:=⟨rfl,h,by omega,.inl rfl,by simp[val],fun _ _=>rfl⟩
theorem zen {g w c:Int} (hg:0<=g/\g<=4294967295) (hw:0<=w/\w<=4294967295) (hc:0<=c/\c<=4294967295):0<=g*w+c/\g*w+c<=18446744069414584320:=by
 have h1:=zb1 hg hw
 omega
theorem Mb.step {us vs cur:List Int} {g c b S T:Int} {i:Nat} (h:Mb us vs g i cur c b) (du:Dig us) (dv:Dig vs) (hg:0<=g/\g<=4294967295) (hi:i<us.length) (hS:S=g*vs.getD i 0+c) (hT:T=us.getD i 0 - S % 4294967296 - b):
  Mb us vs g (i+1) (cur.set i (T % 4294967296)) (S / 4294967296) (if T<0 then 1 else 0):=by
 have hb:=zen hg (dv i) h.c0
 rw[<-hS] at hb
 have hu:=du i
 have ho:=h.b0
 refine⟨by simp[h.len],zck h.dig (by omega),by omega,by split<;>simp,?_,fun k hk=>?_⟩
 ·have he:=h.eq
  rw[zar,zar us,zar vs,za8,za1 (by rw[h.len];exact hi),Int.pow_succ]
  have hTm:T % 4294967296=T+(if T<0 then 1 else 0)*4294967296:=by split<;>omega
  have hSm:S=S % 4294967296+S / 4294967296*4294967296:=by omega
  have hgw:g*vs.getD i 0=S - c:=by omega
  generalize hB:(if T<0 then(1:Int) else 0)=B at*
  rw[hTm,Int.mul_add g,<-Int.mul_assoc g,hgw]
  generalize (4294967296:Int)^i=p at*
  have e1:(T+B*4294967296)*p=us.getD i 0*p - S % 4294967296*p - b*p+B*(p*4294967296):=by
   rw[hT,Int.add_mul,Int.sub_mul,Int.sub_mul,Int.mul_assoc B,Int.mul_comm 4294967296 p]
  have e2:(S / 4294967296+B)*(p*4294967296)=S / 4294967296*(p*4294967296)+B*(p*4294967296):=by rw[Int.add_mul]
  have e3:(S - c)*p=S % 4294967296*p+S / 4294967296*(p*4294967296) - c*p:=by
   conv=>lhs;rw[hSm]
   rw[Int.sub_mul,Int.add_mul,Int.mul_assoc,Int.mul_comm 4294967296 p]
  rw[Int.add_mul] at he
  omega
 ·rw[getD_set_ne (by omega)]
  exact h.rest k (by omega)
theorem Mb.last {us vs cur:List Int} {g c b T:Int} {n:Nat} (h:Mb us vs g n cur c b) (du:Dig us) (hu:us.length=n+1) (hv:vs.length=n) (hT:T=us.getD n 0 - c - b):
  (cur.set n (T % 4294967296)).length=n+1/\Dig (cur.set n (T % 4294967296))/\val (cur.set n (T % 4294967296))=val us - g*val vs+(if T<0 then 4294967296^(n+1) else 0):=by
 have h1:=h.len
 have h2:=h.eq
 have h3:=h.c0
 have h4:=h.b0
 have h5:=du n
 refine⟨by simp;omega,zck h.dig (by omega),?_⟩
 have e1:=zbc (vs:=cur.set n (T % 4294967296)) (m:=n) (by simp;omega)
 have e2:=zbc (vs:=us) (m:=n) hu
 rw[za8,za1 (by omega)] at e1
 rw[List.take_of_length_le (by omega:vs.length<=n)] at h2
 have hTm:T % 4294967296=T+(if T<0 then 4294967296 else 0):=by split<;>omega
 rw[e1,e2,hTm,Int.pow_succ]
 generalize (4294967296:Int)^n=p at*
 have e3:T*p=us.getD n 0*p - (c+b)*p:=by rw[hT,Int.sub_sub,Int.sub_mul]
 split
 ·rw[Int.add_mul,e3,Int.mul_comm p]
  omega
 ·rw[Int.add_zero,e3]
  omega
structure Ab (c0 vs:List Int) (i:Nat) (cur:List Int) (c:Int):Prop where
 len:cur.length=c0.length
 dig:Dig cur
 c01:c=0\/c=1
 eq:val (cur.take i)+c*4294967296^i=val (c0.take i)+val (vs.take i)
 rest:∀k,i<=k->cur.getD k 0=c0.getD k 0
theorem Ab.zero {c0 vs:List Int} (h:Dig c0):Ab c0 vs 0 c0 0:=⟨rfl,h,.inl rfl,by simp[val],fun _ _=>rfl⟩
theorem Ab.step {c0 vs cur:List Int} {c S:Int} {i:Nat} (h:Ab c0 vs i cur c) (du:Dig c0) (dv:Dig vs) (hi:i<c0.length) (hS:S=c0.getD i 0+vs.getD i 0+c):
  Ab c0 vs (i+1) (cur.set i (S % 4294967296)) (S / 4294967296):=by
 have hu:=du i
 have hv:=dv i
 have ho:=h.c01
 refine⟨by simp[h.len],zck h.dig (by omega),by omega,?_,fun k hk=>?_⟩
 ·have he:=h.eq
  rw[zar,zar c0,zar vs,za8,za1 (by rw[h.len];exact hi),Int.pow_succ]
  generalize (4294967296:Int)^i=p at*
  have e1:S*p=S % 4294967296*p+S / 4294967296*(p*4294967296):=by
   have h1:S=S % 4294967296+4294967296*(S / 4294967296):=by omega
   calc S*p=(S % 4294967296+4294967296*(S / 4294967296))*p:=by rw[<-h1]
    _=_:=by rw[Int.add_mul,Int.mul_comm 4294967296,Int.mul_assoc,Int.mul_comm 4294967296 p]
  have e2:S*p=c0.getD i 0*p+vs.getD i 0*p+c*p:=by rw[hS,Int.add_mul,Int.add_mul]
  omega
 ·rw[getD_set_ne (by omega)]
  exact h.rest k (by omega)
theorem Ab.last {c0 vs cur:List Int} {c R:Int} {n:Nat} (h:Ab c0 vs n cur c) (du:Dig c0) (dv:Dig vs) (hu:c0.length=n+1) (hv:vs.length=n) (hR:val c0+val vs=R+4294967296^(n+1)) (hR0:0<=R) (_hR1:R<val vs):
  (cur.set n ((c0.getD n 0+c) % 4294967296)).length=n+1/\Dig (cur.set n ((c0.getD n 0+c) % 4294967296))/\val (cur.set n ((c0.getD n 0+c) % 4294967296))=R:=by
 have h1:=h.len
 have h2:=h.eq
 have h4:=h.c01
 have h5:=du n
 have hd:Dig (cur.set n ((c0.getD n 0+c) % 4294967296)):=zck h.dig (by omega)
 refine⟨by simp;omega,hd,?_⟩
 have e1:=zbc (vs:=cur.set n ((c0.getD n 0+c) % 4294967296)) (m:=n) (by simp;omega)
 have e2:=zbc (vs:=c0) (m:=n) hu
 rw[za8,za1 (by omega)] at e1
 rw[List.take_of_length_le (by omega:vs.length<=n)] at h2
 have b1:=za3 hd
 have b0:=zaf hd
 have b2:=za3 dv
 rw[show (cur.set n ((c0.getD n 0+c) % 4294967296)).length=n+1 by simp;omega] at b1
 rw[hv] at b2
 generalize val (cur.set n ((c0.getD n 0+c) % 4294967296))=V at*
 rw[Int.pow_succ] at*
 generalize (4294967296:Int)^n=p at*
 rcases (by omega:c0.getD n 0+c<4294967296\/c0.getD n 0+c=4294967296) with hc | hc
 ·exfalso
  have hm:(c0.getD n 0+c) % 4294967296=c0.getD n 0+c:=by omega
  rw[hm,Int.add_mul] at e1
  omega
 ·have hm:(c0.getD n 0+c) % 4294967296=0:=by omega
  have h6:(c0.getD n 0+c)*p=p*4294967296:=by rw[hc,Int.mul_comm]
  rw[Int.add_mul] at h6
  rw[hm,Int.zero_mul] at e1
  omega
theorem gcdI_two {a b:Int} (k:Nat) (ha:0<=a) (hb:0<=b):gcdI (2^k*a) (2^k*b)=2^k*gcdI a b:=by
 obtain⟨A,rfl⟩:=Int.eq_ofNat_of_zero_le ha
 obtain⟨B,rfl⟩:=Int.eq_ofNat_of_zero_le hb
 unfold gcdI
 rw[show (2:Int)^k*(A:Int)=((2^k*A:Nat):Int) by simp,show(2:Int)^k*(B:Int)=((2^k*B:Nat):Int) by simp]
 rw[Int.toNat_natCast,Int.toNat_natCast,Int.toNat_natCast,Int.toNat_natCast,Nat.gcd_mul_left]
 simp
theorem zhm (m j:Nat):Nat.gcd (2*m+1) (2^j)=1:=by
 have h2:Nat.gcd (2*m+1) 2=1:=by
  rw[Nat.gcd_comm,Nat.gcd_rec]
  simp[Nat.add_mod]
 exact Nat.Coprime.pow_right j h2
theorem gcdI_pow {X':Int} {j:Nat} (h0:0<=X') (h:j=0\/∃m:Nat,X'=2*m+1):gcdI X' (2^j)=1:=by
 rcases h with rfl | ⟨m,rfl⟩
 ·unfold gcdI
  simp
 ·unfold gcdI
  rw[show (2:Int)^j=((2^j:Nat):Int) by simp,show(2:Int)*(m:Int)+1=((2*m+1:Nat):Int) by simp,Int.toNat_natCast,Int.toNat_natCast,zhm]
  rfl
def TwosIs (x:Int) (t:Nat):Prop:=∃m:Nat,x=2^t*(2*m+1)
theorem TwosIs.pos {x:Int} {t:Nat} (h:TwosIs x t):0<x:=by
 obtain⟨m,rfl⟩:=h
 exact Int.mul_pos (zaq t) (by omega)
theorem TwosIs.div {x:Int} {t k:Nat} (h:TwosIs x t) (hk:k<=t):x=2^k*(x / 2^k)/\TwosIs (x / 2^k) (t - k):=by
 obtain⟨m,rfl⟩:=h
 obtain⟨d,rfl⟩:∃d,t=k+d:=⟨t - k,by omega⟩
 have hp:=zaq k
 have e:(2:Int)^(k+d)*(2*(m:Int)+1)=2^k*(2^d*(2*(m:Int)+1)):=by rw[Int.pow_add,Int.mul_assoc]
 rw[e,Int.mul_ediv_cancel_left _ (by omega)]
 exact⟨rfl,m,by rw[Nat.add_sub_cancel_left]⟩
theorem TwosIs.unique {x:Int} {s t:Nat} (h:TwosIs x s) (h':TwosIs x t):s=t:=by
 have key:∀{s t:Nat} {a b:Nat},s<t->(2:Int)^s*(2*(a:Int)+1)=2^t*(2*(b:Int)+1)->False:=by
  intro s t a b hst he
  obtain⟨d,rfl⟩:∃d,t=s+(d+1):=⟨t - s - 1,by omega⟩
  have hp:=zaq s
  rw[Int.pow_add,Int.mul_assoc] at he
  have h2:=Int.eq_of_mul_eq_mul_left (by omega) he
  rw[Int.pow_succ,Int.mul_assoc,Int.mul_comm (2^d),Int.mul_assoc] at h2
  omega
 obtain⟨a,ha⟩:=h
 obtain⟨b,hb⟩:=h'
 rcases Nat.lt_trichotomy s t with h | h | h
 ·exact(key h (ha.symm.trans hb)).elim
 ·exact h
 ·exact(key h (hb.symm.trans ha)).elim
theorem TwosIs.pow {x:Int} {t:Nat} (h:TwosIs x t) (hx:x<2^(t+1)):x=2^t:=by
 obtain⟨m,rfl⟩:=h
 have hp:=zaq t
 rw[Int.pow_succ] at hx
 have hm:m=0:=by
  rcases (by omega:m=0\/1<=m) with h | h
  ·exact h
  ·exfalso
   have:=Int.mul_le_mul_of_nonneg_left (by omega:(2:Int)<=2*(m:Int)+1) (by omega:(0:Int)<=2^t)
   omega
 subst hm
 simp
theorem zfk {a b:Int} (ha:0<=a) (hb:0<=b):(∃p:Int,a=gcdI a b*p)/\∃p:Int,b=gcdI a b*p:=by
 obtain⟨A,rfl⟩:=Int.eq_ofNat_of_zero_le ha
 obtain⟨B,rfl⟩:=Int.eq_ofNat_of_zero_le hb
 unfold gcdI
 rw[Int.toNat_natCast,Int.toNat_natCast]
 obtain⟨p,hp⟩:=Nat.gcd_dvd_left A B
 obtain⟨r,hr⟩:=Nat.gcd_dvd_right A B
 refine⟨⟨p,?_⟩,r,?_⟩
 ·conv=>lhs;rw[hp]
  simp
 ·conv=>lhs;rw[hr]
  simp
theorem zhn {X Y:Int} {k:Nat} (hX:0<X) (hY:0<Y) (ex:X=2^k*(X / 2^k)) (ey:Y=2^k*(Y / 2^k)):
  X / gcdI X Y=X / 2^k / gcdI (X / 2^k) (Y / 2^k)/\Y / gcdI X Y=Y / 2^k / gcdI (X / 2^k) (Y / 2^k)/\0<X / 2^k/\0<Y / 2^k:=by
 have hp:=zaq k
 have h1:0<X / 2^k:=by
  rcases (by omega:0<X / 2^k\/X / 2^k<=0) with h | h
  ·exact h
  ·have:=Int.mul_nonpos_of_nonneg_of_nonpos (by omega:(0:Int)<=2^k) h
   omega
 have h2:0<Y / 2^k:=by
  rcases (by omega:0<Y / 2^k\/Y / 2^k<=0) with h | h
  ·exact h
  ·have:=Int.mul_nonpos_of_nonneg_of_nonpos (by omega:(0:Int)<=2^k) h
   omega
 generalize X / 2^k=a at*
 generalize Y / 2^k=b at*
 subst ex ey
 rw[gcdI_two k (by omega) (by omega),Int.mul_ediv_mul_of_pos _ _ hp,Int.mul_ediv_mul_of_pos _ _ hp]
 exact⟨rfl,rfl,h1,h2⟩
end Go.Proofs.YtaonejnicgbifaaGreatDoor
