import Derived.Test.YtfhjhnofkaiceaaGreatDoorProg
import Derived.WalkKit
import Derived.ProofKit
import Derived.OpenShut
import Derived.Deep.QuietTactic
import Derived.BigQuiet
import Derived.Deep.RegionWith
namespace Go.Proofs.YtfhjhnofkaiceaaGreatDoor
open Go Go.RowKit
theorem hid_of {p:Prop} (h:p):Hid p:=h
abbrev zw33:Array Value:=#[.string ⟨#[]⟩,.int .i64 0,.int .i64 0,.int .i64 0,.bool false,.slice none 0 0,.slice none 0 0,.string ⟨#[]⟩,.slice none 0 0,.bool false,.slice none 0 0,.slice none 0 0,.int .i64 0,.string ⟨#[]⟩,.string ⟨#[]⟩,.bool false,.slice none 0 0,.slice none 0 0,.int .i64 0,.int .i64 0,.int .i64 0,.int .i64 0,.int .i64 0,.bool false,.slice none 0 0,.slice none 0 0,.string ⟨#[]⟩,.slice none 0 0,.slice none 0 0,.string ⟨#[]⟩,.int .i64 0,.slice none 0 0,.slice none 0 0]
abbrev zw21:Array Value:=#[.int .i64 0,.string ⟨#[]⟩,.string ⟨#[]⟩,.bool false,.slice none 0 0,.slice none 0 0,.int .i64 0,.int .i64 0,.int .i64 0,.int .i64 0,.int .i64 0,.bool false,.slice none 0 0,.slice none 0 0,.string ⟨#[]⟩,.slice none 0 0,.slice none 0 0,.string ⟨#[]⟩,.int .i64 0,.slice none 0 0,.slice none 0 0]
abbrev zw10:Array Value:=#[.int .i64 0,.int .i64 0,.bool false,.slice none 0 0,.slice none 0 0,.string ⟨#[]⟩,.slice none 0 0,.bool false,.slice none 0 0,.slice none 0 0]
abbrev zw9:Array Value:=#[.bool false,.slice none 0 0,.slice none 0 0,.bool false,.slice none 0 0,.slice none 0 0,.bool false,.bool false,.bool false]
abbrev zw8:Array Value:=#[.bool false,.slice none 0 0,.slice none 0 0,.bool false,.slice none 0 0,.slice none 0 0,.bool false,.bool false]
abbrev zw7:Array Value:=#[.int .i64 0,.int .i64 0,.bool false,.slice none 0 0,.slice none 0 0,.string ⟨#[]⟩,.slice none 0 0]
def trimTo (xs:List Int):Nat->Nat
 | 0=>0
 | n+1=>if xs.getD n 0=0 then trimTo xs n else n+1
theorem trimTo_le (xs:List Int):∀n,trimTo xs n<=n
 | 0=>Nat.le_refl _
 | n+1=>by unfold trimTo;split;have:=trimTo_le xs n;omega;omega
end Go.Proofs.YtfhjhnofkaiceaaGreatDoor
namespace Go.Proofs.YtfhjhnofkaiceaaGreatDoor
open Go Go.RowKit
def val:List Int->Int
 | []=>0
 | d::r=>d+4294967296*val r
def Dig (l:List Int):Prop:=∀j:Nat,0<=l.getD j 0/\l.getD j 0<=4294967295
theorem val_set:∀(l:List Int) (j:Nat) (d:Int),j<l.length->val (l.set j d)=val l+(d - l.getD j 0)*4294967296^j
 | [],j,d,h=>by simp at h
 | x::l,0,d,h=>by simp[val];omega
 | x::l,j+1,d,h=>by
  have:=val_set l j d (by simpa using h)
  simp only[List.set_cons_succ,val,this,List.getD_cons_succ]
  rw[Int.pow_succ]
  generalize (4294967296:Int)^j=p
  generalize d - l.getD j 0=q
  rw[Int.mul_add,<-Int.mul_assoc,<-Int.mul_assoc,Int.mul_comm 4294967296 q,Int.mul_assoc q 4294967296 p,Int.mul_comm 4294967296 p,<-Int.mul_assoc q p]
  omega
theorem val_take:∀(l:List Int) (k:Nat),k<l.length->val (l.take (k+1))=val (l.take k)+l.getD k 0*4294967296^k
 | [],k,h=>by simp at h
 | x::l,0,h=>by simp[val]
 | x::l,k+1,h=>by
  have:=val_take l k (by simpa using h)
  simp only[List.take_succ_cons,val,this,List.getD_cons_succ]
  rw[Int.pow_succ]
  generalize (4294967296:Int)^k=p
  generalize l.getD k 0=q
  rw[Int.mul_add,Int.mul_comm 4294967296 (q*p),Int.mul_assoc q p 4294967296]
  omega
theorem dig_set {l:List Int} (h:Dig l) {j:Nat} {d:Int} (hd:0<=d/\d<=4294967295):Dig (l.set j d):=by
 intro i
 have:=h i
 simp only[List.getD_eq_getElem?_getD,List.getElem?_set] at this ⊢
 split
 ·split
  ·simpa using hd
  ·simp
 ·exact this
theorem mul_bound {a b:Int} (ha:0<=a/\a<=4294967295) (hb:0<=b/\b<=4294967295):0<=a*b/\a*b<=18446744065119617025:=by
 refine⟨Int.mul_nonneg ha.1 hb.1,?_⟩
 have h:=Int.mul_le_mul ha.2 hb.2 hb.1 (by omega)
 exact Int.le_trans h (by decide)
end Go.Proofs.YtfhjhnofkaiceaaGreatDoor
namespace Go.Proofs.YtfhjhnofkaiceaaGreatDoor
open Go Go.RowKit
structure In (x:Int) (ys os0:List Int) (i k n:Nat) (os:List Int) (c:Int):Prop where
 len:os.length=n
 dig:Dig os
 c0:0<=c/\c<=4294967295
 eq:val os+c*4294967296^(i+k)=val os0+x*val (ys.take k)*4294967296^i
 rest:∀j,i+k<=j->os.getD j 0=os0.getD j 0
theorem sum_bound {x y d c:Int} (hx:0<=x/\x<=4294967295) (hy:0<=y/\y<=4294967295) (hd:0<=d/\d<=4294967295) (hc:0<=c/\c<=4294967295):0<=x*y+d+c/\x*y+d+c<=18446744073709551615:=by
 have:=mul_bound hx hy
 omega
theorem In.step {x:Int} {ys os0 os:List Int} {i k n:Nat} {c:Int} (h:In x ys os0 i k n os c) (hx:0<=x/\x<=4294967295) (hy:Dig ys) (hk:k<ys.length) (hn:i+ys.length<=n):
  In x ys os0 i (k+1) n (os.set (i+k) ((x*ys.getD k 0+os.getD (i+k) 0+c) % 4294967296)) ((x*ys.getD k 0+os.getD (i+k) 0+c) / 4294967296):=by
 have hs:=sum_bound hx (hy k) (h.dig (i+k)) h.c0
 have hv:=val_set os (i+k) ((x*ys.getD k 0+os.getD (i+k) 0+c) % 4294967296) (by rw[h.len];omega)
 have ht:=val_take ys k hk
 refine⟨by simp[h.len],dig_set h.dig ?_,?_,?_,fun j hj=>?_⟩
 ·generalize x*ys.getD k 0+os.getD (i+k) 0+c=s at hs
  omega
 ·generalize x*ys.getD k 0+os.getD (i+k) 0+c=s at hs
  omega
 ·have e:=h.eq
  rw[hv,ht]
  have hp:(4294967296:Int)^(i+(k+1))=4294967296^(i+k)*4294967296:=by rw[<-Nat.add_assoc,Int.pow_succ]
  have hq:(4294967296:Int)^(i+k)=4294967296^k*4294967296^i:=by rw[Int.pow_add,Int.mul_comm]
  have hdm:=Int.emod_add_mul_ediv (x*ys.getD k 0+os.getD (i+k) 0+c) 4294967296
  rw[hp]
  generalize hS:x*ys.getD k 0+os.getD (i+k) 0+c=S at hdm ⊢
  generalize hD:os.getD (i+k) 0=D at hS ⊢
  have lhs:val os+(S % 4294967296 - D)*4294967296^(i+k)+S / 4294967296*(4294967296^(i+k)*4294967296)=val os+c*4294967296^(i+k)+x*ys.getD k 0*4294967296^(i+k):=by
   have e1:S / 4294967296*(4294967296^(i+k)*4294967296)=(4294967296*(S / 4294967296))*4294967296^(i+k):=by
    rw[Int.mul_comm (4294967296^(i+k)) 4294967296,<-Int.mul_assoc,Int.mul_comm (S / 4294967296) 4294967296]
   rw[e1,Int.add_assoc,<-Int.add_mul,Int.add_assoc (val os),<-Int.add_mul]
   congr 2
   omega
  rw[lhs,e,hq,Int.mul_add,Int.add_mul,<-Int.mul_assoc,<-Int.mul_assoc,Int.add_assoc]
 ·have:=h.rest j (by omega)
  rw[<-this]
  simp only[List.getD_eq_getElem?_getD,List.getElem?_set]
  rw[if_neg (by omega)]
structure Out (xs ys:List Int) (n i:Nat) (os:List Int):Prop where
 len:os.length=n
 dig:Dig os
 eq:val os=val (xs.take i)*val ys
 rest:∀j,i+ys.length<=j->os.getD j 0=0
theorem Out.start {xs ys os:List Int} {n i:Nat} (h:Out xs ys n i os):In (xs.getD i 0) ys os i 0 n os 0:=
 ⟨h.len,h.dig,by decide,by simp[val],fun _ _=>rfl⟩
theorem Out.row {xs ys os0 os:List Int} {n i:Nat} {c:Int} (h0:Out xs ys n i os0) (hi:i<xs.length) (hn:xs.length+ys.length=n) (h:In (xs.getD i 0) ys os0 i ys.length n os c):
  Out xs ys n (i+1) (os.set (i+ys.length) c):=by
 have hz:os.getD (i+ys.length) 0=0:=by rw[h.rest _ (Nat.le_refl _)];exact h0.rest _ (Nat.le_refl _)
 have hv:=val_set os (i+ys.length) c (by rw[h.len];omega)
 refine⟨by simp[h.len],dig_set h.dig h.c0,?_,fun j hj=>?_⟩
 ·rw[hv,hz,Int.sub_zero,h.eq,h0.eq,val_take xs i hi,List.take_length,Int.add_mul]
  rw[Int.mul_assoc (xs.getD i 0),Int.mul_comm (val ys),<-Int.mul_assoc]
 ·have:=h.rest j (by omega)
  have h1:=h0.rest j (by omega)
  simp only[List.getD_eq_getElem?_getD,List.getElem?_set] at this h1 ⊢
  rw[if_neg (by omega),this,h1]
theorem Out.zero (xs ys:List Int) (n:Nat):Out xs ys n 0 (List.replicate n 0):=by
 have hg:∀j,(List.replicate n (0:Int)).getD j 0=0:=by
  intro j
  simp only[List.getD_eq_getElem?_getD,List.getElem?_replicate]
  split<;>rfl
 have hv:∀n:Nat,val (List.replicate n 0)=0:=by
  intro n
  induction n with
  | zero=>rfl
  | succ n ih=>simp[List.replicate_succ,val,ih]
 exact⟨by simp,fun j=>by rw[hg j];decide,by simp[hv,val],fun j _=>hg j⟩
end Go.Proofs.YtfhjhnofkaiceaaGreatDoor
namespace Go.Proofs.YtfhjhnofkaiceaaGreatDoor
open Go Go.RowKit
def cells32 (os:List Int):Array Value:=(os.map (Value.int .u32)).toArray
def Blk (w:World) (g:Nat) (os:List Int):Prop:=w.heap[g]?=some (.cells (cells32 os) 137 (0,0))
theorem Blk.cell {w:World} {g:Nat} {os:List Int} (h:Blk w g os) {j:Nat} (hj:j<os.length):w.cell? ⟨g,j,none⟩=some (.int .u32 (os.getD j 0)):=by
 unfold Blk at h
 simp[World.cell?,h,cells32,hj]
theorem Blk.frozen {w:World} {g:Nat} {os:List Int} (h:Blk w g os) (j:Nat):w.frozen? ⟨g,j,none⟩=false:=by
 unfold Blk at h
 simp[World.frozen?,h]
theorem Blk.set {w:World} {g:Nat} {os:List Int} (h:Blk w g os) (j:Nat) (d:Int):Blk (w.setCell ⟨g,j,none⟩ (.int .u32 d)) g (os.set j d):=by
 unfold Blk at h ⊢
 have hlt:g<w.heap.size:=by
  rcases Nat.lt_or_ge g w.heap.size with hl | hl
  ·exact hl
  ·simp[Array.getElem?_eq_none hl] at h
 show(w.heap.modify g _)[g]?=_
 rw[Array.getElem?_modify,if_pos rfl,h]
 simp[cells32,List.map_set]
theorem made_blk {w:World} {g n:Nat} (h:w.ownsRow g 137 1 (.slice (some ⟨g,0,none⟩) n n) n (madeCells #[Value.int .u32 0] n).toList):Blk w g (List.replicate n 0):=by
 obtain⟨_,⟨h1,_⟩ | ⟨g',cap,cur,h1,_,h3,_,_,h6,h7⟩⟩:=h
 ·cases h1
 ·simp only[Value.slice.injEq,Option.some.injEq,Addr.mk.injEq] at h1
  obtain⟨⟨rfl,_⟩,_,rfl⟩:=h1
  unfold Blk
  rw[h3]
  have hcur:cur=cells32 (List.replicate n 0):=by
   apply Array.ext'
   have hl:cur.toList.take (n*1)=cur.toList:=by
    apply List.take_of_length_le
    simp[h6]
   rw[<-hl,h7]
   apply List.ext_getElem?
   intro i
   simp only[madeCells,cells32]
   by_cases hi:i<n
   ·simp[hi,Nat.mod_one]
   ·simp[hi]
  rw[hcur]
end Go.Proofs.YtfhjhnofkaiceaaGreatDoor
namespace Go.Proofs.YtfhjhnofkaiceaaGreatDoor
open Go Go.RowKit
theorem eq_of_agree {xs ys:List Int} (hl:xs.length=ys.length) (h:∀j,j<xs.length->xs.getD j 0=ys.getD j 0):xs=ys:=by
 apply List.ext_getElem hl
 intro i h1 h2
 have:=h i h1
 simpa [h1,h2] using this
theorem not_eq_at {xs ys:List Int} {j:Nat} (h:¬xs.getD j 0=ys.getD j 0):¬xs=ys:=fun e=>h (by rw[e])
end Go.Proofs.YtfhjhnofkaiceaaGreatDoor
namespace Go.Proofs.YtfhjhnofkaiceaaGreatDoor
open Go Go.RowKit
def trim (xs:List Int):List Int:=xs.take (trimTo xs xs.length)
theorem trimTo_last (xs:List Int):∀n,trimTo xs n=0\/∃m,trimTo xs n=m+1/\¬xs.getD m 0=0
 | 0=>.inl rfl
 | n+1=>by
  unfold trimTo
  split
  ·exact trimTo_last xs n
  ·rename_i h;exact .inr ⟨n,rfl,h⟩
def Canon (xs:List Int):Prop:=∀m,xs.length=m+1->¬xs.getD m 0=0
theorem trim_length (xs:List Int):(trim xs).length=trimTo xs xs.length:=by
 have:=trimTo_le xs xs.length
 simp[trim];omega
theorem trim_getD (xs:List Int) (j:Nat) (h:j<(trim xs).length):(trim xs).getD j 0=xs.getD j 0:=by
 rw[trim_length] at h
 simp only[trim,List.getD_eq_getElem?_getD,List.getElem?_take,if_pos h]
theorem canon_trim (xs:List Int):Canon (trim xs):=by
 intro m hm
 rw[trim_getD xs m (by omega)]
 rw[trim_length] at hm
 rcases trimTo_last xs xs.length with h | ⟨k,h1,h2⟩
 ·omega
 ·have:k=m:=by omega
  subst this;exact h2
theorem dig_tail {x:Int} {xs:List Int} (h:Dig (x::xs)):Dig xs:=fun j=>by simpa using h (j+1)
theorem val_nonneg:∀{xs:List Int},Dig xs->0<=val xs
 | [],_=>Int.le_refl _
 | x::xs,h=>by
  have h0:=(h 0).1
  have:=val_nonneg (dig_tail h)
  simp only[List.getD_cons_zero] at h0
  simp only[val];omega
theorem canon_tail {x:Int} {xs:List Int} (h:Canon (x::xs)):Canon xs:=fun m hm=>by
 have:=h (m+1) (by simp[hm])
 simpa using this
end Go.Proofs.YtfhjhnofkaiceaaGreatDoor
namespace Go.Proofs.YtfhjhnofkaiceaaGreatDoor
open Go Go.RowKit
def Sl (w:World) (v:Value) (xs:List Int):Prop:=
 Dig xs/\xs.length<=549755813888/\∃q cap,v=.slice q xs.length cap/\xs.length<=cap/\(xs=[]\/∃b o,q=some ⟨b,o,none⟩/\b<w.heap.size/\∀i,i<xs.length->w.cell? ⟨b,o+i,none⟩=some (.int .u32 (xs.getD i 0)))
theorem Sl.below {w w':World} {v:Value} {xs:List Int} (h:Sl w v xs) (hb:Below w.heap.size w w'):Sl w' v xs:=by
 obtain⟨h1,h2,q,cap,h3,h4,h5⟩:=h
 refine⟨h1,h2,q,cap,h3,h4,h5.imp id ?_⟩
 rintro⟨b,o,e,hlt,hc⟩
 exact⟨b,o,e,Nat.lt_of_lt_of_le hlt hb.size,fun i hi=>(hb.cell (by exact hlt)).trans (hc i hi)⟩
end Go.Proofs.YtfhjhnofkaiceaaGreatDoor
namespace Go.Proofs.YtfhjhnofkaiceaaGreatDoor
open Go Go.RowKit
theorem below_two (w:World) (o o2:Obj):Below w.heap.size w ((w.alloc o).alloc o2):=((Below.refl _ _).alloc (Nat.le_refl _) o).alloc (by show w.heap.size<=(w.heap.push o).size;simp) o2
theorem below_draws {w w1:World} (h:Below w.heap.size w w1) (n:Nat):Below w.heap.size w (w1.drewN n):=⟨h.os,h.tape,h.output,h.size,h.block⟩
def ratEq (n1:Bool) (a c:List Int) (n2:Bool) (b d:List Int):Bool:=
 if val a=0\/val b=0 then decide (val a=0/\val b=0) else(n1==n2)&&decide (val a*(if val d=0 then 1 else val d)=val b*(if val c=0 then 1 else val c))
end Go.Proofs.YtfhjhnofkaiceaaGreatDoor
