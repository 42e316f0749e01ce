import Derived.Test.YtaonejnicgbifaaGreatDoorProg
import Derived.WalkKit
import Derived.ProofKit
import Derived.OpenShut
import Derived.Deep.RegionHeld
import Derived.Deep.QuietTactic
import Derived.BigQuiet
import Derived.Deep.RegionWith
namespace Go.Proofs.YtaonejnicgbifaaGreatDoor
open Go Go.RowKit
abbrev zA:Array Value:=#[.bool false,.slice none 0 0,.slice none 0 0,.bool false,.slice none 0 0,.slice none 0 0,.bool false,.bool false,.bool false]
abbrev zB:Array Value:=#[.bool false,.slice none 0 0,.slice none 0 0,.bool false,.slice none 0 0,.slice none 0 0,.bool false,.bool false]
abbrev zC:Array Value:=#[.bool false,.slice none 0 0,.slice none 0 0]
abbrev qA (g:Bool) (a:Option Addr) (b c:Nat) (d:Option Addr) (e f:Nat):Array Value:=#[.bool g,.slice a b c,.slice d e f]
abbrev iA (g1:Bool) (q1:Option Addr) (l1 c1:Nat) (p1:Option Addr) (m1 e1:Nat) (g2:Bool) (q2:Option Addr) (l2 c2:Nat) (p2:Option Addr) (m2 e2:Nat) (li hh:Bool):Array Value:=#[.bool g1,.slice q1 l1 c1,.slice p1 m1 e1,.bool g2,.slice q2 l2 c2,.slice p2 m2 e2,.bool li,.bool hh]
abbrev iB (g1:Bool) (q1:Option Addr) (l1 c1:Nat) (p1:Option Addr) (m1 e1:Nat) (g2:Bool) (q2:Option Addr) (l2 c2:Nat) (p2:Option Addr) (m2 e2:Nat) (li hh em:Bool):Array Value:=#[.bool g1,.slice q1 l1 c1,.slice p1 m1 e1,.bool g2,.slice q2 l2 c2,.slice p2 m2 e2,.bool li,.bool hh,.bool em]
abbrev jA (m:ByteArray) (g1:Bool) (q1:Option Addr) (l1 c1:Nat) (p1:Option Addr) (m1 e1:Nat) (g2:Bool) (q2:Option Addr) (l2 c2:Nat) (p2:Option Addr) (m2 e2:Nat) (li hh:Bool):Array Value:=#[.string m,.bool g1,.slice q1 l1 c1,.slice p1 m1 e1,.bool g2,.slice q2 l2 c2,.slice p2 m2 e2,.bool li,.bool hh]
abbrev mA (k f:Int) (g:Bool) (aq:Option Addr) (an ac:Nat) (cq:Option Addr) (cn cc:Nat) (m:ByteArray) (sq:Option Addr) (sn sc:Nat):Array Value:=#[.int .i64 k,.int .i64 f,.bool g,.slice aq an ac,.slice cq cn cc,.string m,.slice sq sn sc]
abbrev mB (k f:Int) (g:Bool) (aq:Option Addr) (an ac:Nat) (cq:Option Addr) (cn cc:Nat) (m:ByteArray) (sq:Option Addr) (sn sc:Nat) (s:Bool):Array Value:=#[.int .i64 k,.int .i64 f,.bool g,.slice aq an ac,.slice cq cn cc,.string m,.slice sq sn sc,.bool s]
abbrev mC (k f:Int) (g:Bool) (aq:Option Addr) (an ac:Nat) (cq:Option Addr) (cn cc:Nat) (m:ByteArray) (sq:Option Addr) (sn sc:Nat) (s:Bool) (bq:Option Addr) (nb bc:Nat) (eq:Option Addr) (nc ec:Nat):Array Value:=#[.int .i64 k,.int .i64 f,.bool g,.slice aq an ac,.slice cq cn cc,.string m,.slice sq sn sc,.bool s,.slice bq nb bc,.slice eq nc ec]
theorem zac {p:Prop} (h:p):Hid p:=h
theorem pz:(∀(a:Act) (d:Tmp) (v:Value),a.put (some d) v={ a with tmps:=a.tmps.setIfInBounds d v })/\(∀(a:Act) (v:Value),a.put none v=a)/\
  (∀{α:Type} {xs:List α} {i:Nat} (h:i<xs.toArray.size),xs.toArray[i]=xs[i]'(by simpa using h))/\
  (∀{α:Type} (a:α) (l:List α) (i:Nat) (h:i+1<(a::l).length),(a::l)[i+1]=l[i]'(by simpa using h))/\
  (∀{α:Type} (a:α) (l:List α) (h:0<(a::l).length),(a::l)[0]=a)/\
  (∀{α:Type} (l:List α) (i:Nat) (a:α),l.toArray.setIfInBounds i a=(l.set i a).toArray)/\
  (∀{α:Type} {x:α} {xs:List α} {a:α},(x::xs).set 0 a=a::xs)/\
  (∀{α:Type} {x:α} {xs:List α} {i:Nat} {a:α},(x::xs).set (i+1) a=x::xs.set i a):=
 ⟨fun _ _ _=>rfl,fun _ _=>rfl,fun _=>by simp,fun _ _ _ _=>rfl,fun _ _ _=>rfl,fun _ _ _=>by simp,rfl,rfl⟩
section
variable {P:Program} {ops:Array Oper} {Q:Exit->Act->World->Prop} {md:Region.Mode} {S:World->Prop}
theorem tk {oi:Oper} {fuel:Nat} {listed:Array Bool} {a:Act} {w:World} (i:Nat) (v:Value) (hi:ops[i]?=some oi) (hS:S w)
  (h:wpAnyH P md ops Q S fuel (listed.setIfInBounds i true) (a.put oi.dst v) w)
  (hy:YieldsIf P ops S oi v a:=by exact .inl ⟨by rfl,fun z hSz=>by go_simp⟩)
  (hs:Region.noSelect ops=true:=by kernel_rfl) (hf:Region.free md ops listed i=true:=by kernel_rfl) (hr:(Region.ready md ops listed).contains i=true:=by kernel_rfl)
  (hQ:∀(c:List PanicEntry) (a:Act) (w:World),Q (.panic c) (a.put oi.dst v) w->Q (.panic c) a w:=by exact fun _ _ _ h=>h):wpAnyH P md ops Q S (fuel+1) listed a w:=
 wpAnyH_take hi hs hf hr hQ hy hS h
theorem rdy {fuel:Nat} {listed:Array Bool} {a:Act} {w:World} (i:Nat) {o:Oper} (ho:ops[i]?=some o)
  (h:∀(K':Act->World->Prop),Shut (∀(a:Act) (w:World),S w->(S w->wpAnyH P md ops Q S fuel (listed.setIfInBounds i true) a w)->K' a w)->
    if Region.wanted o (yielded ops a.tmps)=true then Oper.wp P o a w K' Q else K' (a.put o.dst undef) w)
  (hr:Region.ready md ops listed=[i]:=by kernel_rfl):wpAnyH P md ops Q S (fuel+1) listed a w:=
 wpAnyH_ready hr (by simp) (AllReadyH.cons ho h AllReadyH.nil)
end
def trimTo (xs:List Int):Nat->Nat
 | 0=>0
 | n+1=>if xs.getD n 0=0 then trimTo xs n else n+1
theorem zam (xs:List Int):∀n,trimTo xs n<=n
 | 0=>Nat.le_refl _
 | n+1=>by unfold trimTo;split;have:=zam xs n;omega;omega
def val:List Int->Int
 | []=>0
 | d::r=>d+4294967296*val r
def Dig (l:List Int):Prop:=∀j:Nat,0<=l.getD j 0/\l.getD j 0<=4294967295
theorem zfg:∀(l:List Int) (j:Nat) (d:Int),j<l.length->val (l.set j d)=val l+(d - l.getD j 0)*4294967296^j
 | [],j,d,h=>by simp at h
 | x::l,0,d,h=>by simp[val];omega
 | x::l,j+1,d,h=>by
  have:=zfg l j d (by simpa using h)
  simp only[List.set_cons_succ,val,this,List.getD_cons_succ]
  rw[Int.pow_succ]
  generalize (4294967296:Int)^j=p
  generalize d - l.getD j 0=q
  rw[Int.mul_add,<-Int.mul_assoc,<-Int.mul_assoc,Int.mul_comm 4294967296 q,Int.mul_assoc q 4294967296 p,Int.mul_comm 4294967296 p,<-Int.mul_assoc q p]
  omega
theorem zc8:∀(l:List Int) (k:Nat),k<l.length->val (l.take (k+1))=val (l.take k)+l.getD k 0*4294967296^k
 | [],k,h=>by simp at h
 | x::l,0,h=>by simp[val]
 | x::l,k+1,h=>by
  have:=zc8 l k (by simpa using h)
  simp only[List.take_succ_cons,val,this,List.getD_cons_succ]
  rw[Int.pow_succ]
  generalize (4294967296:Int)^k=p
  generalize l.getD k 0=q
  rw[Int.mul_add,Int.mul_comm 4294967296 (q*p),Int.mul_assoc q p 4294967296]
  omega
theorem zck {l:List Int} (h:Dig l) {j:Nat} {d:Int} (hd:0<=d/\d<=4294967295):Dig (l.set j d):=by
 intro i
 have:=h i
 simp only[List.getD_eq_getElem?_getD,List.getElem?_set] at this ⊢
 split
 ·split
  ·simpa using hd
  ·simp
 ·exact this
theorem zb1 {a b:Int} (ha:0<=a/\a<=4294967295) (hb:0<=b/\b<=4294967295):0<=a*b/\a*b<=18446744065119617025:=by
 refine⟨Int.mul_nonneg ha.1 hb.1,?_⟩
 have h:=Int.mul_le_mul ha.2 hb.2 hb.1 (by omega)
 exact Int.le_trans h (by decide)
structure In (x:Int) (ys os0:List Int) (i k n:Nat) (os:List Int) (c:Int):Prop where
 len:os.length=n
 dig:Dig os
 c0:0<=c/\c<=4294967295
 eq:val os+c*4294967296^(i+k)=val os0+x*val (ys.take k)*4294967296^i
 rest:∀j,i+k<=j->os.getD j 0=os0.getD j 0
theorem zgf {x y d c:Int} (hx:0<=x/\x<=4294967295) (hy:0<=y/\y<=4294967295) (hd:0<=d/\d<=4294967295) (hc:0<=c/\c<=4294967295):0<=x*y+d+c/\x*y+d+c<=18446744073709551615:=by
 have:=zb1 hx hy
 omega
theorem In.step {x:Int} {ys os0 os:List Int} {i k n:Nat} {c:Int} (h:In x ys os0 i k n os c) (hx:0<=x/\x<=4294967295) (hy:Dig ys) (hk:k<ys.length) (hn:i+ys.length<=n):
  In x ys os0 i (k+1) n (os.set (i+k) ((x*ys.getD k 0+os.getD (i+k) 0+c) % 4294967296)) ((x*ys.getD k 0+os.getD (i+k) 0+c) / 4294967296):=by
 have hs:=zgf hx (hy k) (h.dig (i+k)) h.c0
 have hv:=zfg os (i+k) ((x*ys.getD k 0+os.getD (i+k) 0+c) % 4294967296) (by rw[h.len];omega)
 have ht:=zc8 ys k hk
 refine⟨by simp[h.len],zck h.dig ?_,?_,?_,fun j hj=>?_⟩
 ·generalize x*ys.getD k 0+os.getD (i+k) 0+c=s at hs
  omega
 ·generalize x*ys.getD k 0+os.getD (i+k) 0+c=s at hs
  omega
 ·have e:=h.eq
  rw[hv,ht]
  have hp:(4294967296:Int)^(i+(k+1))=4294967296^(i+k)*4294967296:=by rw[<-Nat.add_assoc,Int.pow_succ]
  have hq:(4294967296:Int)^(i+k)=4294967296^k*4294967296^i:=by rw[Int.pow_add,Int.mul_comm]
  have hdm:=Int.emod_add_mul_ediv (x*ys.getD k 0+os.getD (i+k) 0+c) 4294967296
  rw[hp]
  generalize hS:x*ys.getD k 0+os.getD (i+k) 0+c=S at hdm ⊢
  generalize hD:os.getD (i+k) 0=D at hS ⊢
  have lhs:val os+(S % 4294967296 - D)*4294967296^(i+k)+S / 4294967296*(4294967296^(i+k)*4294967296)=val os+c*4294967296^(i+k)+x*ys.getD k 0*4294967296^(i+k):=by
   have e1:S / 4294967296*(4294967296^(i+k)*4294967296)=(4294967296*(S / 4294967296))*4294967296^(i+k):=by
    rw[Int.mul_comm (4294967296^(i+k)) 4294967296,<-Int.mul_assoc,Int.mul_comm (S / 4294967296) 4294967296]
   rw[e1,Int.add_assoc,<-Int.add_mul,Int.add_assoc (val os),<-Int.add_mul]
   congr 2
   omega
  rw[lhs,e,hq,Int.mul_add,Int.add_mul,<-Int.mul_assoc,<-Int.mul_assoc,Int.add_assoc]
 ·have:=h.rest j (by omega)
  rw[<-this]
  simp only[List.getD_eq_getElem?_getD,List.getElem?_set]
  rw[if_neg (by omega)]
structure Out (xs ys:List Int) (n i:Nat) (os:List Int):Prop where
 len:os.length=n
 dig:Dig os
 eq:val os=val (xs.take i)*val ys
 rest:∀j,i+ys.length<=j->os.getD j 0=0
theorem Out.start {xs ys os:List Int} {n i:Nat} (h:Out xs ys n i os):In (xs.getD i 0) ys os i 0 n os 0:=
 ⟨h.len,h.dig,by decide,by simp[val],fun _ _=>rfl⟩
theorem Out.row {xs ys os0 os:List Int} {n i:Nat} {c:Int} (h0:Out xs ys n i os0) (hi:i<xs.length) (hn:xs.length+ys.length=n) (h:In (xs.getD i 0) ys os0 i ys.length n os c):
  Out xs ys n (i+1) (os.set (i+ys.length) c):=by
 have hz:os.getD (i+ys.length) 0=0:=by rw[h.rest _ (Nat.le_refl _)];exact h0.rest _ (Nat.le_refl _)
 have hv:=zfg os (i+ys.length) c (by rw[h.len];omega)
 refine⟨by simp[h.len],zck h.dig h.c0,?_,fun j hj=>?_⟩
 ·rw[hv,hz,Int.sub_zero,h.eq,h0.eq,zc8 xs i hi,List.take_length,Int.add_mul]
  rw[Int.mul_assoc (xs.getD i 0),Int.mul_comm (val ys),<-Int.mul_assoc]
 ·have:=h.rest j (by omega)
  have h1:=h0.rest j (by omega)
  simp only[List.getD_eq_getElem?_getD,List.getElem?_set] at this h1 ⊢
  rw[if_neg (by omega),this,h1]
theorem Out.zero (xs ys:List Int) (n:Nat):Out xs ys n 0 (List.replicate n 0):=by
 have hg:∀j,(List.replicate n (0:Int)).getD j 0=0:=by
  intro j
  simp only[List.getD_eq_getElem?_getD,List.getElem?_replicate]
  split<;>rfl
 have hv:∀n:Nat,val (List.replicate n 0)=0:=by
  intro n
  induction n with
  | zero=>rfl
  | succ n ih=>simp[List.replicate_succ,val,ih]
 exact⟨by simp,fun j=>by rw[hg j];decide,by simp[hv,val],fun j _=>hg j⟩
def cells32 (os:List Int):Array Value:=(os.map (Value.int .u32)).toArray
def Blk (w:World) (g:Nat) (os:List Int):Prop:=w.heap[g]?=some (.cells (cells32 os) 150 (0,0))
theorem Blk.cell {w:World} {g:Nat} {os:List Int} (h:Blk w g os) {j:Nat} (hj:j<os.length):w.cell? ⟨g,j,none⟩=some (.int .u32 (os.getD j 0)):=by
 unfold Blk at h
 simp[World.cell?,h,cells32,hj]
theorem Blk.frozen {w:World} {g:Nat} {os:List Int} (h:Blk w g os) (j:Nat):w.frozen? ⟨g,j,none⟩=false:=by
 unfold Blk at h
 simp[World.frozen?,h]
theorem Blk.set {w:World} {g:Nat} {os:List Int} (h:Blk w g os) (j:Nat) (d:Int):Blk (w.setCell ⟨g,j,none⟩ (.int .u32 d)) g (os.set j d):=by
 unfold Blk at h ⊢
 have hlt:g<w.heap.size:=by
  rcases Nat.lt_or_ge g w.heap.size with hl | hl
  ·exact hl
  ·simp[Array.getElem?_eq_none hl] at h
 show(w.heap.modify g _)[g]?=_
 rw[Array.getElem?_modify,if_pos rfl,h]
 simp[cells32,List.map_set]
theorem zbq {w:World} {g n:Nat} (h:w.ownsRow g 150 1 (.slice (some ⟨g,0,none⟩) n n) n (madeCells #[Value.int .u32 0] n).toList):Blk w g (List.replicate n 0):=by
 obtain⟨_,⟨h1,_⟩ | ⟨g',cap,cur,h1,_,h3,_,_,h6,h7⟩⟩:=h
 ·cases h1
 ·simp only[Value.slice.injEq,Option.some.injEq,Addr.mk.injEq] at h1
  obtain⟨⟨rfl,_⟩,_,rfl⟩:=h1
  unfold Blk
  rw[h3]
  have jx:cur=cells32 (List.replicate n 0):=by
   apply Array.ext'
   have hl:cur.toList.take (n*1)=cur.toList:=by
    apply List.take_of_length_le
    simp[h6]
   rw[<-hl,h7]
   apply List.ext_getElem?
   intro i
   simp only[madeCells,cells32]
   by_cases hi:i<n
   ·simp[hi,Nat.mod_one]
   ·simp[hi]
  rw[jx]
theorem zcy {xs ys:List Int} (hl:xs.length=ys.length) (h:∀j,j<xs.length->xs.getD j 0=ys.getD j 0):xs=ys:=by
 apply List.ext_getElem hl
 intro i h1 h2
 have:=h i h1
 simpa [h1,h2] using this
theorem zb2 {xs ys:List Int} {j:Nat} (h:¬xs.getD j 0=ys.getD j 0):¬xs=ys:=fun e=>h (by rw[e])
def trim (xs:List Int):List Int:=xs.take (trimTo xs xs.length)
theorem za6:∀(a b:List Int),val (a++b)=val a+4294967296^a.length*val b
 | [],b=>by simp[val]
 | x::a,b=>by
  simp only[List.cons_append,val,za6 a b,List.length_cons,Int.pow_succ]
  rw[Int.mul_add,<-Int.mul_assoc,Int.mul_comm 4294967296 (4294967296^a.length)]
  omega
theorem zc9 (xs:List Int):∀n,n<=xs.length->val (xs.take (trimTo xs n))=val (xs.take n)
 | 0,_=>rfl
 | n+1,h=>by
  unfold trimTo
  split
  ·rename_i h0
   rw[zc9 xs n (by omega),zc8 xs n (by omega),h0];simp
  ·rfl
theorem zbl (xs:List Int):val (trim xs)=val xs:=by
 unfold trim
 rw[zc9 xs xs.length (Nat.le_refl _),List.take_length]
theorem zei (xs:List Int):∀n,trimTo xs n=0\/∃m,trimTo xs n=m+1/\¬xs.getD m 0=0
 | 0=>.inl rfl
 | n+1=>by
  unfold trimTo
  split
  ·exact zei xs n
  ·rename_i h;exact .inr ⟨n,rfl,h⟩
def Canon (xs:List Int):Prop:=∀m,xs.length=m+1->¬xs.getD m 0=0
theorem zai (xs:List Int):(trim xs).length=trimTo xs xs.length:=by
 have:=zam xs xs.length
 simp[trim];omega
theorem zbm (xs:List Int) (j:Nat) (h:j<(trim xs).length):(trim xs).getD j 0=xs.getD j 0:=by
 rw[zai] at h
 simp only[trim,List.getD_eq_getElem?_getD,List.getElem?_take,if_pos h]
theorem zak (xs:List Int):Canon (trim xs):=by
 intro m hm
 rw[zbm xs m (by omega)]
 rw[zai] at hm
 rcases zei xs xs.length with h | ⟨k,h1,h2⟩
 ·omega
 ·have:k=m:=by omega
  subst this;exact h2
theorem zfh {xs:List Int} (h:Dig xs):Dig (trim xs):=by
 intro j
 have:=h j
 simp only[trim,List.getD_eq_getElem?_getD,List.getElem?_take] at this ⊢
 split
 ·exact this
 ·simp
theorem zcr {x:Int} {xs:List Int} (h:Dig (x::xs)):Dig xs:=fun j=>by simpa using h (j+1)
theorem zaf:∀{xs:List Int},Dig xs->0<=val xs
 | [],_=>Int.le_refl _
 | x::xs,h=>by
  have h0:=(h 0).1
  have:=zaf (zcr h)
  simp only[List.getD_cons_zero] at h0
  simp only[val];omega
theorem zbr {x:Int} {xs:List Int} (h:Canon (x::xs)):Canon xs:=fun m hm=>by
 have:=h (m+1) (by simp[hm])
 simpa using this
theorem zca:∀{xs:List Int},Dig xs->Canon xs->xs≠[]->0<val xs
 | [],_,_,h=>absurd rfl h
 | [x],hd,hc,_=>by
  have h1:=hc 0 rfl
  have h0:=(hd 0).1
  simp at h1 h0
  simp[val];omega
 | x::y::xs,hd,hc,_=>by
  have:=zca (zcr hd) (zbr hc) (by simp)
  have h0:=(hd 0).1
  simp only[List.getD_cons_zero] at h0
  rw[val];omega
theorem zk7:∀{xs ys:List Int},Dig xs->Dig ys->Canon xs->Canon ys->val xs=val ys->xs=ys
 | [],[],_,_,_,_,_=>rfl
 | [],y::ys,_,hd,_,hc,h=>by have:=zca hd hc (by simp);rw[<-h] at this;simp[val] at this
 | x::xs,[],hd,_,hc,_,h=>by have:=zca hd hc (by simp);rw[h] at this;simp[val] at this
 | x::xs,y::ys,hx,hy,cx,cy,h=>by
  have h1:=hx 0
  have h2:=hy 0
  simp only[List.getD_cons_zero] at h1 h2
  simp only[val] at h
  have e1:x=y:=by omega
  have e2:val xs=val ys:=by omega
  rw[e1,zk7 (zcr hx) (zcr hy) (zbr cx) (zbr cy) e2]
set_option maxRecDepth 100000
def Sl (w:World) (v:Value) (xs:List Int):Prop:=
 Dig xs/\xs.length<=549755813888/\∃q cap,v=.slice q xs.length cap/\xs.length<=cap/\(xs=[]\/∃b o,q=some ⟨b,o,none⟩/\b<w.heap.size/\∀i,i<xs.length->w.cell? ⟨b,o+i,none⟩=some (.int .u32 (xs.getD i 0)))
theorem Sl.below {w w':World} {v:Value} {xs:List Int} (h:Sl w v xs) (hb:Below w.heap.size w w'):Sl w' v xs:=by
 obtain⟨h1,h2,q,cap,h3,h4,h5⟩:=h
 refine⟨h1,h2,q,cap,h3,h4,h5.imp id ?_⟩
 rintro⟨b,o,e,hlt,hc⟩
 exact⟨b,o,e,Nat.lt_of_lt_of_le hlt hb.size,fun i hi=>(hb.cell (by exact hlt)).trans (hc i hi)⟩
theorem zah (w:World) (o o2:Obj):Below w.heap.size w ((w.alloc o).alloc o2):=((Below.refl _ _).alloc (Nat.le_refl _) o).alloc (by show w.heap.size<=(w.heap.push o).size;simp) o2
theorem zaj {w w1:World} (h:Below w.heap.size w w1) (n:Nat):Below w.heap.size w (w1.drewN n):=⟨h.os,h.tape,h.output,h.size,h.block⟩
def ratEq (n1:Bool) (a c:List Int) (n2:Bool) (b d:List Int):Bool:=
 if val a=0\/val b=0 then decide (val a=0/\val b=0) else(n1==n2)&&decide (val a*(if val d=0 then 1 else val d)=val b*(if val c=0 then 1 else val c))
def val16:List Int->Int
 | []=>0
 | d::r=>d+65536*val16 r
def Dig16 (l:List Int):Prop:=∀j:Nat,0<=l.getD j 0/\l.getD j 0<=65535
theorem zda:∀(l:List Int) (j:Nat) (d:Int),j<l.length->val16 (l.set j d)=val16 l+(d - l.getD j 0)*65536^j
 | [],j,d,h=>by simp at h
 | x::l,0,d,h=>by simp[val16];omega
 | x::l,j+1,d,h=>by
  have:=zda l j d (by simpa using h)
  simp only[List.set_cons_succ,val16,this,List.getD_cons_succ]
  rw[Int.pow_succ]
  generalize (65536:Int)^j=p
  generalize d - l.getD j 0=q
  rw[Int.mul_add,<-Int.mul_assoc,<-Int.mul_assoc,Int.mul_comm 65536 q,Int.mul_assoc q 65536 p,Int.mul_comm 65536 p,<-Int.mul_assoc q p]
  omega
theorem zb3:∀(l:List Int) (k:Nat),k<l.length->val16 (l.take (k+1))=val16 (l.take k)+l.getD k 0*65536^k
 | [],k,h=>by simp at h
 | x::l,0,h=>by simp[val16]
 | x::l,k+1,h=>by
  have:=zb3 l k (by simpa using h)
  simp only[List.take_succ_cons,val16,this,List.getD_cons_succ]
  rw[Int.pow_succ]
  generalize (65536:Int)^k=p
  generalize l.getD k 0=q
  rw[Int.mul_add,Int.mul_comm 65536 (q*p),Int.mul_assoc q p 65536]
  omega
theorem zcl {l:List Int} (h:Dig16 l) {j:Nat} {d:Int} (hd:0<=d/\d<=65535):Dig16 (l.set j d):=by
 intro i
 have:=h i
 simp only[List.getD_eq_getElem?_getD,List.getElem?_set] at this ⊢
 split
 ·split
  ·simpa using hd
  ·simp
 ·exact this
theorem zbs {a b:Int} (ha:0<=a/\a<=65535) (hb:0<=b/\b<=65535):0<=a*b/\a*b<=4294836225:=by
 refine⟨Int.mul_nonneg ha.1 hb.1,?_⟩
 have h:=Int.mul_le_mul ha.2 hb.2 hb.1 (by omega)
 exact Int.le_trans h (by decide)
structure In16 (x:Int) (ys os0:List Int) (i k n:Nat) (os:List Int) (c:Int):Prop where
 len:os.length=n
 dig:Dig16 os
 c0:0<=c/\c<=65535
 eq:val16 os+c*65536^(i+k)=val16 os0+x*val16 (ys.take k)*65536^i
 rest:∀j,i+k<=j->os.getD j 0=os0.getD j 0
theorem zej {x y d c:Int} (hx:0<=x/\x<=65535) (hy:0<=y/\y<=65535) (hd:0<=d/\d<=65535) (hc:0<=c/\c<=65535):0<=x*y+d+c/\x*y+d+c<=4294967295:=by
 have:=zbs hx hy
 omega
theorem In16.step {x:Int} {ys os0 os:List Int} {i k n:Nat} {c:Int} (h:In16 x ys os0 i k n os c) (hx:0<=x/\x<=65535) (hy:Dig16 ys) (hk:k<ys.length) (hn:i+ys.length<=n):
  In16 x ys os0 i (k+1) n (os.set (i+k) ((x*ys.getD k 0+os.getD (i+k) 0+c) % 65536)) ((x*ys.getD k 0+os.getD (i+k) 0+c) / 65536):=by
 have hs:=zej hx (hy k) (h.dig (i+k)) h.c0
 have hv:=zda os (i+k) ((x*ys.getD k 0+os.getD (i+k) 0+c) % 65536) (by rw[h.len];omega)
 have ht:=zb3 ys k hk
 refine⟨by simp[h.len],zcl h.dig ?_,?_,?_,fun j hj=>?_⟩
 ·generalize x*ys.getD k 0+os.getD (i+k) 0+c=s at hs
  omega
 ·generalize x*ys.getD k 0+os.getD (i+k) 0+c=s at hs
  omega
 ·have e:=h.eq
  rw[hv,ht]
  have hp:(65536:Int)^(i+(k+1))=65536^(i+k)*65536:=by rw[<-Nat.add_assoc,Int.pow_succ]
  have hq:(65536:Int)^(i+k)=65536^k*65536^i:=by rw[Int.pow_add,Int.mul_comm]
  have hdm:=Int.emod_add_mul_ediv (x*ys.getD k 0+os.getD (i+k) 0+c) 65536
  rw[hp]
  generalize hS:x*ys.getD k 0+os.getD (i+k) 0+c=S at hdm ⊢
  generalize hD:os.getD (i+k) 0=D at hS ⊢
  have lhs:val16 os+(S % 65536 - D)*65536^(i+k)+S / 65536*(65536^(i+k)*65536)=val16 os+c*65536^(i+k)+x*ys.getD k 0*65536^(i+k):=by
   have e1:S / 65536*(65536^(i+k)*65536)=(65536*(S / 65536))*65536^(i+k):=by
    rw[Int.mul_comm (65536^(i+k)) 65536,<-Int.mul_assoc,Int.mul_comm (S / 65536) 65536]
   rw[e1,Int.add_assoc,<-Int.add_mul,Int.add_assoc (val16 os),<-Int.add_mul]
   congr 2
   omega
  rw[lhs,e,hq,Int.mul_add,Int.add_mul,<-Int.mul_assoc,<-Int.mul_assoc,Int.add_assoc]
 ·have:=h.rest j (by omega)
  rw[<-this]
  simp only[List.getD_eq_getElem?_getD,List.getElem?_set]
  rw[if_neg (by omega)]
structure Out16 (xs ys:List Int) (n i:Nat) (os:List Int):Prop where
 len:os.length=n
 dig:Dig16 os
 eq:val16 os=val16 (xs.take i)*val16 ys
 rest:∀j,i+ys.length<=j->os.getD j 0=0
theorem Out16.start {xs ys os:List Int} {n i:Nat} (h:Out16 xs ys n i os):In16 (xs.getD i 0) ys os i 0 n os 0:=
 ⟨h.len,h.dig,by decide,by simp[val16],fun _ _=>rfl⟩
theorem Out16.row {xs ys os0 os:List Int} {n i:Nat} {c:Int} (h0:Out16 xs ys n i os0) (hi:i<xs.length) (hn:xs.length+ys.length=n) (h:In16 (xs.getD i 0) ys os0 i ys.length n os c):
  Out16 xs ys n (i+1) (os.set (i+ys.length) c):=by
 have hz:os.getD (i+ys.length) 0=0:=by rw[h.rest _ (Nat.le_refl _)];exact h0.rest _ (Nat.le_refl _)
 have hv:=zda os (i+ys.length) c (by rw[h.len];omega)
 refine⟨by simp[h.len],zcl h.dig h.c0,?_,fun j hj=>?_⟩
 ·rw[hv,hz,Int.sub_zero,h.eq,h0.eq,zb3 xs i hi,List.take_length,Int.add_mul]
  rw[Int.mul_assoc (xs.getD i 0),Int.mul_comm (val16 ys),<-Int.mul_assoc]
 ·have:=h.rest j (by omega)
  have h1:=h0.rest j (by omega)
  simp only[List.getD_eq_getElem?_getD,List.getElem?_set] at this h1 ⊢
  rw[if_neg (by omega),this,h1]
theorem Out16.zero (xs ys:List Int) (n:Nat):Out16 xs ys n 0 (List.replicate n 0):=by
 have hg:∀j,(List.replicate n (0:Int)).getD j 0=0:=by
  intro j
  simp only[List.getD_eq_getElem?_getD,List.getElem?_replicate]
  split<;>rfl
 have hv:∀n:Nat,val16 (List.replicate n 0)=0:=by
  intro n
  induction n with
  | zero=>rfl
  | succ n ih=>simp[List.replicate_succ,val16,ih]
 exact⟨by simp,fun j=>by rw[hg j];decide,by simp[hv,val16],fun j _=>hg j⟩
theorem zaz:∀(a b:List Int),val16 (a++b)=val16 a+65536^a.length*val16 b
 | [],b=>by simp[val16]
 | x::a,b=>by
  simp only[List.cons_append,val16,zaz a b,List.length_cons,Int.pow_succ]
  rw[Int.mul_add,<-Int.mul_assoc,Int.mul_comm 65536 (65536^a.length)]
  omega
theorem zcm (xs:List Int):∀n,n<=xs.length->val16 (xs.take (trimTo xs n))=val16 (xs.take n)
 | 0,_=>rfl
 | n+1,h=>by
  unfold trimTo
  split
  ·rename_i h0
   rw[zcm xs n (by omega),zb3 xs n (by omega),h0];simp
  ·rfl
theorem zao (xs:List Int):val16 (trim xs)=val16 xs:=by
 unfold trim
 rw[zcm xs xs.length (Nat.le_refl _),List.take_length]
theorem zas {xs:List Int} (h:Dig16 xs):Dig16 (trim xs):=by
 intro j
 have:=h j
 simp only[trim,List.getD_eq_getElem?_getD,List.getElem?_take] at this ⊢
 split
 ·exact this
 ·simp
theorem zb4 {x:Int} {xs:List Int} (h:Dig16 (x::xs)):Dig16 xs:=fun j=>by simpa using h (j+1)
theorem zag:∀{xs:List Int},Dig16 xs->0<=val16 xs
 | [],_=>Int.le_refl _
 | x::xs,h=>by
  have h0:=(h 0).1
  have:=zag (zb4 h)
  simp only[List.getD_cons_zero] at h0
  simp only[val16];omega
theorem za7:∀{xs:List Int},Dig16 xs->Canon xs->xs≠[]->0<val16 xs
 | [],_,_,h=>absurd rfl h
 | [x],hd,hc,_=>by
  have h1:=hc 0 rfl
  have h0:=(hd 0).1
  simp at h1 h0
  simp[val16];omega
 | x::y::xs,hd,hc,_=>by
  have:=za7 (zb4 hd) (zbr hc) (by simp)
  have h0:=(hd 0).1
  simp only[List.getD_cons_zero] at h0
  rw[val16];omega
theorem zgg:∀{xs ys:List Int},Dig16 xs->Dig16 ys->Canon xs->Canon ys->val16 xs=val16 ys->xs=ys
 | [],[],_,_,_,_,_=>rfl
 | [],y::ys,_,hd,_,hc,h=>by have:=za7 hd hc (by simp);rw[<-h] at this;simp[val16] at this
 | x::xs,[],hd,_,hc,_,h=>by have:=za7 hd hc (by simp);rw[h] at this;simp[val16] at this
 | x::xs,y::ys,hx,hy,cx,cy,h=>by
  have h1:=hx 0
  have h2:=hy 0
  simp only[List.getD_cons_zero] at h1 h2
  simp only[val16] at h
  have e1:x=y:=by omega
  have e2:val16 xs=val16 ys:=by omega
  rw[e1,zgg (zb4 hx) (zb4 hy) (zbr cx) (zbr cy) e2]
theorem zfi {xs ys:List Int} (hx:Dig16 xs) (hy:Dig16 ys):trim xs=trim ys↔val16 xs=val16 ys:=by
 constructor
 ·intro h;rw[<-zao xs,<-zao ys,h]
 ·intro h;exact zgg (zas hx) (zas hy) (zak xs) (zak ys) (by rw[zao,zao,h])
theorem zdo {xs:List Int} (h:Dig16 xs):trim xs=[]↔val16 xs=0:=by
 rw[show ([]:List Int)=trim [] from rfl,zfi h (fun j=>by simp)]
 simp[val16]
theorem zbe (b o len cap:Nat) (xs:List Int) (w:World) (hc:∀i,i<len->w.cell? ⟨b,o+i,none⟩=some (.int .u32 (xs.getD i 0))) (hm:len<=cap) (hm2:len<=1099511627776):
  Calls Tryz.prog 97 #[.slice (some ⟨b,o,none⟩) len cap] w fun e w'=>e=.returned (.slice (some ⟨b,o,none⟩) (trimTo xs len) cap)/\w'=w:=by
 go_enter Tryz.func97,Tryz.ntmps97
 go_wp2
 go_loop [3] (fun i=>∃k:Nat,k<=len/\i=.int .i64 k/\trimTo xs k=trimTo xs len) (fun i=>(intOf i).toNat)
 case atStart=>exact⟨len,Nat.le_refl _,rfl,rfl⟩
 case round=>
  obtain⟨k,hk,rfl,ht⟩:=hrel
  have aK:Hid (trimTo xs k=trimTo xs len):=ht
  clear ht
  match k,hk,aK with
  | 0,hk,aK=>
   go_wp2
   go_ret
   have h0:trimTo xs len=0:=aK.out.symm
   refine⟨?_,rfl⟩
   simp[h0]
  | k+1,hk,aK=>
   have hck:w.cell? ⟨b,o+k,none⟩=some (.int .u32 (xs.getD k 0)):=hc k (by omega)
   go_wp2
   ·go_round
    case rel=>
     have h0':(xs[k]?.getD 0==0)=true:=by assumption
     have h0:xs[k]?.getD 0=0:=by simpa using h0'
     refine⟨k,by omega,by go_num,?_⟩
     rw[<-aK.out]
     simp[trimTo,h0]
    case measure=>simp[intOf]
   ·go_ret
    have h0':(xs[k]?.getD 0==0)=false:=by assumption
    have h0:¬xs[k]?.getD 0=0:=by simpa using h0'
    refine⟨?_,rfl⟩
    rw[<-aK.out]
    simp[trimTo,h0]
theorem zcb (q:Option Addr) (cap:Nat) (w:World):Calls Tryz.prog 97 #[.slice q 0 cap] w fun e w'=>e=.returned (.slice q 0 cap)/\w'=w:=by
 go_enter Tryz.func97,Tryz.ntmps97
 go_wp2
 refine wp_loop_once ?_
 go_wp2
 go_ret
 exact⟨rfl,rfl⟩
theorem zhg (b o cap b2 o2 cap2 n:Nat) (xs ys:List Int) (w:World) (aj:xs.length+ys.length=n) (hn:n<=1099511627776) (hdx:Dig16 xs) (hdy:Dig16 ys)
  (hcx:∀i,i<xs.length->w.cell? ⟨b,o+i,none⟩=some (.int .u32 (xs.getD i 0))) (hcy:∀i,i<ys.length->w.cell? ⟨b2,o2+i,none⟩=some (.int .u32 (ys.getD i 0))) (hb1:b<w.heap.size) (hb2:b2<w.heap.size) (nx:((xs.length:Int)==0)=false) (ny:((ys.length:Int)==0)=false):
  Calls Tryz.prog 123 #[.slice (some ⟨b,o,none⟩) xs.length cap,.slice (some ⟨b2,o2,none⟩) ys.length cap2] w fun e w'=>∃os,Out16 xs ys n xs.length os/\e=.returned (.slice (some ⟨w.heap.size,0,none⟩) (trimTo os n) n)/\Blk w' w.heap.size os/\Below w.heap.size w w':=by
 obtain⟨i0,hi,hz0,hz1,hz2⟩:=info_parts (show(Tryz.prog.info? 150).map (fun i=>(i.zero,i.size,i.bytes))=some (some (.int .u32 0),1,4) by kernel_rfl)
 go_enter Tryz.func123,Tryz.ntmps123
 go_wp2_with (at_make;refine wpList_make_full _ rfl _ _ 62 rfl w.heap.size 150 i0 (.int .u32 0) 1 Tryz.underlying62 hi hz0 hz1 _ _ _ _ n rfl rfl (by omega) (by omega) (by rw[hz2];omega) (by unfold maxLen;omega) (Nat.le_refl _) ?_)
 intro w1 aB aO
 have aP:Blk w1 w.heap.size (List.replicate n 0):=zbq aB
 have bP:Below w.heap.size w w1:=(Below.refl _ _).grown aO (Nat.le_refl _) (fun _ h=>by cases h)
 clear aB aO hi hz0 hz1 hz2
 go_wp2
 go_loopw [28] (fun i wr=>∃(k:Nat) (os:List Int),k<=xs.length/\i=.int .i64 k/\Out16 xs ys n k os/\Blk wr w.heap.size os/\Below w.heap.size w wr) (fun i _=>xs.length - (intOf i).toNat)
 case atStart=>exact⟨0,_,Nat.zero_le _,rfl,Out16.zero xs ys n,aP,bP⟩
 case round=>
  obtain⟨k,os,hk,rfl,bL,hb,hbw⟩:=hrel
  have fM:k<xs.length->wr.cell? ⟨b,o+k,none⟩=some (.int .u32 (xs.getD k 0)):=fun h=>(hbw.cell (by exact hb1)).trans (hcx k h)
  have cO:=zbe w.heap.size 0 n n os wr (fun i hi=>by simpa using hb.cell (by rw[bL.len];exact hi)) (Nat.le_refl _) hn
  go_wp2_with (go_at_call 97;refine cO.mono ?_;rintro e w9 ⟨rfl,rfl⟩)
  ·have hlt:k<xs.length:=by assumption
   clear cO fM
   have hxk:xs.getD k 0=xs[k]:=by simp[hlt]
   have hx0:=hdx k
   rw[hxk] at hx0
   have hst:=bL.start
   rw[hxk] at hst
   have ap:=fun os1 cc=>Out16.row (os:=os1) (c:=cc) bL hlt aj
   rw[hxk] at ap
   generalize xs[k]=x at hx0 hst ap ⊢
   have hd:decide (k<xs.length)=true:=by simp[hlt]
   rw[hd]
   clear hd
   go_loopw [35,8] (fun i c wq=>∃(m:Nat) (os1:List Int) (cc:Int),m<=ys.length/\i=.int .i64 m/\c=.int .u64 cc/\In16 x ys os k m n os1 cc/\Blk wq w.heap.size os1/\Below w.heap.size w wq) (fun i _ _=>ys.length - (intOf i).toNat)
   case atStart=>exact⟨0,os,0,Nat.zero_le _,rfl,rfl,hst,hb,hbw⟩
   case round=>
    obtain⟨m,os1,cc,hm,rfl,rfl,hin,aV,cH⟩:=hrel
    have gU:m<ys.length->wr.cell? ⟨b2,o2+m,none⟩=some (.int .u32 (ys.getD m 0)):=fun h=>(cH.cell (by exact hb2)).trans (hcy m h)
    have gV:m<ys.length->wr.cell? ⟨w.heap.size,k+m,none⟩=some (.int .u32 (os1.getD (k+m) 0)):=fun h=>aV.cell (by rw[hin.len];omega)
    have hfr:=aV.frozen (k+m)
    have gW:wr.cell? ⟨w.heap.size,k+ys.length,none⟩=some (.int .u32 (os1.getD (k+ys.length) 0)):=aV.cell (by rw[hin.len];omega)
    have jb:=aV.frozen (k+ys.length)
    have hym:=hdy m
    have hom:=hin.dig (k+m)
    have hcc:=hin.c0
    go_wp2
    ·have hml:m<ys.length:=by assumption
     go_roundw
     case rel=>
      have hyg:ys.getD m 0=ys[m]:=by simp[hml]
      have ak:=hin.step hx0 hdy hml (by omega)
      rw[hyg] at ak hym
      have hp:=zbs hx0 hym
      have hs:=zej hx0 hym hom hcc
      have hog:os1[k+m]?.getD 0=os1.getD (k+m) 0:=by simp
      rw[hog]
      have jy:IntKind.u64.wrap (IntKind.u64.wrap (IntKind.u64.wrap (os1.getD (k+m) 0)+IntKind.u64.wrap (x*IntKind.u64.wrap ys[m]))+cc)=x*ys[m]+os1.getD (k+m) 0+cc:=by
       have hy1:IntKind.u64.wrap ys[m]=ys[m]:=by
        rw[IntKind.wrap_u64]
        omega
       rw[hy1]
       generalize x*ys[m]=p at hp hs ⊢
       generalize os1.getD (k+m) 0=d at hom hs ⊢
       simp only[IntKind.wrap_u64]
       omega
      rw[jy]
      have hd1:IntKind.u64.wrap ((x*ys[m]+os1.getD (k+m) 0+cc).tdiv 65536)=(x*ys[m]+os1.getD (k+m) 0+cc) / 65536:=by
       rw[Int.tdiv_eq_ediv_of_nonneg hs.1,IntKind.wrap_u64]
       generalize x*ys[m]+os1.getD (k+m) 0+cc=p at hs ⊢
       omega
      have hd2:(x*ys[m]+os1.getD (k+m) 0+cc).tmod 65536 % 4294967296=(x*ys[m]+os1.getD (k+m) 0+cc) % 65536:=by
       rw[Int.tmod_eq_emod_of_nonneg hs.1]
       generalize x*ys[m]+os1.getD (k+m) 0+cc=p at hs ⊢
       omega
      rw[hd1,hd2]
      exact⟨m+1,_,_,by omega,by go_num,rfl,ak,aV.set _ _,cH.setCell (p:=⟨w.heap.size,k+m,none⟩) (Nat.le_refl _) _⟩
     case measure=>simp[intOf];omega
    ·have hml:m=ys.length:=by omega
     subst hml
     go_round
     case rel=>
      exact⟨k+1,_,by omega,by go_num,ap _ _ hin,aV.set _ _,cH.setCell (p:=⟨w.heap.size,k+ys.length,none⟩) (Nat.le_refl _) _⟩
     case measure=>simp[intOf];omega
  ·go_ret
   have hkx:k=xs.length:=by omega
   subst hkx
   exact⟨os,bL,rfl,hb,hbw⟩
theorem zhh (q q':Option Addr) (cap cap':Nat) (w:World):Calls Tryz.prog 126 #[.slice q 0 cap,.slice q' 0 cap'] w fun e w'=>e=.returned (.int .i64 0)/\w'=w:=by
 go_enter Tryz.func126,Tryz.ntmps126
 go_wp2
 refine wp_loop_once ?_
 go_wp2
 go_ret
 exact⟨rfl,rfl⟩
end Go.Proofs.YtaonejnicgbifaaGreatDoor
