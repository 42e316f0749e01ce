import Derived.Test.YtnnhofmknilopaaGreatDoorProg
import Derived.WalkKit
import Derived.ProofKit
import Derived.OpenShut
import Derived.Deep.RegionHeld
import Derived.Deep.QuietTactic
import Derived.BigQuiet
import Derived.Deep.RegionWith
import Derived.Maps.AppendAt
namespace Go.Proofs.YtnnhofmknilopaaGreatDoor
open Go Go.RowKit
abbrev Rt (w:World) (v:Value) (e:Ending) (w':World):Prop:=e=.returned v/\Below w.heap.size w w'
theorem zab {p:Prop} (h:p):Hid p:=h
theorem pz:(∀(a:Act) (d:Tmp) (v:Value),a.put (some d) v={ a with tmps:=a.tmps.setIfInBounds d v })/\(∀(a:Act) (v:Value),a.put none v=a)/\
  (∀{α:Type} {xs:List α} {i:Nat} (h:i<xs.toArray.size),xs.toArray[i]=xs[i]'(by simpa using h))/\
  (∀{α:Type} (a:α) (l:List α) (i:Nat) (h:i+1<(a::l).length),(a::l)[i+1]=l[i]'(by simpa using h))/\
  (∀{α:Type} (a:α) (l:List α) (h:0<(a::l).length),(a::l)[0]=a)/\
  (∀{α:Type} (l:List α) (i:Nat) (a:α),l.toArray.setIfInBounds i a=(l.set i a).toArray)/\
  (∀{α:Type} {x:α} {xs:List α} {a:α},(x::xs).set 0 a=a::xs)/\
  (∀{α:Type} {x:α} {xs:List α} {i:Nat} {a:α},(x::xs).set (i+1) a=x::xs.set i a):=
 ⟨fun _ _ _=>rfl,fun _ _=>rfl,fun _=>by simp,fun _ _ _ _=>rfl,fun _ _ _=>rfl,fun _ _ _=>by simp,rfl,rfl⟩
section
variable {P:Program} {ops:Array Oper} {Q:Exit->Act->World->Prop} {md:Region.Mode} {S:World->Prop}
theorem tk {oi:Oper} {fuel:Nat} {listed:Array Bool} {a:Act} {w:World} (i:Nat) (v:Value) (hi:ops[i]?=some oi) (hS:S w)
  (h:wpAnyH P md ops Q S fuel (listed.setIfInBounds i true) (a.put oi.dst v) w)
  (hy:YieldsIf P ops S oi v a:=by exact .inl ⟨by rfl,fun z hSz=>by go_simp⟩)
  (hs:Region.noSelect ops=true:=by kernel_rfl) (hf:Region.free md ops listed i=true:=by kernel_rfl) (hr:(Region.ready md ops listed).contains i=true:=by kernel_rfl)
  (hQ:∀(c:List PanicEntry) (a:Act) (w:World),Q (.panic c) (a.put oi.dst v) w->Q (.panic c) a w:=by exact fun _ _ _ h=>h):wpAnyH P md ops Q S (fuel+1) listed a w:=
 wpAnyH_take hi hs hf hr hQ hy hS h
theorem rdy {fuel:Nat} {listed:Array Bool} {a:Act} {w:World} (i:Nat) {o:Oper} (ho:ops[i]?=some o)
  (h:∀(K':Act->World->Prop),Shut (∀(a:Act) (w:World),S w->(S w->wpAnyH P md ops Q S fuel (listed.setIfInBounds i true) a w)->K' a w)->
    if Region.wanted o (yielded ops a.tmps)=true then Oper.wp P o a w K' Q else K' (a.put o.dst undef) w)
  (hr:Region.ready md ops listed=[i]:=by kernel_rfl):wpAnyH P md ops Q S (fuel+1) listed a w:=
 wpAnyH_ready hr (by simp) (AllReadyH.cons ho h AllReadyH.nil)
end
def trimTo (xs:List Int):Nat->Nat
 | 0=>0
 | n+1=>if xs.getD n 0=0 then trimTo xs n else n+1
theorem zan (xs:List Int):∀n,trimTo xs n<=n
 | 0=>Nat.le_refl _
 | n+1=>by unfold trimTo;split;have:=zan xs n;omega;omega
theorem zgx (b o len cap:Nat) (xs:List Int) (w:World) (hc:∀i,i<len->w.cell? ⟨b,o+i,none⟩=some (.int .u32 (xs.getD i 0))) (hm:len<=cap) (hm2:len<=1099511627776):
  Calls Tryz.prog 66 #[.slice (some ⟨b,o,none⟩) len cap] w fun e w'=>e=.returned (.slice (some ⟨b,o,none⟩) (trimTo xs len) cap)/\w'=w:=by
 go_enter Tryz.func66,Tryz.ntmps66
 go_wp2
 go_loop [3] (fun i=>∃k:Nat,k<=len/\i=.int .i64 k/\trimTo xs k=trimTo xs len) (fun i=>(intOf i).toNat)
 case atStart=>exact⟨len,Nat.le_refl _,rfl,rfl⟩
 case round=>
  obtain⟨k,hk,rfl,ht⟩:=hrel
  have aL:Hid (trimTo xs k=trimTo xs len):=ht
  clear ht
  match k,hk,aL with
  | 0,hk,aL=>
   go_wp2
   go_ret
   have h0:trimTo xs len=0:=aL.out.symm
   refine⟨?_,rfl⟩
   simp[h0]
  | k+1,hk,aL=>
   have hck:w.cell? ⟨b,o+k,none⟩=some (.int .u32 (xs.getD k 0)):=hc k (by omega)
   go_wp2
   ·go_round
    case rel=>
     have h0':(xs[k]?.getD 0==0)=true:=by assumption
     have h0:xs[k]?.getD 0=0:=by simpa using h0'
     refine⟨k,by omega,by go_num,?_⟩
     rw[<-aL.out]
     simp[trimTo,h0]
    case measure=>simp[intOf]
   ·go_ret
    have h0':(xs[k]?.getD 0==0)=false:=by assumption
    have h0:¬xs[k]?.getD 0=0:=by simpa using h0'
    refine⟨?_,rfl⟩
    rw[<-aL.out]
    simp[trimTo,h0]
def val:List Int->Int
 | []=>0
 | d::r=>d+4294967296*val r
def Dig (l:List Int):Prop:=∀j:Nat,0<=l.getD j 0/\l.getD j 0<=4294967295
theorem zkw:∀(l:List Int) (j:Nat) (d:Int),j<l.length->val (l.set j d)=val l+(d - l.getD j 0)*4294967296^j
 | [],j,d,h=>by simp at h
 | x::l,0,d,h=>by simp[val];omega
 | x::l,j+1,d,h=>by
  have:=zkw l j d (by simpa using h)
  simp only[List.set_cons_succ,val,this,List.getD_cons_succ]
  rw[Int.pow_succ]
  generalize (4294967296:Int)^j=p
  generalize d - l.getD j 0=q
  rw[Int.mul_add,<-Int.mul_assoc,<-Int.mul_assoc,Int.mul_comm 4294967296 q,Int.mul_assoc q 4294967296 p,Int.mul_comm 4294967296 p,<-Int.mul_assoc q p]
  omega
theorem zf5:∀(l:List Int) (k:Nat),k<l.length->val (l.take (k+1))=val (l.take k)+l.getD k 0*4294967296^k
 | [],k,h=>by simp at h
 | x::l,0,h=>by simp[val]
 | x::l,k+1,h=>by
  have:=zf5 l k (by simpa using h)
  simp only[List.take_succ_cons,val,this,List.getD_cons_succ]
  rw[Int.pow_succ]
  generalize (4294967296:Int)^k=p
  generalize l.getD k 0=q
  rw[Int.mul_add,Int.mul_comm 4294967296 (q*p),Int.mul_assoc q p 4294967296]
  omega
theorem zdy {l:List Int} (h:Dig l) {j:Nat} {d:Int} (hd:0<=d/\d<=4294967295):Dig (l.set j d):=by
 intro i
 have:=h i
 simp only[List.getD_eq_getElem?_getD,List.getElem?_set] at this ⊢
 split
 ·split
  ·simpa using hd
  ·simp
 ·exact this
theorem zdc {a b:Int} (ha:0<=a/\a<=4294967295) (hb:0<=b/\b<=4294967295):0<=a*b/\a*b<=18446744065119617025:=by
 refine⟨Int.mul_nonneg ha.1 hb.1,?_⟩
 have h:=Int.mul_le_mul ha.2 hb.2 hb.1 (by omega)
 exact Int.le_trans h (by decide)
def cells32 (os:List Int):Array Value:=(os.map (Value.int .u32)).toArray
def Blk (w:World) (g:Nat) (os:List Int):Prop:=w.heap[g]?=some (.cells (cells32 os) 150 (0,0))
theorem Blk.cell {w:World} {g:Nat} {os:List Int} (h:Blk w g os) {j:Nat} (hj:j<os.length):w.cell? ⟨g,j,none⟩=some (.int .u32 (os.getD j 0)):=by
 unfold Blk at h
 simp[World.cell?,h,cells32,hj]
theorem Blk.frozen {w:World} {g:Nat} {os:List Int} (h:Blk w g os) (j:Nat):w.frozen? ⟨g,j,none⟩=false:=by
 unfold Blk at h
 simp[World.frozen?,h]
theorem Blk.set {w:World} {g:Nat} {os:List Int} (h:Blk w g os) (j:Nat) (d:Int):Blk (w.setCell ⟨g,j,none⟩ (.int .u32 d)) g (os.set j d):=by
 unfold Blk at h ⊢
 have hlt:g<w.heap.size:=by
  rcases Nat.lt_or_ge g w.heap.size with hl | hl
  ·exact hl
  ·simp[Array.getElem?_eq_none hl] at h
 show(w.heap.modify g _)[g]?=_
 rw[Array.getElem?_modify,if_pos rfl,h]
 simp[cells32,List.map_set]
theorem zb1 {w:World} {g n:Nat} (h:w.ownsRow g 150 1 (.slice (some ⟨g,0,none⟩) n n) n (madeCells #[Value.int .u32 0] n).toList):Blk w g (List.replicate n 0):=by
 obtain⟨_,⟨h1,_⟩ | ⟨g',cap,cur,h1,_,h3,_,_,h6,h7⟩⟩:=h
 ·cases h1
 ·simp only[Value.slice.injEq,Option.some.injEq,Addr.mk.injEq] at h1
  obtain⟨⟨rfl,_⟩,_,rfl⟩:=h1
  unfold Blk
  rw[h3]
  have iE:cur=cells32 (List.replicate n 0):=by
   apply Array.ext'
   have hl:cur.toList.take (n*1)=cur.toList:=by
    apply List.take_of_length_le
    simp[h6]
   rw[<-hl,h7]
   apply List.ext_getElem?
   intro i
   simp only[madeCells,cells32]
   by_cases hi:i<n
   ·simp[hi,Nat.mod_one]
   ·simp[hi]
  rw[iE]
theorem zew {xs ys:List Int} (hl:xs.length=ys.length) (h:∀j,j<xs.length->xs.getD j 0=ys.getD j 0):xs=ys:=by
 apply List.ext_getElem hl
 intro i h1 h2
 have:=h i h1
 simpa [h1,h2] using this
theorem zdd {xs ys:List Int} {j:Nat} (h:¬xs.getD j 0=ys.getD j 0):¬xs=ys:=fun e=>h (by rw[e])
def trim (xs:List Int):List Int:=xs.take (trimTo xs xs.length)
theorem za5:∀(a b:List Int),val (a++b)=val a+4294967296^a.length*val b
 | [],b=>by simp[val]
 | x::a,b=>by
  simp only[List.cons_append,val,za5 a b,List.length_cons,Int.pow_succ]
  rw[Int.mul_add,<-Int.mul_assoc,Int.mul_comm 4294967296 (4294967296^a.length)]
  omega
theorem zde (xs:List Int):∀n,n<=xs.length->val (xs.take (trimTo xs n))=val (xs.take n)
 | 0,_=>rfl
 | n+1,h=>by
  unfold trimTo
  split
  ·rename_i h0
   rw[zde xs n (by omega),zf5 xs n (by omega),h0];simp
  ·rfl
theorem zbp (xs:List Int):val (trim xs)=val xs:=by
 unfold trim
 rw[zde xs xs.length (Nat.le_refl _),List.take_length]
theorem zex (xs:List Int):∀n,trimTo xs n=0\/∃m,trimTo xs n=m+1/\¬xs.getD m 0=0
 | 0=>.inl rfl
 | n+1=>by
  unfold trimTo
  split
  ·exact zex xs n
  ·rename_i h;exact .inr ⟨n,rfl,h⟩
def Canon (xs:List Int):Prop:=∀m,xs.length=m+1->¬xs.getD m 0=0
theorem zag (xs:List Int):(trim xs).length=trimTo xs xs.length:=by
 have:=zan xs xs.length
 simp[trim];omega
theorem zbe (xs:List Int) (j:Nat) (h:j<(trim xs).length):(trim xs).getD j 0=xs.getD j 0:=by
 rw[zag] at h
 simp only[trim,List.getD_eq_getElem?_getD,List.getElem?_take,if_pos h]
theorem zal (xs:List Int):Canon (trim xs):=by
 intro m hm
 rw[zbe xs m (by omega)]
 rw[zag] at hm
 rcases zex xs xs.length with h | ⟨k,h1,h2⟩
 ·omega
 ·have:k=m:=by omega
  subst this;exact h2
theorem zdf {xs:List Int} (h:Dig xs):Dig (trim xs):=by
 intro j
 have:=h j
 simp only[trim,List.getD_eq_getElem?_getD,List.getElem?_take] at this ⊢
 split
 ·exact this
 ·simp
theorem zcr {x:Int} {xs:List Int} (h:Dig (x::xs)):Dig xs:=fun j=>by simpa using h (j+1)
theorem zae:∀{xs:List Int},Dig xs->0<=val xs
 | [],_=>Int.le_refl _
 | x::xs,h=>by
  have h0:=(h 0).1
  have:=zae (zcr h)
  simp only[List.getD_cons_zero] at h0
  simp only[val];omega
theorem zbw {x:Int} {xs:List Int} (h:Canon (x::xs)):Canon xs:=fun m hm=>by
 have:=h (m+1) (by simp[hm])
 simpa using this
theorem zby:∀{xs:List Int},Dig xs->Canon xs->xs≠[]->0<val xs
 | [],_,_,h=>absurd rfl h
 | [x],hd,hc,_=>by
  have h1:=hc 0 rfl
  have h0:=(hd 0).1
  simp at h1 h0
  simp[val];omega
 | x::y::xs,hd,hc,_=>by
  have:=zby (zcr hd) (zbw hc) (by simp)
  have h0:=(hd 0).1
  simp only[List.getD_cons_zero] at h0
  rw[val];omega
theorem zkx:∀{xs ys:List Int},Dig xs->Dig ys->Canon xs->Canon ys->val xs=val ys->xs=ys
 | [],[],_,_,_,_,_=>rfl
 | [],y::ys,_,hd,_,hc,h=>by have:=zby hd hc (by simp);rw[<-h] at this;simp[val] at this
 | x::xs,[],hd,_,hc,_,h=>by have:=zby hd hc (by simp);rw[h] at this;simp[val] at this
 | x::xs,y::ys,hx,hy,cx,cy,h=>by
  have h1:=hx 0
  have h2:=hy 0
  simp only[List.getD_cons_zero] at h1 h2
  simp only[val] at h
  have e1:x=y:=by omega
  have e2:val xs=val ys:=by omega
  rw[e1,zkx (zcr hx) (zcr hy) (zbw cx) (zbw cy) e2]
set_option maxRecDepth 100000
def Sl (w:World) (v:Value) (xs:List Int):Prop:=
 Dig xs/\xs.length<=549755813888/\∃q cap,v=.slice q xs.length cap/\xs.length<=cap/\(xs=[]\/∃b o,q=some ⟨b,o,none⟩/\b<w.heap.size/\∀i,i<xs.length->w.cell? ⟨b,o+i,none⟩=some (.int .u32 (xs.getD i 0)))
theorem Sl.below {w w':World} {v:Value} {xs:List Int} (h:Sl w v xs) (hb:Below w.heap.size w w'):Sl w' v xs:=by
 obtain⟨h1,h2,q,cap,h3,h4,h5⟩:=h
 refine⟨h1,h2,q,cap,h3,h4,h5.imp id ?_⟩
 rintro⟨b,o,e,hlt,hc⟩
 exact⟨b,o,e,Nat.lt_of_lt_of_le hlt hb.size,fun i hi=>(hb.cell (by exact hlt)).trans (hc i hi)⟩
theorem zgy (q:Option Addr) (cap:Nat) (w:World):Calls Tryz.prog 66 #[.slice q 0 cap] w fun e w'=>e=.returned (.slice q 0 cap)/\w'=w:=by
 go_enter Tryz.func66,Tryz.ntmps66
 go_wp2
 refine wp_loop_once ?_
 go_wp2
 go_ret
 exact⟨rfl,rfl⟩
theorem zjn {w:World} {v:Value} {xs:List Int} (h:Sl w v xs):∃u,Sl w u (trim xs)/\∀w1,Below w.heap.size w w1->Calls Tryz.prog 66 #[v] w1 fun e w'=>e=.returned u/\w'=w1:=by
 obtain⟨h1,h2,q,cap,rfl,h4,h5⟩:=h
 have hl:=zan xs xs.length
 rcases h5 with rfl | ⟨b,o,rfl,hlt,hc⟩
 ·exact⟨.slice q 0 cap,⟨h1,by simp[trim],q,cap,rfl,by simp[trim],.inl rfl⟩,fun w1 _=>zgy q cap w1⟩
 ·refine⟨.slice (some ⟨b,o,none⟩) (trimTo xs xs.length) cap,⟨zdf h1,by rw[zag];omega,_,cap,by rw[zag],by rw[zag];omega,.inr ⟨b,o,rfl,hlt,fun i hi=>?_⟩⟩,
   fun w1 hb=>zgx b o xs.length cap xs w1 (fun i hi=>(hb.cell (by exact hlt)).trans (hc i hi)) h4 (by omega)⟩
  rw[zbe xs i hi]
  exact hc i (by rw[zag] at hi;omega)
theorem zdg (w:World) (o o2:Obj):Below w.heap.size w ((w.alloc o).alloc o2):=((Below.refl _ _).alloc (Nat.le_refl _) o).alloc (by show w.heap.size<=(w.heap.push o).size;simp) o2
theorem zam {w w1:World} (h:Below w.heap.size w w1) (n:Nat):Below w.heap.size w (w1.drewN n):=⟨h.os,h.tape,h.output,h.size,h.block⟩
def ratEq (n1:Bool) (a c:List Int) (n2:Bool) (b d:List Int):Bool:=
 if val a=0\/val b=0 then decide (val a=0/\val b=0) else(n1==n2)&&decide (val a*(if val d=0 then 1 else val d)=val b*(if val c=0 then 1 else val c))
def val16:List Int->Int
 | []=>0
 | d::r=>d+65536*val16 r
def Dig16 (l:List Int):Prop:=∀j:Nat,0<=l.getD j 0/\l.getD j 0<=65535
theorem zdh:∀(l:List Int) (j:Nat) (d:Int),j<l.length->val16 (l.set j d)=val16 l+(d - l.getD j 0)*65536^j
 | [],j,d,h=>by simp at h
 | x::l,0,d,h=>by simp[val16];omega
 | x::l,j+1,d,h=>by
  have:=zdh l j d (by simpa using h)
  simp only[List.set_cons_succ,val16,this,List.getD_cons_succ]
  rw[Int.pow_succ]
  generalize (65536:Int)^j=p
  generalize d - l.getD j 0=q
  rw[Int.mul_add,<-Int.mul_assoc,<-Int.mul_assoc,Int.mul_comm 65536 q,Int.mul_assoc q 65536 p,Int.mul_comm 65536 p,<-Int.mul_assoc q p]
  omega
theorem zb5:∀(l:List Int) (k:Nat),k<l.length->val16 (l.take (k+1))=val16 (l.take k)+l.getD k 0*65536^k
 | [],k,h=>by simp at h
 | x::l,0,h=>by simp[val16]
 | x::l,k+1,h=>by
  have:=zb5 l k (by simpa using h)
  simp only[List.take_succ_cons,val16,this,List.getD_cons_succ]
  rw[Int.pow_succ]
  generalize (65536:Int)^k=p
  generalize l.getD k 0=q
  rw[Int.mul_add,Int.mul_comm 65536 (q*p),Int.mul_assoc q p 65536]
  omega
theorem zck {l:List Int} (h:Dig16 l) {j:Nat} {d:Int} (hd:0<=d/\d<=65535):Dig16 (l.set j d):=by
 intro i
 have:=h i
 simp only[List.getD_eq_getElem?_getD,List.getElem?_set] at this ⊢
 split
 ·split
  ·simpa using hd
  ·simp
 ·exact this
theorem zbz {a b:Int} (ha:0<=a/\a<=65535) (hb:0<=b/\b<=65535):0<=a*b/\a*b<=4294836225:=by
 refine⟨Int.mul_nonneg ha.1 hb.1,?_⟩
 have h:=Int.mul_le_mul ha.2 hb.2 hb.1 (by omega)
 exact Int.le_trans h (by decide)
structure In16 (x:Int) (ys os0:List Int) (i k n:Nat) (os:List Int) (c:Int):Prop where
 len:os.length=n
 dig:Dig16 os
 c0:0<=c/\c<=65535
 eq:val16 os+c*65536^(i+k)=val16 os0+x*val16 (ys.take k)*65536^i
 rest:∀j,i+k<=j->os.getD j 0=os0.getD j 0
theorem zey {x y d c:Int} (hx:0<=x/\x<=65535) (hy:0<=y/\y<=65535) (hd:0<=d/\d<=65535) (hc:0<=c/\c<=65535):0<=x*y+d+c/\x*y+d+c<=4294967295:=by
 have:=zbz hx hy
 omega
theorem In16.step {x:Int} {ys os0 os:List Int} {i k n:Nat} {c:Int} (h:In16 x ys os0 i k n os c) (hx:0<=x/\x<=65535) (hy:Dig16 ys) (hk:k<ys.length) (hn:i+ys.length<=n):
  In16 x ys os0 i (k+1) n (os.set (i+k) ((x*ys.getD k 0+os.getD (i+k) 0+c) % 65536)) ((x*ys.getD k 0+os.getD (i+k) 0+c) / 65536):=by
 have hs:=zey hx (hy k) (h.dig (i+k)) h.c0
 have hv:=zdh os (i+k) ((x*ys.getD k 0+os.getD (i+k) 0+c) % 65536) (by rw[h.len];omega)
 have ht:=zb5 ys k hk
 refine⟨by simp[h.len],zck h.dig ?_,?_,?_,fun j hj=>?_⟩
 ·generalize x*ys.getD k 0+os.getD (i+k) 0+c=s at hs
  omega
 ·generalize x*ys.getD k 0+os.getD (i+k) 0+c=s at hs
  omega
 ·have e:=h.eq
  rw[hv,ht]
  have hp:(65536:Int)^(i+(k+1))=65536^(i+k)*65536:=by rw[<-Nat.add_assoc,Int.pow_succ]
  have hq:(65536:Int)^(i+k)=65536^k*65536^i:=by rw[Int.pow_add,Int.mul_comm]
  have hdm:=Int.emod_add_mul_ediv (x*ys.getD k 0+os.getD (i+k) 0+c) 65536
  rw[hp]
  generalize hS:x*ys.getD k 0+os.getD (i+k) 0+c=S at hdm ⊢
  generalize hD:os.getD (i+k) 0=D at hS ⊢
  have lhs:val16 os+(S % 65536 - D)*65536^(i+k)+S / 65536*(65536^(i+k)*65536)=val16 os+c*65536^(i+k)+x*ys.getD k 0*65536^(i+k):=by
   have e1:S / 65536*(65536^(i+k)*65536)=(65536*(S / 65536))*65536^(i+k):=by
    rw[Int.mul_comm (65536^(i+k)) 65536,<-Int.mul_assoc,Int.mul_comm (S / 65536) 65536]
   rw[e1,Int.add_assoc,<-Int.add_mul,Int.add_assoc (val16 os),<-Int.add_mul]
   congr 2
   omega
  rw[lhs,e,hq,Int.mul_add,Int.add_mul,<-Int.mul_assoc,<-Int.mul_assoc,Int.add_assoc]
 ·have:=h.rest j (by omega)
  rw[<-this]
  simp only[List.getD_eq_getElem?_getD,List.getElem?_set]
  rw[if_neg (by omega)]
structure Out16 (xs ys:List Int) (n i:Nat) (os:List Int):Prop where
 len:os.length=n
 dig:Dig16 os
 eq:val16 os=val16 (xs.take i)*val16 ys
 rest:∀j,i+ys.length<=j->os.getD j 0=0
theorem Out16.start {xs ys os:List Int} {n i:Nat} (h:Out16 xs ys n i os):In16 (xs.getD i 0) ys os i 0 n os 0:=
 ⟨h.len,h.dig,by decide,by simp[val16],fun _ _=>rfl⟩
theorem Out16.row {xs ys os0 os:List Int} {n i:Nat} {c:Int} (h0:Out16 xs ys n i os0) (hi:i<xs.length) (hn:xs.length+ys.length=n) (h:In16 (xs.getD i 0) ys os0 i ys.length n os c):
  Out16 xs ys n (i+1) (os.set (i+ys.length) c):=by
 have hz:os.getD (i+ys.length) 0=0:=by rw[h.rest _ (Nat.le_refl _)];exact h0.rest _ (Nat.le_refl _)
 have hv:=zdh os (i+ys.length) c (by rw[h.len];omega)
 refine⟨by simp[h.len],zck h.dig h.c0,?_,fun j hj=>?_⟩
 ·rw[hv,hz,Int.sub_zero,h.eq,h0.eq,zb5 xs i hi,List.take_length,Int.add_mul]
  rw[Int.mul_assoc (xs.getD i 0),Int.mul_comm (val16 ys),<-Int.mul_assoc]
 ·have:=h.rest j (by omega)
  have h1:=h0.rest j (by omega)
  simp only[List.getD_eq_getElem?_getD,List.getElem?_set] at this h1 ⊢
  rw[if_neg (by omega),this,h1]
theorem Out16.zero (xs ys:List Int) (n:Nat):Out16 xs ys n 0 (List.replicate n 0):=by
 have hg:∀j,(List.replicate n (0:Int)).getD j 0=0:=by
  intro j
  simp only[List.getD_eq_getElem?_getD,List.getElem?_replicate]
  split<;>rfl
 have hv:∀n:Nat,val16 (List.replicate n 0)=0:=by
  intro n
  induction n with
  | zero=>rfl
  | succ n ih=>simp[List.replicate_succ,val16,ih]
 exact⟨by simp,fun j=>by rw[hg j];decide,by simp[hv,val16],fun j _=>hg j⟩
theorem za1:∀(a b:List Int),val16 (a++b)=val16 a+65536^a.length*val16 b
 | [],b=>by simp[val16]
 | x::a,b=>by
  simp only[List.cons_append,val16,za1 a b,List.length_cons,Int.pow_succ]
  rw[Int.mul_add,<-Int.mul_assoc,Int.mul_comm 65536 (65536^a.length)]
  omega
theorem zcl (xs:List Int):∀n,n<=xs.length->val16 (xs.take (trimTo xs n))=val16 (xs.take n)
 | 0,_=>rfl
 | n+1,h=>by
  unfold trimTo
  split
  ·rename_i h0
   rw[zcl xs n (by omega),zb5 xs n (by omega),h0];simp
  ·rfl
theorem zaq (xs:List Int):val16 (trim xs)=val16 xs:=by
 unfold trim
 rw[zcl xs xs.length (Nat.le_refl _),List.take_length]
theorem zaw {xs:List Int} (h:Dig16 xs):Dig16 (trim xs):=by
 intro j
 have:=h j
 simp only[trim,List.getD_eq_getElem?_getD,List.getElem?_take] at this ⊢
 split
 ·exact this
 ·simp
theorem zb6 {x:Int} {xs:List Int} (h:Dig16 (x::xs)):Dig16 xs:=fun j=>by simpa using h (j+1)
theorem zai:∀{xs:List Int},Dig16 xs->0<=val16 xs
 | [],_=>Int.le_refl _
 | x::xs,h=>by
  have h0:=(h 0).1
  have:=zai (zb6 h)
  simp only[List.getD_cons_zero] at h0
  simp only[val16];omega
theorem za6:∀{xs:List Int},Dig16 xs->Canon xs->xs≠[]->0<val16 xs
 | [],_,_,h=>absurd rfl h
 | [x],hd,hc,_=>by
  have h1:=hc 0 rfl
  have h0:=(hd 0).1
  simp at h1 h0
  simp[val16];omega
 | x::y::xs,hd,hc,_=>by
  have:=za6 (zb6 hd) (zbw hc) (by simp)
  have h0:=(hd 0).1
  simp only[List.getD_cons_zero] at h0
  rw[val16];omega
theorem zez:∀{xs ys:List Int},Dig16 xs->Dig16 ys->Canon xs->Canon ys->val16 xs=val16 ys->xs=ys
 | [],[],_,_,_,_,_=>rfl
 | [],y::ys,_,hd,_,hc,h=>by have:=za6 hd hc (by simp);rw[<-h] at this;simp[val16] at this
 | x::xs,[],hd,_,hc,_,h=>by have:=za6 hd hc (by simp);rw[h] at this;simp[val16] at this
 | x::xs,y::ys,hx,hy,cx,cy,h=>by
  have h1:=hx 0
  have h2:=hy 0
  simp only[List.getD_cons_zero] at h1 h2
  simp only[val16] at h
  have e1:x=y:=by omega
  have e2:val16 xs=val16 ys:=by omega
  rw[e1,zez (zb6 hx) (zb6 hy) (zbw cx) (zbw cy) e2]
theorem zf6 {xs ys:List Int} (hx:Dig16 xs) (hy:Dig16 ys):trim xs=trim ys↔val16 xs=val16 ys:=by
 constructor
 ·intro h;rw[<-zaq xs,<-zaq ys,h]
 ·intro h;exact zez (zaw hx) (zaw hy) (zal xs) (zal ys) (by rw[zaq,zaq,h])
theorem zdz {xs:List Int} (h:Dig16 xs):trim xs=[]↔val16 xs=0:=by
 rw[show ([]:List Int)=trim [] from rfl,zf6 h (fun j=>by simp)]
 simp[val16]
theorem zbj (b o len cap:Nat) (xs:List Int) (w:World) (hc:∀i,i<len->w.cell? ⟨b,o+i,none⟩=some (.int .u32 (xs.getD i 0))) (hm:len<=cap) (hm2:len<=1099511627776):
  Calls Tryz.prog 204 #[.slice (some ⟨b,o,none⟩) len cap] w fun e w'=>e=.returned (.slice (some ⟨b,o,none⟩) (trimTo xs len) cap)/\w'=w:=by
 go_enter Tryz.func204,Tryz.ntmps204
 go_wp2
 go_loop [3] (fun i=>∃k:Nat,k<=len/\i=.int .i64 k/\trimTo xs k=trimTo xs len) (fun i=>(intOf i).toNat)
 case atStart=>exact⟨len,Nat.le_refl _,rfl,rfl⟩
 case round=>
  obtain⟨k,hk,rfl,ht⟩:=hrel
  have aL:Hid (trimTo xs k=trimTo xs len):=ht
  clear ht
  match k,hk,aL with
  | 0,hk,aL=>
   go_wp2
   go_ret
   have h0:trimTo xs len=0:=aL.out.symm
   refine⟨?_,rfl⟩
   simp[h0]
  | k+1,hk,aL=>
   have hck:w.cell? ⟨b,o+k,none⟩=some (.int .u32 (xs.getD k 0)):=hc k (by omega)
   go_wp2
   ·go_round
    case rel=>
     have h0':(xs[k]?.getD 0==0)=true:=by assumption
     have h0:xs[k]?.getD 0=0:=by simpa using h0'
     refine⟨k,by omega,by go_num,?_⟩
     rw[<-aL.out]
     simp[trimTo,h0]
    case measure=>simp[intOf]
   ·go_ret
    have h0':(xs[k]?.getD 0==0)=false:=by assumption
    have h0:¬xs[k]?.getD 0=0:=by simpa using h0'
    refine⟨?_,rfl⟩
    rw[<-aL.out]
    simp[trimTo,h0]
theorem zc3 (q:Option Addr) (cap:Nat) (w:World):Calls Tryz.prog 204 #[.slice q 0 cap] w fun e w'=>e=.returned (.slice q 0 cap)/\w'=w:=by
 go_enter Tryz.func204,Tryz.ntmps204
 go_wp2
 refine wp_loop_once ?_
 go_wp2
 go_ret
 exact⟨rfl,rfl⟩
theorem zhz (b o cap b2 o2 cap2 n:Nat) (xs ys:List Int) (w:World) (ae:xs.length+ys.length=n) (hn:n<=1099511627776) (hdx:Dig16 xs) (hdy:Dig16 ys)
  (hcx:∀i,i<xs.length->w.cell? ⟨b,o+i,none⟩=some (.int .u32 (xs.getD i 0))) (hcy:∀i,i<ys.length->w.cell? ⟨b2,o2+i,none⟩=some (.int .u32 (ys.getD i 0))) (hb1:b<w.heap.size) (hb2:b2<w.heap.size) (nx:((xs.length:Int)==0)=false) (ny:((ys.length:Int)==0)=false):
  Calls Tryz.prog 398 #[.slice (some ⟨b,o,none⟩) xs.length cap,.slice (some ⟨b2,o2,none⟩) ys.length cap2] w fun e w'=>∃os,Out16 xs ys n xs.length os/\e=.returned (.slice (some ⟨w.heap.size,0,none⟩) (trimTo os n) n)/\Blk w' w.heap.size os/\Below w.heap.size w w':=by
 obtain⟨i0,hi,hz0,hz1,hz2⟩:=info_parts (show(Tryz.prog.info? 150).map (fun i=>(i.zero,i.size,i.bytes))=some (some (.int .u32 0),1,4) by kernel_rfl)
 go_enter Tryz.func398,Tryz.ntmps398
 go_wp2_with (at_make;refine wpList_make_full _ rfl _ _ 90 rfl w.heap.size 150 i0 (.int .u32 0) 1 Tryz.underlying90 hi hz0 hz1 _ _ _ _ n rfl rfl (by omega) (by omega) (by rw[hz2];omega) (by unfold maxLen;omega) (Nat.le_refl _) ?_)
 intro w1 az aC
 have aR:Blk w1 w.heap.size (List.replicate n 0):=zb1 az
 have aw:Below w.heap.size w w1:=(Below.refl _ _).grown aC (Nat.le_refl _) (fun _ h=>by cases h)
 clear az aC hi hz0 hz1 hz2
 go_wp2
 go_loopw [28] (fun i wr=>∃(k:Nat) (os:List Int),k<=xs.length/\i=.int .i64 k/\Out16 xs ys n k os/\Blk wr w.heap.size os/\Below w.heap.size w wr) (fun i _=>xs.length - (intOf i).toNat)
 case atStart=>exact⟨0,_,Nat.zero_le _,rfl,Out16.zero xs ys n,aR,aw⟩
 case round=>
  obtain⟨k,os,hk,rfl,cO,hb,hbw⟩:=hrel
  have iF:k<xs.length->wr.cell? ⟨b,o+k,none⟩=some (.int .u32 (xs.getD k 0)):=fun h=>(hbw.cell (by exact hb1)).trans (hcx k h)
  have cA:=zbj w.heap.size 0 n n os wr (fun i hi=>by simpa using hb.cell (by rw[cO.len];exact hi)) (Nat.le_refl _) hn
  go_wp2_with (go_at_call 204;refine cA.mono ?_;rintro e w9 ⟨rfl,rfl⟩)
  ·have hlt:k<xs.length:=by assumption
   clear cA iF
   have hxk:xs.getD k 0=xs[k]:=by simp[hlt]
   have hx0:=hdx k
   rw[hxk] at hx0
   have hst:=cO.start
   rw[hxk] at hst
   have af:=fun os1 cc=>Out16.row (os:=os1) (c:=cc) cO hlt ae
   rw[hxk] at af
   generalize xs[k]=x at hx0 hst af ⊢
   have hd:decide (k<xs.length)=true:=by simp[hlt]
   rw[hd]
   clear hd
   go_loopw [35,8] (fun i c wq=>∃(m:Nat) (os1:List Int) (cc:Int),m<=ys.length/\i=.int .i64 m/\c=.int .u64 cc/\In16 x ys os k m n os1 cc/\Blk wq w.heap.size os1/\Below w.heap.size w wq) (fun i _ _=>ys.length - (intOf i).toNat)
   case atStart=>exact⟨0,os,0,Nat.zero_le _,rfl,rfl,hst,hb,hbw⟩
   case round=>
    obtain⟨m,os1,cc,hm,rfl,rfl,hin,bD,aG⟩:=hrel
    have hcym:m<ys.length->wr.cell? ⟨b2,o2+m,none⟩=some (.int .u32 (ys.getD m 0)):=fun h=>(aG.cell (by exact hb2)).trans (hcy m h)
    have hcom:m<ys.length->wr.cell? ⟨w.heap.size,k+m,none⟩=some (.int .u32 (os1.getD (k+m) 0)):=fun h=>bD.cell (by rw[hin.len];omega)
    have hfr:=bD.frozen (k+m)
    have hcend:wr.cell? ⟨w.heap.size,k+ys.length,none⟩=some (.int .u32 (os1.getD (k+ys.length) 0)):=bD.cell (by rw[hin.len];omega)
    have hfr2:=bD.frozen (k+ys.length)
    have hym:=hdy m
    have hom:=hin.dig (k+m)
    have hcc:=hin.c0
    go_wp2
    ·have hml:m<ys.length:=by assumption
     go_roundw
     case rel=>
      have hyg:ys.getD m 0=ys[m]:=by simp[hml]
      have aa:=hin.step hx0 hdy hml (by omega)
      rw[hyg] at aa hym
      have hp:=zbz hx0 hym
      have hs:=zey hx0 hym hom hcc
      have hog:os1[k+m]?.getD 0=os1.getD (k+m) 0:=by simp
      rw[hog]
      have iG:IntKind.u64.wrap (IntKind.u64.wrap (IntKind.u64.wrap (os1.getD (k+m) 0)+IntKind.u64.wrap (x*IntKind.u64.wrap ys[m]))+cc)=x*ys[m]+os1.getD (k+m) 0+cc:=by
       have hy1:IntKind.u64.wrap ys[m]=ys[m]:=by
        rw[IntKind.wrap_u64]
        omega
       rw[hy1]
       generalize x*ys[m]=p at hp hs ⊢
       generalize os1.getD (k+m) 0=d at hom hs ⊢
       simp only[IntKind.wrap_u64]
       omega
      rw[iG]
      have hd1:IntKind.u64.wrap ((x*ys[m]+os1.getD (k+m) 0+cc).tdiv 65536)=(x*ys[m]+os1.getD (k+m) 0+cc) / 65536:=by
       rw[Int.tdiv_eq_ediv_of_nonneg hs.1,IntKind.wrap_u64]
       generalize x*ys[m]+os1.getD (k+m) 0+cc=p at hs ⊢
       omega
      have hd2:(x*ys[m]+os1.getD (k+m) 0+cc).tmod 65536 % 4294967296=(x*ys[m]+os1.getD (k+m) 0+cc) % 65536:=by
       rw[Int.tmod_eq_emod_of_nonneg hs.1]
       generalize x*ys[m]+os1.getD (k+m) 0+cc=p at hs ⊢
       omega
      rw[hd1,hd2]
      exact⟨m+1,_,_,by omega,by go_num,rfl,aa,bD.set _ _,aG.setCell (p:=⟨w.heap.size,k+m,none⟩) (Nat.le_refl _) _⟩
     case measure=>simp[intOf];omega
    ·have hml:m=ys.length:=by omega
     subst hml
     go_round
     case rel=>
      exact⟨k+1,_,by omega,by go_num,af _ _ hin,bD.set _ _,aG.setCell (p:=⟨w.heap.size,k+ys.length,none⟩) (Nat.le_refl _) _⟩
     case measure=>simp[intOf];omega
  ·go_ret
   have hkx:k=xs.length:=by omega
   subst hkx
   exact⟨os,cO,rfl,hb,hbw⟩
theorem zh0 (q q':Option Addr) (cap cap':Nat) (w:World):Calls Tryz.prog 200 #[.slice q 0 cap,.slice q' 0 cap'] w fun e w'=>e=.returned (.int .i64 0)/\w'=w:=by
 go_enter Tryz.func200,Tryz.ntmps200
 go_wp2
 refine wp_loop_once ?_
 go_wp2
 go_ret
 exact⟨rfl,rfl⟩
def halves:List Int->List Int
 | []=>[]
 | x::xs=>x % 65536::x / 65536::halves xs
theorem zdi:∀(a b:List Int),halves (a++b)=halves a++halves b
 | [],_=>rfl
 | x::xs,b=>by simp[halves,zdi xs b]
theorem zce:∀(a:List Int),(halves a).length=2*a.length
 | []=>rfl
 | x::xs=>by
  have:=zce xs
  simp[halves,this]
  omega
theorem zh1 (xs:List Int) (k:Nat) (h:k<xs.length):halves (xs.take (k+1))=halves (xs.take k)++[xs.getD k 0 % 65536,xs.getD k 0 / 65536]:=by
 rw[List.take_add_one,zdi]
 simp[halves,h]
theorem zbd:∀(xs:List Int),val16 (halves xs)=val xs
 | []=>rfl
 | x::xs=>by
  have:=zbd xs
  simp only[halves,val16,val,this]
  generalize val xs=v
  omega
theorem zbk:∀{xs:List Int},Dig xs->Dig16 (halves xs)
 | [],_=>fun j=>by simp[halves]
 | x::xs,h=>fun j=>by
  have h0:=h 0
  simp at h0
  match j with
  | 0=>simp[halves];omega
  | 1=>simp[halves];omega
  | j+2=>simpa [halves] using zbk (zcr h) j
def Sl16 (w:World) (v:Value) (xs:List Int):Prop:=
 Dig16 xs/\xs.length<=549755813888/\∃q cap,v=.slice q xs.length cap/\xs.length<=cap/\(xs=[]\/∃b o,q=some ⟨b,o,none⟩/\b<w.heap.size/\∀i,i<xs.length->w.cell? ⟨b,o+i,none⟩=some (.int .u32 (xs.getD i 0)))
theorem Sl16.below {w w':World} {v:Value} {xs:List Int} (h:Sl16 w v xs) (hb:Below w.heap.size w w'):Sl16 w' v xs:=by
 obtain⟨h1,h2,q,cap,h3,h4,h5⟩:=h
 refine⟨h1,h2,q,cap,h3,h4,h5.imp id ?_⟩
 rintro⟨b,o,e,hlt,hc⟩
 exact⟨b,o,e,Nat.lt_of_lt_of_le hlt hb.size,fun i hi=>(hb.cell (by exact hlt)).trans (hc i hi)⟩
theorem zgz (w:World) (x y:Value) (t:TypeId):∀j u,[x,y][j]?=some u->(w.alloc (.cells #[x,y] t)).cell? ((⟨w.heap.size,0,none⟩:Addr).add j)=some u:=by
 intro j u hj
 match j,hj with
 | 0,hj=>
  simp at hj
  subst hj
  simp[Addr.add]
 | 1,hj=>
  simp at hj
  subst hj
  simp[Addr.add]
theorem zjo (b o cap:Nat) (xs:List Int) (w:World) (hd:Dig xs) (hn:xs.length<=274877906944)
  (hc:∀i,i<xs.length->w.cell? ⟨b,o+i,none⟩=some (.int .u32 (xs.getD i 0))) (hb1:b<w.heap.size) (hne:0<xs.length):
  Calls Tryz.prog 184 #[.slice (some ⟨b,o,none⟩) xs.length cap] w fun e w'=>∃r,e=.returned r/\Sl16 w' r (trim (halves xs))/\Below w.heap.size w w':=by
 obtain⟨i0,hi,hz0,hz1,hz2⟩:=info_parts (show(Tryz.prog.info? 150).map (fun i=>(i.zero,i.size,i.bytes))=some (some (.int .u32 0),1,4) by kernel_rfl)
 go_enter Tryz.func184,Tryz.ntmps184
 go_wp2
 go_loopw [3,8] (fun v i wr=>∃k:Nat,k<=xs.length/\i=.int .i64 k/\wr.ownsRow w.heap.size 150 1 v (2*k) ((halves (xs.take k)).map (Value.int .u32))/\Below w.heap.size w wr) (fun _ i _=>xs.length - (intOf i).toNat)
 case atStart=>exact⟨0,Nat.zero_le _,rfl,World.ownsRow_nil _ _ _ _,Below.refl _ _⟩
 case round=>
  obtain⟨k,hk,rfl,af,hbw⟩:=hrel
  by_cases hlt:k<xs.length
  ·have c1:wr.cell? ⟨b,o+k,none⟩=some (.int .u32 (xs.getD k 0)):=(hbw.cell (by exact hb1)).trans (hc k hlt)
   have aF:(k:Int)<(xs.length:Int):=by omega
   have hdk:=hd k
   have htk:=zh1 xs k hlt
   generalize xs.getD k 0=X at c1 hdk htk
   have hws:=hbw.size
   go_wp2_with (at_builtin;refine wpList_append_own _ rfl _ _ 90 rfl w.heap.size 150 i0 (.int .u32 0) 1 4 Tryz.underlying90 hi hz0 hz1 hz2 rfl (by decide) _ _ _ rfl (af.alloc _) ⟨wr.heap.size,0,none⟩ 2 2 [.int .u32 (X % 65536),.int .u32 (X / 65536)] rfl rfl (zgz _ _ _ _) (ints_oneCell .u32 [X % 65536,X / 65536]) (by unfold maxLen;omega) (by omega) (by simp;omega) ?_;intro v' w2 gF ap hnil2)
   go_roundw
   case rel=>
    refine⟨k+1,by omega,by go_num,?_,?_⟩
    ·rw[htk,List.map_append]
     exact gF
    ·exact(hbw.alloc hws _).grown ap (by simp;omega) (fun g hg=>(af.lt g hg).1)
   case measure=>simp[intOf];omega
  ·have hk':k=xs.length:=by omega
   subst hk'
   have ae:=zce xs
   rw[List.take_length] at af
   have dO:=af
   obtain⟨_,⟨_,h0⟩ | ⟨g,cp,cur,rfl,hg,be,h4,h5,h6,h7⟩⟩:=af
   ·omega
   have bm:∀i,i<2*xs.length->wr.cell? ⟨g,0+i,none⟩=some (.int .u32 ((halves xs).getD i 0)):=by
    intro i hi
    have hil:i<(halves xs).length:=by omega
    have h:=dO.cells (g:=g) rfl i (.int .u32 ((halves xs).getD i 0)) (by simp[hil])
    by_cases h0:i=0
    ·subst h0
     simpa [Addr.add] using h
    ·simpa [Addr.add,h0] using h
   have cA:=zbj g 0 (2*xs.length) cp (halves xs) wr bm h4 (by omega)
   go_wp2_with (go_at_call 204;refine cA.mono ?_;rintro e w9 ⟨rfl,rfl⟩)
   go_ret
   refine⟨_,rfl,⟨zaw (zbk hd),by rw[zag];have:=zan (halves xs) (halves xs).length;omega,some ⟨g,0,none⟩,cp,by rw[zag,ae];rfl,by rw[zag];have:=zan (halves xs) (halves xs).length;omega,.inr ⟨g,0,rfl,?_,fun i hi=>?_⟩⟩,hbw⟩
   ·rcases Nat.lt_or_ge g w9.heap.size with hh | hh
    ·exact hh
    ·simp[Array.getElem?_eq_none hh] at be
   ·rw[zbe _ i hi]
    exact bm i (by rw[zag] at hi;have:=zan (halves xs) (halves xs).length;omega)
theorem zfq (q:Option Addr) (cap:Nat) (w:World):Calls Tryz.prog 184 #[.slice q 0 cap] w fun e w'=>e=.returned (.slice none 0 0)/\w'=w:=by
 have ht:=zc3 none 0 w
 go_enter Tryz.func184,Tryz.ntmps184
 go_wp2
 refine wp_loop_once ?_
 go_wp2_with (go_at_call 204;refine ht.mono ?_;rintro e w9 ⟨rfl,rfl⟩)
 go_ret
 exact⟨rfl,rfl⟩
theorem zdj {w:World} {v:Value} {xs:List Int} (h:Sl w v xs) (hn:xs.length<=274877906944):Calls Tryz.prog 184 #[v] w fun e w'=>∃r,e=.returned r/\Sl16 w' r (trim (halves xs))/\Below w.heap.size w w':=by
 obtain⟨h1,h2,q,cap,rfl,h4,h5⟩:=h
 rcases h5 with rfl | ⟨b,o,rfl,hlt,hc⟩
 ·refine(zfq q cap w).mono ?_
  rintro e w' ⟨rfl,rfl⟩
  exact⟨_,rfl,⟨fun j=>by simp[halves,trim,trimTo],by simp[halves,trim],none,0,by simp[halves,trim],by simp[halves,trim],.inl (by simp[halves,trim])⟩,Below.refl _ _⟩
 ·by_cases hx:xs=[]
  ·subst hx
   refine(zfq _ cap w).mono ?_
   rintro e w' ⟨rfl,rfl⟩
   exact⟨_,rfl,⟨fun j=>by simp[halves,trim,trimTo],by simp[halves,trim],none,0,by simp[halves,trim],by simp[halves,trim],.inl (by simp[halves,trim])⟩,Below.refl _ _⟩
  ·exact zjo b o cap xs w h1 hn hc hlt (List.length_pos_iff.2 hx)
theorem zky:Dig16 [1]:=fun j=>by
 match j with
 | 0=>simp
 | j+1=>simp
end Go.Proofs.YtnnhofmknilopaaGreatDoor
