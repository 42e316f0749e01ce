import Derived.Test.YtfhjhnofkaiceaaGreatDoorDvA
import Derived.Deep.MidRow
import Derived.ChangeArms
import Derived.DataReads
import Derived.Test.YtfhjhnofkaiceaaGreatDoorDvG
import Derived.Test.YtfhjhnofkaiceaaGreatDoorDvD
namespace Go.Proofs.YtfhjhnofkaiceaaGreatDoor
open Go Go.RowKit
structure Bk {H:Type} (B:DataW H->Nat):Prop where
 el:∀es rest e,e∈es->B e<=B (.slice es rest)
 len:∀es rest,es.length<=B (.slice es rest)
 ag:∀ps p,p∈ps->B p<=B (.agg ps)
theorem pick {α:Type} [Inhabited α] {n:Nat} {p:Nat->α->Prop} (h:∀i,i<n->∃x,p i x):∃f:Nat->α,∀i,i<n->p i (f i):=
 ⟨fun i=>if hi:i<n then(h i hi).choose else default,fun i hi=>by dsimp only;rw[dif_pos hi];exact(h i hi).choose_spec⟩
section
variable {H:Type} {enc:TypeId × Value->H} {w:World} {spare:Nat->Bool} {held:Bool}
theorem range_of_cells {a:Addr} {n:Nat} {cs:List Value} (h:w.cells? 0 a n=some cs) (hn:0<n):a=⟨a.block,a.off,none⟩/\a.block<w.heap.size/\cs.length=n/\w.rangeAt a.block a.off cs:=by
 obtain⟨_,hl,hc⟩:=World.cells?_some h
 have h0:=hc 0 hn
 have hv:∃v,w.cell? a=some v:=by
  rw[show a.add 0=a from rfl] at h0
  rw[h0]
  exact⟨cs[0]'(by omega),by rw[List.getElem?_eq_getElem]⟩
 obtain⟨v,hv⟩:=hv
 have hspot:a.spot=none:=by
  unfold World.cell? at hv
  split at hv
  ·cases hs:a.spot with
   | none=>rfl
   | some s=>simp[hs] at hv
  ·cases hv
 refine⟨?_,World.block_lt_of_cell? w _ hv,hl,fun j u hu=>?_⟩
 ·cases a;simp_all
 ·have hj:j<n:=by
   rw[<-hl]
   rw[List.getElem?_eq_some_iff] at hu
   exact hu.1
  have:=hc j hj
  rw[hu] at this
  rw[<-this]
  congr 1
  unfold Addr.add
  split
  ·rename_i hj0
   subst hj0
   cases a;simp_all
  ·rfl
theorem open_slice {t e:TypeId} {sz fuel:Nat} {cs:List Value} {x:DataW H × List MemPlace} (ht:Tryz.prog.underlying t=some (.slice e)) (hsz:Tryz.prog.cellsOf e=sz) (h0:0<sz)
  (h:DataW.trod enc Tryz.prog w 0 spare held fuel t cs=some x):∃q n c,cs=[.slice q n c]/\n<=c/\(∀B:DataW H->Nat,Bk B->n<=B x.1)/\
    (n=0\/∃b o,q=some ⟨b,o,none⟩/\b<w.heap.size/\∀i,i<n->∃ces y m,m<fuel/\w.rangeAt b (o+i*sz) ces/\ces.length=sz/\DataW.trod enc Tryz.prog w 0 spare held m e ces=some y/\∀B:DataW H->Nat,Bk B->B y.1<=B x.1):=by
 rcases DataW.trod_slice ht h with⟨rfl,rfl⟩ | ⟨a,len,cap,elems,rest,n,rfl,rfl,rfl,_,hlc,_,hel,hget,_,_⟩
 ·exact⟨none,0,0,rfl,Nat.le_refl _,fun B _=>Nat.zero_le _,.inl rfl⟩
 ·refine⟨some a,len,cap,rfl,hlc,fun B hB=>by have:=hB.len (elems.map (·.1)) (rest.map (·.1));simpa [hel] using this,?_⟩
  by_cases hz:len=0
  ·exact .inl hz
  ·refine .inr ?_
   have hfst:=hget 0 (by omega)
   have hsome:∀i,i<len->∃ces y,w.cells? 0 (a.add (i*sz)) sz=some ces/\DataW.trod enc Tryz.prog w 0 spare held n e ces=some y/\elems[i]?=some y:=by
    intro i hi
    have hg:=hget i hi
    rw[hsz] at hg
    have hi':i<elems.length:=by omega
    rw[List.getElem?_eq_getElem hi',Option.bind_eq_some_iff] at hg
    obtain⟨ces,h1,h2⟩:=hg
    exact⟨ces,_,h1,h2,List.getElem?_eq_getElem hi'⟩
   obtain⟨c0,y0,k0,_,_⟩:=hsome 0 (by omega)
   rw[Nat.zero_mul,show a.add 0=a from rfl] at k0
   obtain⟨ha,hb,_,_⟩:=range_of_cells k0 h0
   refine⟨a.block,a.off,by rw[<-ha],hb,fun i hi=>?_⟩
   obtain⟨ces,y,k1,k2,k3⟩:=hsome i hi
   obtain⟨_,_,hl,hr⟩:=range_of_cells k1 h0
   have e1:(a.add (i*sz)).block=a.block:=by unfold Addr.add;split<;>rfl
   have e2:(a.add (i*sz)).off=a.off+i*sz:=by
    unfold Addr.add
    split
    ·rename_i hz0
     rw[hz0];rfl
    ·rfl
   rw[e1,e2] at hr
   refine⟨ces,y,n,Nat.lt_succ_self n,hr,hl,k2,fun B hB=>hB.el _ _ _ ?_⟩
   exact List.mem_map_of_mem (List.mem_of_getElem? k3)
theorem c96:Tryz.prog.cellsOf 137=1:=by kernel_rfl
theorem c22:Tryz.prog.cellsOf 39=1:=by kernel_rfl
theorem c3:Tryz.prog.cellsOf 3=1:=by kernel_rfl
theorem c4:Tryz.prog.cellsOf 4=1:=by kernel_rfl
theorem c9:Tryz.prog.cellsOf 9=1:=by kernel_rfl
theorem c24:Tryz.prog.cellsOf 41=3:=by kernel_rfl
theorem c25:Tryz.prog.cellsOf 42=1:=by kernel_rfl
theorem c27:Tryz.prog.cellsOf 44=7:=by kernel_rfl
theorem c28:Tryz.prog.cellsOf 49=1:=by kernel_rfl
theorem c29:Tryz.prog.cellsOf 50=1:=by kernel_rfl
theorem c30:Tryz.prog.cellsOf 51=1:=by kernel_rfl
theorem c32:Tryz.prog.cellsOf 53=21:=by kernel_rfl
theorem c62:Tryz.prog.cellsOf 158=4:=by kernel_rfl
theorem c65:Tryz.prog.cellsOf 160=8:=by kernel_rfl
theorem open_words {fuel:Nat} {cs:List Value} {x:DataW H × List MemPlace} {B:DataW H->Nat} (hB:Bk B) (hx:B x.1<=1048576) (h:DataW.trod enc Tryz.prog w 0 spare held fuel 39 cs=some x):
  ∃q n c xs,cs=[.slice q n c]/\Sl w (.slice q n c) xs/\xs.length<=1048576:=by
 obtain⟨q,n,c,rfl,hnc,hb,hel⟩:=open_slice Tryz.underlying39 c96 (by decide) h
 have hn:=hb B hB
 rcases hel with rfl | ⟨b,o,rfl,hlt,hel⟩
 ·exact⟨q,0,c,[],rfl,⟨fun j=>by simp,by simp,q,c,rfl,by simp,.inl rfl⟩,by simp⟩
 ·have hp:∀i,i<n->∃z:Int,w.cell? ⟨b,o+i,none⟩=some (.int .u32 z)/\0<=z/\z<=4294967295:=by
   intro i hi
   obtain⟨ces,y,m,_,hr,hl,ht,_⟩:=hel i hi
   obtain⟨z,rfl,_,hw⟩:=DataW.trod_int Tryz.underlying137 ht
   have:=hr 0 _ rfl
   simp only[Lit.wf,Bool.and_eq_true,decide_eq_true_eq] at hw
   refine⟨z,by simpa using this,?_⟩
   exact hw
  obtain⟨f,hf⟩:=pick hp
  have hlen:((List.range n).map f).length=n:=by simp
  have hget:∀i,i<n->((List.range n).map f).getD i 0=f i:=by
   intro i hi
   simp[List.getD,hi]
  refine⟨some ⟨b,o,none⟩,n,c,(List.range n).map f,rfl,⟨fun j=>?_,by rw[hlen];omega,some ⟨b,o,none⟩,c,by rw[hlen],by rw[hlen];exact hnc,.inr ⟨b,o,rfl,hlt,fun i hi=>?_⟩⟩,by rw[hlen];omega⟩
  ·by_cases hj:j<n
   ·rw[hget j hj]
    exact⟨(hf j hj).2.1,(hf j hj).2.2⟩
   ·rw[List.getD,List.getElem?_eq_none (by rw[hlen];omega)]
    decide
  ·rw[hlen] at hi
   rw[hget i hi]
   exact(hf i hi).1
end
end Go.Proofs.YtfhjhnofkaiceaaGreatDoor
namespace Go.Proofs.YtfhjhnofkaiceaaGreatDoor
open Go Go.RowKit
instance:Inhabited Ex:=⟨.non⟩
instance:Inhabited Nd:=⟨⟨0,0,false,none,0,0,none,0,0,⟨#[]⟩,none,0,0⟩⟩
instance:Inhabited Pt:=⟨⟨⟨#[]⟩,false,[],[]⟩⟩
instance:Inhabited Va:=⟨⟨⟨#[]⟩,false,none,0,0,none,0,0⟩⟩
instance:Inhabited Bd:=⟨⟨⟨#[]⟩,.non⟩⟩
instance:Inhabited Bi:=⟨⟨⟨#[]⟩,0,0,false,none,0,0,none,0,0,⟨#[]⟩,none,0,0⟩⟩
instance:Inhabited St:=⟨.non⟩
instance:Inhabited Sd:=⟨⟨⟨0,⟨#[]⟩,⟨#[]⟩,false,0,0,0,⟨#[]⟩,0⟩,none,0,0,none,0,0,default,none,0,0,none,0,0,none,0,0⟩⟩
theorem list_cons {α:Type} {n:Nat}:∀{l:List α},l.length=n+1->∃a t,l=a::t/\t.length=n
 | [],h=>by simp at h
 | a::t,h=>⟨a,t,rfl,by simpa using h⟩
section
variable {H:Type} {enc:TypeId × Value->H} {w:World} {spare:Nat->Bool} {held:Bool} {B:DataW H->Nat}
theorem open_rat (hB:Bk B) {fuel:Nat} {cs:List Value} {x:DataW H × List MemPlace} (hx:B x.1<=1048576) (h:DataW.trod enc Tryz.prog w 0 spare held fuel 41 cs=some x):
  ∃g q n c q' n' c' nu de,cs=[.bool g,.slice q n c,.slice q' n' c']/\Sl w (.slice q n c) nu/\Sl w (.slice q' n' c') de/\nu.length<=1048576/\de.length<=1048576:=by
 obtain⟨xs,n,_,rfl,hl,hxl,hf⟩:=DataW.trod_struct Tryz.underlying41 h
 rw[c24] at hl
 have hxl':xs.length=3:=hxl
 clear hxl
 obtain⟨a0,cs0r,rfl,hl0⟩:=list_cons (n:=2) hl
 obtain⟨a1,cs1r,rfl,hl1⟩:=list_cons (n:=1) hl0
 obtain⟨a2,cs2r,rfl,hl2⟩:=list_cons (n:=0) hl1
 obtain rfl:=List.length_eq_zero_iff.1 hl2
 obtain⟨y0,xs0r,rfl,hxl'0⟩:=list_cons (n:=2) hxl'
 obtain⟨y1,xs1r,rfl,hxl'1⟩:=list_cons (n:=1) hxl'0
 obtain⟨y2,xs2r,rfl,hxl'2⟩:=list_cons (n:=0) hxl'1
 obtain rfl:=List.length_eq_zero_iff.1 hxl'2
 have h0:DataW.trod enc Tryz.prog w 0 spare held n 4 [a0]=some y0:=by have:=hf 0 _ rfl;simpa [c4] using this
 have h1:DataW.trod enc Tryz.prog w 0 spare held n 39 [a1]=some y1:=by have:=hf 1 _ rfl;simpa [c22] using this
 have h2:DataW.trod enc Tryz.prog w 0 spare held n 39 [a2]=some y2:=by have:=hf 2 _ rfl;simpa [c22] using this
 have b1:B y1.1<=1048576:=Nat.le_trans (hB.ag _ _ (by simp)) hx
 have b2:B y2.1<=1048576:=Nat.le_trans (hB.ag _ _ (by simp)) hx
 obtain⟨g,e0,_⟩:=DataW.trod_bool Tryz.underlying4 h0
 obtain⟨q,m,c,nu,e1,s1,l1⟩:=open_words hB b1 h1
 obtain⟨q',m',c',de,e2,s2,l2⟩:=open_words hB b2 h2
 simp only[List.cons.injEq,and_true] at e0 e1 e2
 subst e0 e1 e2
 exact⟨g,q,m,c,q',m',c',nu,de,rfl,s1,s2,l1,l2⟩
end
end Go.Proofs.YtfhjhnofkaiceaaGreatDoor
