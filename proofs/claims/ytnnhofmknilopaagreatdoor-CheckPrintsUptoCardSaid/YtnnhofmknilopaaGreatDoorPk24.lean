import Derived.Shelf.Strings.BuilderK
import Derived.Maps.OwnSet
import Derived.Maps.StringElems
import Derived.Test.YtnnhofmknilopaaGreatDoorPk23
namespace Go.Proofs.YtnnhofmknilopaaGreatDoor
open Go Go.RowKit
def Ex.vd:Ex->Prop
 | .non=>False
 | .mk k f g nu de m n ar=>nodeOk k f g (val nu) (val de) m n=true/\∀i,i<n->(ar i).vd
def sumN (F:Nat->Nat):Nat->Nat
 | 0=>0
 | c+1=>sumN F c+F c
theorem sum_ge {F:Nat->Nat}:∀{c i:Nat},i<c->F i<=sumN F c
 | 0,i,h=>absurd h (Nat.not_lt_zero _)
 | c+1,i,h=>by
  unfold sumN
  rcases Nat.lt_or_ge i c with h1 | h1
  ·have:=sum_ge (F:=F) h1;omega
  ·have:i=c:=by omega
   subst this;omega
theorem zge (F:Nat->List UInt8):∀c,(sepT F c).length<=sumN (fun i=>(F i).length) c+2*c
 | 0=>by simp[sepT]
 | c+1=>by
  have:=zge F c
  unfold sepT sumN
  by_cases h:c=0
  ·simp[h];omega
  ·simp[h];omega
theorem zlr {k n:Nat} (h:n<10^k) (hk:1<=k):(Lib.decDigits n).length<=k:=by
 by_cases h0:n=0
 ·rw[h0,Lib.decDigits];simpa using hk
 ·rw[zjg _ h0,List.length_reverse]
  exact zjh k n h
theorem zbn {n:Int} (h:n.natAbs<10^19):(Lib.itoa n).length<=20:=by
 unfold Lib.itoa
 by_cases h0:n<0
 ·rw[if_pos h0]
  have:=zlr h (by omega)
  simpa using this
 ·rw[if_neg h0]
  have:=zlr (n:=n.toNat) (k:=19) (by omega) (by omega)
  omega
theorem zcx (l p:Int) (t:List UInt8):(parT l p t).length<=t.length+2:=by
 unfold parT
 split<;>simp
theorem zgf {k f:Int} {g:Bool} {X Y:Int} {m:ByteArray} {n:Nat} (h:nodeOk k f g X Y m n=true):
  (k=1/\n=0)\/(k=2/\n=0)\/(k=3/\n=0)\/(k=4/\n=1)\/(k=5/\n=2)\/(k=6/\n=2)\/(k=7/\n=2)\/(k=8/\n=2)\/(k=9/\n=1)\/(k=10/\n=1)\/(k=11/\n=1)\/(k=12/\n=1)\/(k=13/\n=2)\/(k=14/\n=2)\/(k=15/\n=3):=by
 unfold nodeOk at h
 simp only[Bool.and_eq_true,decide_eq_true_eq] at h
 have hk:=h.1.1
 rcases zc6 k with⟨x,hx,e1,e2,e3⟩ | ⟨e,_⟩
 ·rw[e2] at hk
  simp only[kK,List.mem_cons,List.not_mem_nil,or_false] at hx
  rcases hx with rfl | rfl | rfl | rfl | rfl | rfl | rfl | rfl | rfl | rfl | rfl | rfl | rfl | rfl | rfl<;>(simp only at e1 hk;subst e1;simp;omega)
 ·omega
theorem zi7 {k f:Int} {g:Bool} {X Y:Int} {m:ByteArray} {n:Nat} (h:nodeOk k f g X Y m n=true):loA k<=f/\f<=hiA k:=by
 unfold nodeOk at h
 simp only[Bool.and_eq_true,decide_eq_true_eq] at h
 exact h.1.2
theorem zd7 {k f:Int} {g:Bool} {X Y:Int} {m:ByteArray} {n:Nat} (h:nodeOk k f g X Y m n=true):-32<=f/\f<=32:=by
 have:=zi7 h
 unfold loA hiA at this
 split at this<;>(try split at this)<;>(try split at this)<;>omega
theorem ze5 {f:Int} {g:Bool} {X Y:Int} {m:ByteArray} {n:Nat} (h:nodeOk 1 f g X Y m n=true):large X Y=false:=by
 unfold nodeOk at h
 simp at h
 exact h.2.1.1
theorem zj4 {f:Int} {g:Bool} {X Y:Int} {m:ByteArray} {n:Nat} (h:nodeOk 2 f g X Y m n=true):m.size<=8:=by
 unfold nodeOk at h
 simp at h
 have:=h.2.2
 unfold nameB at this
 simp at this
 exact this.1
theorem zie {f:Int} (h1:1<=f) (h2:f<=8):(fnT f).length<=4:=by
 have:f=1\/f=2\/f=3\/f=4\/f=5\/f=6\/f=7\/f=8:=by omega
 rcases this with rfl | rfl | rfl | rfl | rfl | rfl | rfl | rfl<;>decide
theorem zg9 {k f:Int} {g:Bool} {X Y:Int} {m:ByteArray} {n:Nat} (h:nodeOk k f g X Y m n=true):(headT k f).length<=30:=by
 have hi:(Lib.itoa f).length<=20:=zbn (by have:=zd7 h;show _<10000000000000000000;omega)
 unfold headT
 by_cases h10:k=10
 ·rw[if_pos h10]
  by_cases h2:f=2
  ·rw[if_pos h2];decide
  ·rw[if_neg h2];simp;omega
 ·rw[if_neg h10]
  by_cases h11:k=11
  ·rw[if_pos h11]
   subst h11
   have:=zi7 h
   have:=zie (f:=f) (by unfold loA at this;simp at this;omega) (by unfold hiA at this;simp at this;omega)
   simp;omega
  ·rw[if_neg h11]
   split
   ·decide
   ·split
    ·decide
    ·split
     ·decide
     ·split<;>decide
theorem zb9 (m:ByteArray):m.toList.length=m.size:=by rw[ByteArray.toList_eq,Array.length_toList];rfl
theorem zls {k f:Int} {g:Bool} {X Y:Int} {m:ByteArray} {n:Nat} (h:nodeOk k f g X Y m n=true) (T:Nat->List UInt8) (L:Nat->Int):
  (nodeT k f g X Y m n T L).length<=1300+sumN (fun i=>(T i).length) n:=by
 have hi:(Lib.itoa f).length<=20:=zbn (by have:=zd7 h;show _<10000000000000000000;omega)
 have hh:=zg9 h
 have hs:=zge T n
 have hsg:(signT k).length=3:=by unfold signT;split<;>(try split)<;>(try split)<;>rfl
 have p1:=zcx (L 0) 3 (T 0)
 have p2:=zcx (L 0) 1 (T 0)
 have p3:=zcx (L 1) 2 (T 1)
 have p4:=zcx (L 0) 2 (T 0)
 have p5:=zcx (L 1) 3 (T 1)
 have p6:=zcx (L 0) 5 (T 0)
 rcases zgf h with⟨rfl,rfl⟩ | ⟨rfl,rfl⟩ | ⟨rfl,rfl⟩ | ⟨rfl,rfl⟩ | ⟨rfl,rfl⟩ | ⟨rfl,rfl⟩ | ⟨rfl,rfl⟩ | ⟨rfl,rfl⟩ | ⟨rfl,rfl⟩ | ⟨rfl,rfl⟩ | ⟨rfl,rfl⟩ | ⟨rfl,rfl⟩ | ⟨rfl,rfl⟩ | ⟨rfl,rfl⟩ | ⟨rfl,rfl⟩<;>simp only[sumN] at hs ⊢<;>unfold nodeT<;>simp (config:={ decide:=true }) only[if_true,if_false,List.length_append,List.length_cons,List.length_nil]
 all_goals first
  | omega
  | (have:=zdn (g:=g) (ze5 h);omega)
  | (have:=zj4 h;rw[zb9];omega)
theorem zi8 {P:Nat->Nat->Option Nat} {F:Nat->Nat} (hP:∀i n a,P i n=some a->F i+2000*n<=2000*a):∀{c n a:Nat},cntF P c n=some a->sumN F c+2000*n<=2000*a/\∀i,i<c->∃n a,P i n=some a
 | 0,n,a,h=>by
  simp only[cntF,Option.some.injEq] at h
  subst h
  exact⟨by simp[sumN],fun i hi=>absurd hi (Nat.not_lt_zero _)⟩
 | c+1,n,a,h=>by
  unfold cntF at h
  cases hq:cntF P c n with
  | none=>rw[hq] at h;cases h
  | some x=>
   rw[hq] at h
   have h1:=zi8 hP hq
   have h2:=hP _ _ _ h
   refine⟨by unfold sumN;omega,fun i hi=>?_⟩
   rcases Nat.lt_or_ge i c with h3 | h3
   ·exact h1.2 i h3
   ·have:i=c:=by omega
    subst this
    exact⟨_,_,h⟩
theorem Ex.cnt_txt:∀(x:Ex) (d n a:Nat),x.cnt d n=some a->x.vd/\x.txt.length+2000*n<=2000*a:=by
 intro x
 induction x with
 | non=>intro d n a h;cases h
 | mk k f g nu de m c ar ih=>
  intro d n a h
  unfold Ex.cnt at h
  split at h
  ·rename_i hc
   have h1:=zi8 (F:=fun i=>(ar i).txt.length) (fun i n a hi=>(ih i _ _ _ hi).2) h
   refine⟨⟨hc.2.2,fun i hi=>?_⟩,?_⟩
   ·obtain⟨n',a',h2⟩:=h1.2 i hi
    exact(ih i _ _ _ h2).1
   ·have:=zls hc.2.2 (fun i=>(ar i).txt) (fun i=>lev (ar i).k)
    unfold Ex.txt
    omega
  ·cases h
theorem Ex.ok_txt {x:Ex} (h:(x.cnt 1 0).isSome=true):x.vd/\x.txt.length<=600000:=by
 obtain⟨a,ha⟩:=Option.isSome_iff_exists.1 h
 have h1:=Ex.cnt_le x _ _ _ ha
 have h2:=Ex.cnt_txt x _ _ _ ha
 exact⟨h2.1,by omega⟩
def Bld (w:World) (B b:Nat) (l:List UInt8):Prop:=Lib.IsBuilderF 43 5 B b (Lib.byteCells l) w
structure Wr (B b:Nat) (w w':World):Prop where
 below:Below B w w'
 kept:Lib.OthersKept 5 (some b) w w'
 size:w.heap.size<=w'.heap.size
theorem Wr.refl (B b:Nat) (w:World):Wr B b w w:=⟨Below.refl _ _,Lib.OthersKept.refl _ _ _,Nat.le_refl _⟩
theorem Wr.trans {B b:Nat} {w w' w'':World} (h:Wr B b w w') (h':Wr B b w' w''):Wr B b w w'':=⟨h.below.trans h'.below,h.kept.trans h'.kept,Nat.le_trans h.size h'.size⟩
theorem zap {B B':Nat} {w w':World} (h:Below B w w') (hb:B'<=B):Below B' w w':=⟨h.os,h.tape,h.output,h.size,fun k hk=>h.block k (Nat.lt_of_lt_of_le hk hb)⟩
theorem Wr.of {B b:Nat} {w w':World} (h:Below w.heap.size w w') (hB:B<=w.heap.size):Wr B b w w':=
 ⟨zap h hB,fun k o hk _ _=>by rw[h.block k (Array.getElem?_eq_some_iff.1 hk).1];exact hk,h.size⟩
theorem Wr.blk {B b:Nat} {w w':World} (h:Wr B b w w') {k:Nat} {cs:Array Value} {t:TypeId} {fr:Nat × Nat} (hk:w.heap[k]?=some (.cells cs t fr)) (hb:k≠b) (ht:t≠5):w'.heap[k]?=some (.cells cs t fr):=
 h.kept k _ hk (fun e=>hb (by cases e;rfl)) (fun c fz e=>ht (by cases e;rfl))
theorem Bld.le {w:World} {B b:Nat} {l:List UInt8} (h:Bld w B b l):B<=b/\b<w.heap.size:=by
 rcases h with⟨h1,v,h2,_⟩ | ⟨h1,v,h2,_⟩
 ·exact⟨h1,(Array.getElem?_eq_some_iff.1 h2).1⟩
 ·exact⟨h1,(Array.getElem?_eq_some_iff.1 h2).1⟩
theorem Bld.below {w w':World} {B b:Nat} {l:List UInt8} (h:Bld w B b l) (hb:Below w.heap.size w w'):Bld w' B b l:=by
 have key:∀p,Lib.BuilderAtF 43 5 B b p (Lib.byteCells l) w->Lib.BuilderAtF 43 5 B b p (Lib.byteCells l) w':=by
  rintro p ⟨h1,v,h2,h3,h4⟩
  refine⟨h1,v,by rw[hb.block b (Array.getElem?_eq_some_iff.1 h2).1];exact h2,?_,h4⟩
  refine h3.kept (row:=none) ⟨hb.os,hb.tape,hb.output,hb.size,fun k hk _=>hb.block k hk⟩ ?_
  cases v.ownBlock with
  | none=>exact .inl rfl
  | some g=>exact .inr (by simp)
 rcases h with h | h
 ·exact .inl (key _ h)
 ·exact .inr (key _ h)
theorem zif (a b:List UInt8):Lib.byteCells a++Lib.strCells ⟨b.toArray⟩=Lib.byteCells (a++b):=by
 rw[Lib.byteCells_append,Lib.strCells_eq]
theorem wstr {w:World} {B b:Nat} {l s:List UInt8} (h:Bld w B b l) (hl:l.length+s.length<=140737488355328) (hB:B<=w.heap.size):
  Calls Tryz.prog 28 #[.pointer (some ⟨b,0,none⟩),.string ⟨s.toArray⟩] w fun e w'=>(∃v,e=.returned v)/\Bld w' B b (l++s)/\Wr B b w w':=by
 refine(Any.Builder_WriteString_k lays166 zd6 B b (Lib.byteCells l) ⟨s.toArray⟩ w h (by rw[Lib.byteCells_length];show _+s.toArray.size<=_;simpa using hl) hB).mono ?_
 rintro e w' ⟨rfl,h1,h2,h3⟩
 exact⟨⟨_,rfl⟩,.inr (by rw[<-zif];exact h1),h2,h3,h2.size⟩
theorem wbyte {w:World} {B b:Nat} {l:List UInt8} {c:UInt8} (h:Bld w B b l) (hl:l.length+1<=140737488355328) (hB:B<=w.heap.size):
  Calls Tryz.prog 29 #[.pointer (some ⟨b,0,none⟩),.int .u8 c.toNat] w fun e w'=>(∃v,e=.returned v)/\Bld w' B b (l++[c])/\Wr B b w w':=by
 refine(Any.Builder_WriteByte_k lays167 zd5 B b (Lib.byteCells l) c.toNat w h (by rw[Lib.byteCells_length];exact hl) hB).mono ?_
 rintro e w' ⟨rfl,h1,h2,h3⟩
 exact⟨⟨_,rfl⟩,.inr (by rw[Lib.byteCells_append];exact h1),h2,h3,h2.size⟩
theorem bstr {w:World} {B b:Nat} {l:List UInt8} (h:Bld w B b l) (hB:B<=w.heap.size):
  Calls Tryz.prog 11 #[.pointer (some ⟨b,0,none⟩)] w fun e w'=>e=.returned (.string ⟨l.toArray⟩)/\Below B w w':=by
 refine(Any.Builder_String_any_k lays169 zd4 B b l w h hB).mono ?_
 rintro e w' ⟨rfl,_,h2,_⟩
 exact⟨rfl,h2⟩
theorem Bld.made (w:World):Bld (w.alloc (.cells #[.pointer none,.slice none 0 0] 43)) w.heap.size w.heap.size []:=
 .inl ⟨Nat.le_refl _,.slice none 0 0,heap_alloc_new w _,World.ownsRowF_nil _ _ _ _,by simp[Value.ownBlock]⟩
end Go.Proofs.YtnnhofmknilopaaGreatDoor
namespace Go.Proofs.YtnnhofmknilopaaGreatDoor
open Go Go.RowKit Go.Maps
def SgAt (w:World) (b n:Nat) (D:DataW Unit):Prop:=w.ownsMap Tryz.prog 3 (plainElem Tryz.prog 9) b n D
theorem SgAt.heap {w w':World} {b n:Nat} {D:DataW Unit} (h:SgAt w b n D) (hk:∀o,w.heap[b]?=some o->(∀c t fz,o≠.cells c t fz)->w'.heap[b]?=some o):SgAt w' b n D:=by
 obtain⟨es,clock,hb,F,hs,hD⟩:=h
 exact⟨es,clock,hk _ hb (fun c t fz e=>by cases e),F,hs,hD⟩
theorem SgAt.lt {w:World} {b n:Nat} {D:DataW Unit} (h:SgAt w b n D):b<w.heap.size:=World.ownsMap.lt h
theorem zha {w:World} {ops:Array Oper} {rest:List Oper} {o:Oper} {a:Act} {Q:Exit->Act->World->Prop} (hg:o.guard=none) (hop:o.op=Op.makeMap 509 none)
  (hK:∀w' M,M=w.heap.size->Below w.heap.size w w'->SgAt w' M 0 (.map [])->wpList Tryz.prog ops Q rest (a.put o.dst (.map (some M))) w'):wpList Tryz.prog ops Q (o::rest) a w:=by
 refine wpList_plain hg fun K' hK'=>?_
 have aQ:(Instr.makeMap 509 none).run Tryz.prog w=.ok (.map (some w.heap.size)) (w.alloc (.map #[] 0)):=rfl
 unfold Oper.wp
 simp[execOp,hop,aQ,Result.andThen]
 exact hK' _ _ (hK _ _ rfl (zaa w _) (World.ownsMap_made w Tryz.prog 3 _))
theorem zcy {w:World} {ops:Array Oper} {rest:List Oper} {o:Oper} {a:Act} {Q:Exit->Act->World->Prop} (hg:o.guard=none) (m x v:Operand) (hop:o.op=Op.insert 509 m x v)
  (b n:Nat) (D:DataW Unit) (hm:a.eval m=.map (some b)) (h:SgAt w b n D) (hn:n<1000) (k:Int) (hk:(Lit.int .i64 k).wf=true) (hx:a.eval x=.int .i64 k) (s:List UInt8) (hs:s.length<=1000) (hv:a.eval v=.string ⟨s.toArray⟩)
  (hK:∀w',SgAt w' b (n+1) (D.put (.int .i64 k) (.lit (.string s)))->w.grownBy w' (some b)->wpList Tryz.prog ops Q rest (a.put o.dst undef) w'):wpList Tryz.prog ops Q (o::rest) a w:=by
 refine wpList_plain hg fun K' hK'=>?_
 obtain⟨w',aQ,r1,r2⟩:=World.ownsMap.update h (int_keyed Tryz.underlying3) Tryz.underlying509 (by unfold maxLen;omega) (keyOf_int_mk Tryz.underlying3 hk) (plainElem_string (s:=⟨s.toArray⟩) Tryz.underlying9 (by show s.toArray.size<=_;unfold maxLen;simp;omega))
 unfold Oper.wp
 simp[execOp,hop,hm,hx,hv,aQ,Result.andThen]
 exact hK' _ _ (hK w' (by unfold SgAt;simpa using r1) r2)
theorem sg_look {w:World} {b n:Nat} {D:DataW Unit} (h:SgAt w b n D) {k:Int} (hk:(Lit.int .i64 k).wf=true) {s:List UInt8} (hD:∀z,D.atKey (.int .i64 k) z=.lit (.string s)):
  (Instr.lookup 509 (.map (some b)) (.int .i64 k) false).run Tryz.prog w=.ok (.string ⟨s.toArray⟩) w:=by
 obtain⟨v,ps,aQ,hR⟩:=World.ownsMap.lookup h (int_keyed Tryz.underlying3) Tryz.underlying509 (Tryz.zeroValue9 w) (plainElem_string (s:=⟨#[]⟩) Tryz.underlying9 (by decide)) (keyOf_int_mk Tryz.underlying3 hk)
 obtain⟨s',rfl,e,_⟩:=plainElem_string_inv Tryz.underlying9 hR
 rw[hD] at e
 simp only[Prod.mk.injEq,DataW.lit.injEq,Lit.string.injEq] at e
 rw[aQ,e.1]
set_option maxRecDepth 100000
set_option maxHeartbeats 16000000
def WrC (w0:World) (f:FuncId) (us:List Value) (T:List UInt8):Prop:=∀(w:World) (B b:Nat) (l:List UInt8),Below w0.heap.size w0 w->w0.heap.size<=B->B<=w.heap.size->Bld w B b l->l.length+T.length<=140737488355328->
 Calls Tryz.prog f (Value.pointer (some ⟨b,0,none⟩)::us).toArray w fun e w'=>(∃v,e=.returned v)/\Bld w' B b (l++T)/\Wr B b w w'
theorem Wr.base {w0 w w':World} {B b:Nat} (h:Wr B b w w') (hb:Below w0.heap.size w0 w) (h0:w0.heap.size<=B):Below w0.heap.size w0 w':=hb.trans (zap h.below h0)
theorem zaf {w:World} {N:Nat} {v0 v1 v2 v3 v4 v5 v6:Value} {t:TypeId} (h:w.heap[N]?=some (.cells #[v0,v1,v2,v3,v4,v5,v6] t (0,0))):
  w.cell? ⟨N,0,none⟩=some v0/\w.cell? ⟨N,1,none⟩=some v1/\w.cell? ⟨N,2,none⟩=some v2/\w.cell? ⟨N,3,none⟩=some v3/\w.cell? ⟨N,4,none⟩=some v4/\w.cell? ⟨N,5,none⟩=some v5/\w.cell? ⟨N,6,none⟩=some v6:=by
 simp[World.cell?,h]
theorem place_ok {w0:World} {d:Nd} {T:List UInt8} {p:Int} (hX:WrC w0 387 [d.val] T) (hk1:1<=d.k) (hk2:d.k<=15):WrC w0 459 [d.val,.int .i64 p] (parT (lev d.k) p T):=by
 intro w B b l hbw hB0 hB hbl ae
 obtain⟨hBb,hbs⟩:=hbl.le
 have hX':=zab hX
 unfold Nd.val at hX' ⊢
 obtain⟨k,f,ng,aq,an,ac,cq,cn,cc,m,sq,sn,sc⟩:=d
 simp only at hX' hk1 hk2 ae ⊢
 have hb0:=zaa w (.cells #[.int .i64 k,.int .i64 f,.bool ng,.slice aq an ac,.slice cq cn cc,.string m,.slice sq sn sc] 27)
 have hlv:=levP_ok hk1 hk2 (w.alloc (.cells #[.int .i64 k,.int .i64 f,.bool ng,.slice aq an ac,.slice cq cn cc,.string m,.slice sq sn sc] 27))
 have hW0:Hid (Wr B b w (w.alloc (.cells #[.int .i64 k,.int .i64 f,.bool ng,.slice aq an ac,.slice cq cn cc,.string m,.slice sq sn sc] 27))):=Wr.of hb0 hB
 have k0:Hid ((w.alloc (.cells #[.int .i64 k,.int .i64 f,.bool ng,.slice aq an ac,.slice cq cn cc,.string m,.slice sq sn sc] 27)).heap[w.heap.size]?=some (.cells #[.int .i64 k,.int .i64 f,.bool ng,.slice aq an ac,.slice cq cn cc,.string m,.slice sq sn sc] 27 (0,0))):=heap_alloc_new w _
 have bl0:=zab (hbl.below hb0)
 have hNb:w.heap.size≠b:=by omega
 have aS:=zab hB0
 have aH:=zab hbw
 have hB':=zab hB
 clear hX hb0 hbl hB0 hbw hB
 by_cases hp:lev k<p
 ·have hpd:decide (p<=lev k)=false:=by simp;omega
  rw[show parT (lev k) p T=40::(T++[41]) from if_pos hp] at ae ⊢
  simp only[List.length_cons,List.length_append,List.length_nil] at ae
  clear hp
  go_enter Tryz.func459,Tryz.ntmps459
  go_wp2_with (first
   | (go_at_call 504;refine hlv.mono ?_;rintro e w1 ⟨rfl,hb1⟩
      have W1:=hW0.out.trans (Wr.of (B:=B) (b:=b) hb1 (Nat.le_trans hB'.out hW0.out.size))
      have k1:=W1.size
      have k1:w1.heap[w.heap.size]?=some (.cells #[.int .i64 k,.int .i64 f,.bool ng,.slice aq an ac,.slice cq cn cc,.string m,.slice sq sn sc] 27 (0,0)):=by rw[hb1.block _ (by simp)];exact k0.out
      have bl1:=bl0.out.below hb1
      have hS1:=wstr (s:=[40]) bl1 (by simp;omega) (Nat.le_trans hB'.out W1.size)
      obtain⟨x0,x1,x2,x3,x4,x5,x6⟩:=zaf k1
      clear hlv hb1 bl1)
   | (go_at_call 28;refine hS3.mono ?_;rintro e w4 ⟨⟨v4,rfl⟩,bl4,W34⟩)
   | (go_at_call 28;refine hS1.mono ?_;rintro e w2 ⟨⟨v2,rfl⟩,bl2,W12⟩
      have W2:=W1.trans W12
      have k2:=W12.blk k1 hNb (by decide)
      have hX2:=hX'.out w2 B b _ (W2.base aH.out aS.out) aS.out (Nat.le_trans hB'.out W2.size) bl2 (by simp;omega)
      clear x0 x1 x2 x3 x4 x5 x6
      obtain⟨x0,x1,x2,x3,x4,x5,x6⟩:=zaf k2
      clear hS1 W12 W1 k1 bl2)
   | (go_at_call 387;refine hX2.mono ?_;rintro e w3 ⟨⟨v3,rfl⟩,bl3,W23⟩
      have W3:=W2.trans W23
      have hS3:=wstr (s:=[41]) bl3 (by simp;omega) (Nat.le_trans hB'.out W3.size)
      clear hX2 W23 W2 k2 bl3))
  go_end0
  exact⟨⟨_,rfl⟩,by simpa using bl4,W3.trans W34⟩
 ·have hpd:decide (p<=lev k)=true:=by simp;omega
  rw[show parT (lev k) p T=T from if_neg hp] at ae ⊢
  clear hp
  go_enter Tryz.func459,Tryz.ntmps459
  go_wp2_with (first
   | (go_at_call 504;refine hlv.mono ?_;rintro e w1 ⟨rfl,hb1⟩
      have W1:=hW0.out.trans (Wr.of (B:=B) (b:=b) hb1 (Nat.le_trans hB'.out hW0.out.size))
      have k1:w1.heap[w.heap.size]?=some (.cells #[.int .i64 k,.int .i64 f,.bool ng,.slice aq an ac,.slice cq cn cc,.string m,.slice sq sn sc] 27 (0,0)):=by rw[hb1.block _ (by simp)];exact k0.out
      have hX2:=hX'.out w1 B b _ (W1.base aH.out aS.out) aS.out (Nat.le_trans hB'.out W1.size) (bl0.out.below hb1) ae
      obtain⟨x0,x1,x2,x3,x4,x5,x6⟩:=zaf k1
      clear hlv hb1 k1)
   | (go_at_call 387;refine hX2.mono ?_;rintro e w3 ⟨⟨v3,rfl⟩,bl3,W23⟩))
  refine bodyPost_ret (results_none rfl _ _ _) rfl ?_
  exact⟨⟨_,rfl⟩,bl3,W1.trans W23⟩
def sgD:DataW Unit:=((((DataW.map []).put (.int .i64 5) (.lit (.string [32,43,32]))).put (.int .i64 6) (.lit (.string [32,45,32]))).put (.int .i64 7) (.lit (.string [32,42,32]))).put (.int .i64 8) (.lit (.string [32,47,32]))
theorem sgD_at {k:Int} (h:k=5\/k=6\/k=7\/k=8):(Lit.int .i64 k).wf=true/\∀z,sgD.atKey (.int .i64 k) z=.lit (.string (signT k)):=by
 rcases h with rfl | rfl | rfl | rfl
 ·exact⟨by decide,fun z=>rfl⟩
 ·exact⟨by decide,fun z=>rfl⟩
 ·exact⟨by decide,fun z=>rfl⟩
 ·exact⟨by decide,fun z=>rfl⟩
theorem zeo {w0:World} {k f:Int} {ng:Bool} {aq cq:Option Addr} {an ac cn cc sc kb ko:Nat} {m:ByteArray} {d0 d1:Nd} {T0 T1:List UInt8} {p q:Int}
  (hk:k=5\/k=6\/k=7\/k=8) (hkb:kb<w0.heap.size) (n0:NdAt w0 kb ko d0) (n1:NdAt w0 kb (ko+7) d1)
  (hX0:WrC w0 459 [d0.val,.int .i64 p] T0) (hX1:WrC w0 459 [d1.val,.int .i64 q] T1):
  WrC w0 460 [.agg #[.int .i64 k,.int .i64 f,.bool ng,.slice aq an ac,.slice cq cn cc,.string m,.slice (some ⟨kb,ko,none⟩) 2 sc],.int .i64 p,.int .i64 q] (T0++(signT k++T1)):=by
 intro w B b l hbw hB0 hB hbl ae
 obtain⟨hBb,hbs⟩:=hbl.le
 obtain⟨k0,f0,g0,aq0,an0,ac0,cq0,cn0,cc0,s0,sq0,sn0,sc0⟩:=d0
 obtain⟨k1,f1,g1,aq1,an1,ac1,cq1,cn1,cc1,s1,sq1,sn1,sc1⟩:=d1
 simp only[List.length_append] at ae
 have b0':=zaa w (.cells #[.int .i64 k,.int .i64 f,.bool ng,.slice aq an ac,.slice cq cn cc,.string m,.slice (some ⟨kb,ko,none⟩) 2 sc] 27)
 have hc0:Hid ((w.alloc (.cells #[.int .i64 k,.int .i64 f,.bool ng,.slice aq an ac,.slice cq cn cc,.string m,.slice (some ⟨kb,ko,none⟩) 2 sc] 27)).heap[w.heap.size]?=some (.cells #[.int .i64 k,.int .i64 f,.bool ng,.slice aq an ac,.slice cq cn cc,.string m,.slice (some ⟨kb,ko,none⟩) 2 sc] 27 (0,0))):=heap_alloc_new w _
 have gT:=zab hX0
 have gU:=zab hX1
 have n0':=zab n0
 have n1':=zab n1
 have aS:=zab hB0
 have aH:=zab hbw
 have hB':=zab hB
 have i6:=zab hbl
 obtain⟨hkw,hkD⟩:=sgD_at hk
 have gV:=zab hkD
 unfold Nd.val at gT gU
 clear hX0 hX1 n0 n1 hB0 hbw hB hbl hkD
 obtain⟨S,hS⟩:∃S,Hid (signT k=S):=⟨_,rfl⟩
 have i7:Hid (∀z,sgD.atKey (.int .i64 k) z=.lit (.string S)):=by rw[<-hS.out];exact gV.out
 rw[hS.out] at ae ⊢
 clear gV hS
 go_enter Tryz.func460,Tryz.ntmps460
 go_upto_region 2 with(first
  | (refine zha rfl rfl ?_;intro m0 M hM hb0 sg0
     have hM1:w.heap.size<M:=by rw[hM];simp
     have b0:Below w.heap.size w m0:=b0'.trans (hb0.mono (by simp))
     have c0:m0.heap[w.heap.size]?=some (.cells #[.int .i64 k,.int .i64 f,.bool ng,.slice aq an ac,.slice cq cn cc,.string m,.slice (some ⟨kb,ko,none⟩) 2 sc] 27 (0,0)):=by rw[hb0.block _ (by simp)];exact hc0.out
     clear hb0 hM)
  | (refine zcy rfl _ _ _ rfl _ _ _ rfl sg3 (by omega) _ (by decide) rfl _ (by decide) rfl ?_;intro m4 sg4 hg3
     have b4:=b3.grown hg3 b3.size (fun k hk=>by cases hk;omega)
     have c4:m4.heap[w.heap.size]?=some (.cells #[.int .i64 k,.int .i64 f,.bool ng,.slice aq an ac,.slice cq cn cc,.string m,.slice (some ⟨kb,ko,none⟩) 2 sc] 27 (0,0)):=by rw[hg3.block _ (Array.getElem?_eq_some_iff.1 c3).1 (by intro e;cases e;omega)];exact c3
     clear sg3 hg3 b3 c3)
  | (refine zcy rfl _ _ _ rfl _ _ _ rfl sg2 (by omega) _ (by decide) rfl _ (by decide) rfl ?_;intro m3 sg3 hg2
     have b3:=b2.grown hg2 b2.size (fun k hk=>by cases hk;omega)
     have c3:m3.heap[w.heap.size]?=some (.cells #[.int .i64 k,.int .i64 f,.bool ng,.slice aq an ac,.slice cq cn cc,.string m,.slice (some ⟨kb,ko,none⟩) 2 sc] 27 (0,0)):=by rw[hg2.block _ (Array.getElem?_eq_some_iff.1 c2).1 (by intro e;cases e;omega)];exact c2
     clear sg2 hg2 b2 c2)
  | (refine zcy rfl _ _ _ rfl _ _ _ rfl sg1 (by omega) _ (by decide) rfl _ (by decide) rfl ?_;intro m2 sg2 hg1
     have b2:=b1.grown hg1 b1.size (fun k hk=>by cases hk;omega)
     have c2:m2.heap[w.heap.size]?=some (.cells #[.int .i64 k,.int .i64 f,.bool ng,.slice aq an ac,.slice cq cn cc,.string m,.slice (some ⟨kb,ko,none⟩) 2 sc] 27 (0,0)):=by rw[hg1.block _ (Array.getElem?_eq_some_iff.1 c1).1 (by intro e;cases e;omega)];exact c1
     clear sg1 hg1 b1 c1)
  | (refine zcy rfl _ _ _ rfl _ _ _ rfl sg0 (by omega) _ (by decide) rfl _ (by decide) rfl ?_;intro m1 sg1 hg0
     have b1:=b0.grown hg0 b0.size (fun k hk=>by cases hk;omega)
     have c1:m1.heap[w.heap.size]?=some (.cells #[.int .i64 k,.int .i64 f,.bool ng,.slice aq an ac,.slice cq cn cc,.string m,.slice (some ⟨kb,ko,none⟩) 2 sc] 27 (0,0)):=by rw[hg0.block _ (Array.getElem?_eq_some_iff.1 c0).1 (by intro e;cases e;omega)];exact c0
     clear sg0 hg0 b0 c0))
 have sg:SgAt m4 M 4 sgD:=sg4
 have W4:Wr B b w m4:=Wr.of b4 hB'.out
 have hNb:w.heap.size≠b:=by omega
 have hMb:M≠b:=by omega
 have hP0:=gT.out m4 B b l (W4.base aH.out aS.out) aS.out (Nat.le_trans hB'.out W4.size) (i6.out.below b4) (by omega)
 obtain⟨x0,x1,x2,x3,x4,x5,x6⟩:=zaf c4
 obtain⟨y0,y1,y2,y3,y4,y5,y6⟩:=n0'.out.below (W4.base aH.out aS.out) hkb
 clear sg4 b4
 go_wp2_with (first
  | (go_at_call 459;refine hP1.mono ?_;rintro e w7 ⟨⟨v7,rfl⟩,bl7,W67⟩)
  | (go_at_call 459;refine hP0.mono ?_;rintro e w5 ⟨⟨v5,rfl⟩,bl5,W45⟩
     have W5:=W4.trans W45
     have c5:=W45.blk c4 hNb (by decide)
     have sg5:=sg.heap (fun o ho hne=>W45.kept M o ho (fun e=>hMb (by cases e;rfl)) (fun c fz e=>hne c 5 fz e))
     have hlk:=sg_look sg5 hkw i7.out
     have hS:=wstr (s:=S) bl5 (by simp only[List.length_append];omega) (Nat.le_trans hB'.out W5.size)
     clear x0 x1 x2 x3 x4 x5 x6 y0 y1 y2 y3 y4 y5 y6 hP0 W4 W45 sg sg5 c4
     obtain⟨x0,x1,x2,x3,x4,x5,x6⟩:=zaf c5)
  | (go_at_call 28;refine hS.mono ?_;rintro e w6 ⟨⟨v6,rfl⟩,bl6,W56⟩
     have W6:=W5.trans W56
     have c6:=W56.blk c5 hNb (by decide)
     have hP1:=gU.out w6 B b _ (W6.base aH.out aS.out) aS.out (Nat.le_trans hB'.out W6.size) bl6 (by simp only[List.length_append];omega)
     clear x0 x1 x2 x3 x4 x5 x6 W5 W56 c5 hlk
     obtain⟨x0,x1,x2,x3,x4,x5,x6⟩:=zaf c6
     obtain⟨y0,y1,y2,y3,y4,y5,y6⟩:=n1'.out.below (W6.base aH.out aS.out) hkb))
 go_end0
 exact⟨⟨_,rfl⟩,by simpa using bl7,W6.trans W67⟩
end Go.Proofs.YtnnhofmknilopaaGreatDoor
namespace Go.Proofs.YtnnhofmknilopaaGreatDoor
open Go Go.RowKit
set_option maxRecDepth 100000
set_option maxHeartbeats 16000000
def Ti (w:World):Prop:=Lib.TabIs Tryz.prog w "internal/strconv.uint64pow10" .u64 Lib.pow10Tab
theorem Ti.below {w w':World} (h:Ti w) (hb:Below w.heap.size w w'):Ti w':=by
 unfold Ti Lib.TabIs World.var? at h ⊢
 cases hg:Tryz.prog.globalNamed "internal/strconv.uint64pow10" with
 | none=>rw[hg] at h;cases h
 | some g=>
  rw[hg] at h
  simp only[Option.bind_some] at h ⊢
  have hlt:g<w.heap.size:=by
   rcases Nat.lt_or_ge g w.heap.size with h' | h'
   ·exact h'
   ·rw[Array.getElem?_eq_none h'] at h;cases h
  rw[hb.block g hlt]
  exact h
theorem zdo (F:Nat->List UInt8):∀{a c:Nat},a<=c->(sepT F a).length<=(sepT F c).length
 | a,0,h=>by
  have:a=0:=by omega
  subst this;exact Nat.le_refl _
 | a,c+1,h=>by
  rcases Nat.lt_or_ge a (c+1) with h1 | h1
  ·have h2:=zdo F (show a<=c by omega)
   have h3:(sepT F (c+1)).length=((if c=0 then [] else sepT F c++[44,32])++F c).length:=rfl
   by_cases h0:c=0
   ·subst h0
    have:(sepT F 0).length=0:=rfl
    omega
   ·rw[if_neg h0] at h3
    simp only[List.length_append,List.length_cons,List.length_nil] at h3
    omega
  ·have:a=c+1:=by omega
   subst this;exact Nat.le_refl _
theorem zbf {a b:ByteArray} (h:a.data=b.data):Value.string a=.string b:=by rw[show a=b from ByteArray.ext h]
theorem list_ok {w0:World} {k f:Int} {ng:Bool} {X Y:Int} {aq cq sq:Option Addr} {an ac cn cc sc n:Nat} {m:ByteArray} {ds:Nat->Nd} {T:Nat->List UInt8}
  (hN:nodeOk k f ng X Y m n=true) (hk:10<=k) (hTi:Ti w0) (bA:n=0\/∃kb ko,sq=some ⟨kb,ko,none⟩/\kb<w0.heap.size/\∀i,i<n->NdAt w0 kb (ko+i*7) (ds i))
  (hX:∀i,i<n->WrC w0 387 [(ds i).val] (T i)):
  WrC w0 461 [.agg #[.int .i64 k,.int .i64 f,.bool ng,.slice aq an ac,.slice cq cn cc,.string m,.slice sq n sc]] (headT k f++(sepT T n++[41])):=by
 intro w B b l hbw hB0 hB hbl ae
 obtain⟨hBb,hbs⟩:=hbl.le
 simp only[List.length_append,List.length_cons,List.length_nil] at ae
 have b0':=zaa w (.cells #[.int .i64 k,.int .i64 f,.bool ng,.slice aq an ac,.slice cq cn cc,.string m,.slice sq n sc] 27)
 have c0:Hid ((w.alloc (.cells #[.int .i64 k,.int .i64 f,.bool ng,.slice aq an ac,.slice cq cn cc,.string m,.slice sq n sc] 27)).heap[w.heap.size]?=some (.cells #[.int .i64 k,.int .i64 f,.bool ng,.slice aq an ac,.slice cq cn cc,.string m,.slice sq n sc] 27 (0,0))):=heap_alloc_new w _
 have W0:Hid (Wr B b w (w.alloc (.cells #[.int .i64 k,.int .i64 f,.bool ng,.slice aq an ac,.slice cq cn cc,.string m,.slice sq n sc] 27))):=Wr.of b0' hB
 have bl0:=zab (hbl.below b0')
 have bE:=hTi.below (W0.out.base hbw hB0)
 have bF:=zab bA
 have hX':=zab hX
 have aS:=zab hB0
 have aH:=zab hbw
 have hB':=zab hB
 have hNb:w.heap.size≠b:=by omega
 have hn3:n<=3:=by rcases zgf hN with h | h | h | h | h | h | h | h | h | h | h | h | h | h | h<;>omega
 clear bA hX hB0 hbw hB hbl b0' hTi
 obtain⟨H,hH⟩:∃H,Hid (headT k f=H):=⟨_,rfl⟩
 rw[hH.out] at ae ⊢
 go_enter Tryz.func461,Tryz.ntmps461
 go_upto_region 2 with fail
 generalize (w.alloc (.cells #[.int .i64 k,.int .i64 f,.bool ng,.slice aq an ac,.slice cq cn cc,.string m,.slice sq n sc] 27))=W at*
 obtain⟨x0,x1,x2,x3,x4,x5,x6⟩:=zaf c0.out
 go_upto_block 0 with fail
 go_cut [4] from 9 to 32 (fun v4 wx=>v4=.string ⟨H.toArray⟩/\Hid (Wr B b w wx)/\Hid (wx.heap[w.heap.size]?=some (.cells #[.int .i64 k,.int .i64 f,.bool ng,.slice aq an ac,.slice cq cn cc,.string m,.slice sq n sc] 27 (0,0)))/\Hid (Bld wx B b l))
 case first=>
  rcases zgf hN with⟨rfl,rfl⟩ | ⟨rfl,rfl⟩ | ⟨rfl,rfl⟩ | ⟨rfl,rfl⟩ | ⟨rfl,rfl⟩ | ⟨rfl,rfl⟩ | ⟨rfl,rfl⟩ | ⟨rfl,rfl⟩ | ⟨rfl,rfl⟩ | ⟨rfl,-⟩ | ⟨rfl,-⟩ | ⟨rfl,-⟩ | ⟨rfl,-⟩ | ⟨rfl,-⟩ | ⟨rfl,-⟩
  iterate 9 (exact absurd hk (by decide))
  ·have ha:=zd7 hN
   have hit:=zc5 f (by omega) (by omega) W bE
   have hil:=zbn (n:=f) (by show _<10000000000000000000;omega)
   have bT:H=if f=2 then [115,113,114,116,40] else [114,111,111,116,40]++Lib.itoa f++[44,32]:=by rw[<-hH.out];rfl
   generalize Lib.itoa f=I at hit hil bT
   by_cases h2:f=2
   ·subst h2
    rw[if_pos rfl] at bT
    subst bT
    go_wp2_with (go_at_call 47;refine hit.mono ?_;rintro e w2 ⟨rfl,hb2⟩
                 have W2:=W0.out.trans (Wr.of (B:=B) (b:=b) hb2 (Nat.le_trans hB'.out W0.out.size))
                 have c2:=zab ((hb2.block _ (Array.getElem?_eq_some_iff.1 c0.out).1).trans c0.out)
                 clear x0 x1 x2 x3 x4 x5 x6
                 obtain⟨x0,x1,x2,x3,x4,x5,x6⟩:=zaf c2.out)
    go_meet
    case rel=>exact⟨rfl,W2,c2,bl0.out.below hb2⟩
   ·rw[if_neg h2] at bT
    subst bT
    have h2':(f==2)=false:=by simpa using h2
    go_wp2_with (go_at_call 47;refine hit.mono ?_;rintro e w2 ⟨rfl,hb2⟩
                 have W2:=W0.out.trans (Wr.of (B:=B) (b:=b) hb2 (Nat.le_trans hB'.out W0.out.size))
                 have c2:=zab ((hb2.block _ (Array.getElem?_eq_some_iff.1 c0.out).1).trans c0.out)
                 clear x0 x1 x2 x3 x4 x5 x6
                 obtain⟨x0,x1,x2,x3,x4,x5,x6⟩:=zaf c2.out)
    go_meet
    case rel=>exact⟨zbf (by simp),W2,c2,bl0.out.below hb2⟩
  ·have ha:=zi7 hN
   have hfn:=fnP_ok (f:=f) (by unfold loA at ha;simp at ha;omega) (by unfold hiA at ha;simp at ha;omega) W
   have hfl:=zie (f:=f) (by unfold loA at ha;simp at ha;omega) (by unfold hiA at ha;simp at ha;omega)
   have dS:H=fnT f++[40]:=by rw[<-hH.out];rfl
   unfold tx at hfn
   generalize fnT f=F at hfn hfl dS
   subst dS
   go_wp2_with (go_at_call 505;refine hfn.mono ?_;rintro e w2 ⟨rfl,hb2⟩
                have W2:=W0.out.trans (Wr.of (B:=B) (b:=b) hb2 (Nat.le_trans hB'.out W0.out.size))
                have c2:=zab ((hb2.block _ (Array.getElem?_eq_some_iff.1 c0.out).1).trans c0.out))
   go_meet
   case rel=>exact⟨zbf (by simp),W2,c2,bl0.out.below hb2⟩
  ·obtain rfl:H=[97,98,115,40]:=by rw[<-hH.out];rfl
   go_wp2_with fail
   go_meet
   case rel=>exact⟨rfl,W0,c0,bl0⟩
  ·obtain rfl:H=[109,105,110,40]:=by rw[<-hH.out];rfl
   go_wp2_with fail
   go_meet
   case rel=>exact⟨rfl,W0,c0,bl0⟩
  ·obtain rfl:H=[109,97,120,40]:=by rw[<-hH.out];rfl
   go_wp2_with fail
   go_meet
   case rel=>exact⟨rfl,W0,c0,bl0⟩
  ·obtain rfl:H=[105,102,40]:=by rw[<-hH.out];rfl
   go_wp2_with fail
   go_meet
   case rel=>exact⟨rfl,W0,c0,bl0⟩
 case rest=>
  obtain⟨rfl,W1,c1,bl1⟩:=hcut
  clear x0 x1 x2 x3 x4 x5 x6 c0 bl0 W0 bE hH
  have hS:=wstr (s:=H) bl1.out (by omega) (Nat.le_trans hB'.out W1.out.size)
  go_wp2_with (go_at_call 28;refine hS.mono ?_;rintro e w3 ⟨⟨v3,rfl⟩,bl3,W13⟩
               have W3:=zab (W1.out.trans W13)
               have c3:=zab (W13.blk c1.out hNb (by decide))
               obtain⟨x0,x1,x2,x3,x4,x5,x6⟩:=zaf c3.out
               clear hS W13 W1 c1 bl1)
  go_loopw [39] (fun i wr=>∃c:Nat,c<=n/\i=.int .i64 c/\Hid (Wr B b w wr)/\Hid (Bld wr B b (l++(H++sepT T c)))) (fun i _=>n - (intOf i).toNat)
  case atStart=>exact⟨0,Nat.zero_le _,rfl,W3,by simpa [sepT] using zab bl3⟩
  case round=>
   clear x0 x1 x2 x3 x4 x5 x6 c3 bl3 W3
   obtain⟨c,hc,rfl,W4,bl4⟩:=hrel
   by_cases hlt:c<n
   ·have bR:(c:Int)<(n:Int):=by omega
    obtain⟨kb,ko,hsq,hkb,hnd⟩:=bF.out.resolve_left (by omega)
    subst hsq
    have hXc:=zab (hX'.out c hlt)
    have bK:=zdo T (show c+1<=n by omega)
    have aa:sepT T (c+1)=(if c=0 then [] else sepT T c++[44,32])++T c:=rfl
    obtain⟨x0,x1,x2,x3,x4,x5,x6⟩:=(hnd c hlt).below (W4.out.base aH.out aS.out) hkb
    clear hnd
    generalize ds c=dk at*
    obtain⟨k2,f2,g2,aq2,an2,ac2,cq2,cn2,cc2,m2,sq2,sn2,sc2⟩:=dk
    unfold Nd.val at hXc
    simp only at hXc x0 x1 x2 x3 x4 x5 x6
    have W5:=W4.out.trans (Wr.of (B:=B) (b:=b) (zaa wr (.cells #[.int .i64 k2,.int .i64 f2,.bool g2,.slice aq2 an2 ac2,.slice cq2 cn2 cc2,.string m2,.slice sq2 sn2 sc2] 27)) (Nat.le_trans hB'.out W4.out.size))
    have c5:Hid ((wr.alloc (.cells #[.int .i64 k2,.int .i64 f2,.bool g2,.slice aq2 an2 ac2,.slice cq2 cn2 cc2,.string m2,.slice sq2 sn2 sc2] 27)).heap[wr.heap.size]?=some (.cells #[.int .i64 k2,.int .i64 f2,.bool g2,.slice aq2 an2 ac2,.slice cq2 cn2 cc2,.string m2,.slice sq2 sn2 sc2] 27 (0,0))):=heap_alloc_new wr _
    have bl5:=zab (bl4.out.below (zaa wr (.cells #[.int .i64 k2,.int .i64 f2,.bool g2,.slice aq2 an2 ac2,.slice cq2 cn2 cc2,.string m2,.slice sq2 sn2 sc2] 27)))
    have hN2:wr.heap.size≠b:=by have:=W4.out.size;omega
    by_cases h0:c=0
    ·subst h0
     simp only[Nat.zero_mul,Nat.add_zero] at x0 x1 x2 x3 x4 x5 x6
     rw[if_pos rfl] at aa
     simp only[sepT,List.append_nil] at bl5
     rw[aa] at bK
     simp only[List.length_append,List.length_nil] at bK
     have hw:=hXc.out (wr.alloc (.cells #[.int .i64 k2,.int .i64 f2,.bool g2,.slice aq2 an2 ac2,.slice cq2 cn2 cc2,.string m2,.slice sq2 sn2 sc2] 27)) B b _ (W5.base aH.out aS.out) aS.out (Nat.le_trans hB'.out W5.size) bl5.out (by simp only[List.length_append];omega)
     go_wp2_with (go_at_call 387;refine hw.mono ?_;rintro e w6 ⟨⟨v6,rfl⟩,bl6,W56⟩)
     go_roundw
     case rel=>exact⟨1,by omega,by go_num,W5.trans W56,by rw[aa];simpa using zab bl6⟩
     case measure=>simp[intOf];omega
    ·have h0':(c:Int) > 0:=by omega
     rw[if_neg h0] at aa
     rw[aa] at bK
     simp only[List.length_append,List.length_cons,List.length_nil] at bK
     have hs:=wstr (s:=[44,32]) bl5.out (by simp only[List.length_append,List.length_cons,List.length_nil];omega) (Nat.le_trans hB'.out W5.size)
     have W5':=zab W5
     clear W5
     go_wp2_with (first
      | (go_at_call 28;refine hs.mono ?_;rintro e w6 ⟨⟨v6,rfl⟩,bl6,W56⟩
         have W6:=zab (W5'.out.trans W56)
         obtain⟨y0,y1,y2,y3,y4,y5,y6⟩:=zaf (W56.blk c5.out hN2 (by decide))
         have hw:=hXc.out w6 B b _ (W6.out.base aH.out aS.out) aS.out (Nat.le_trans hB'.out W6.out.size) bl6 (by simp only[List.length_append,List.length_cons,List.length_nil];omega)
         clear hs W56 bl6)
      | (go_at_call 387;refine hw.mono ?_;rintro e w7 ⟨⟨v7,rfl⟩,bl7,W67⟩))
     go_roundw
     case rel=>exact⟨c+1,by omega,by go_num,W6.out.trans W67,by rw[aa];simpa using zab bl7⟩
     case measure=>simp[intOf];omega
   ·obtain rfl:c=n:=by omega
    have hs:=wstr (s:=[41]) bl4.out (by simp only[List.length_append,List.length_cons,List.length_nil];omega) (Nat.le_trans hB'.out W4.out.size)
    go_wp2_with (go_at_call 28;refine hs.mono ?_;rintro e w6 ⟨⟨v6,rfl⟩,bl6,W56⟩)
    go_end0
    exact⟨⟨_,rfl⟩,by simpa using bl6,W4.out.trans W56⟩
end Go.Proofs.YtnnhofmknilopaaGreatDoor
