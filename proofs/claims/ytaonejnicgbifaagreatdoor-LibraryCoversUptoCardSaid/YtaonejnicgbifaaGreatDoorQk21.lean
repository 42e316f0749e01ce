import Derived.Defers
import Derived.Recover
import Derived.WalkLawsBesides
import Derived.Test.YtaonejnicgbifaaGreatDoorQk20
namespace Go.Proofs.YtaonejnicgbifaaGreatDoor
open Go Go.RowKit
set_option maxRecDepth 100000
set_option maxHeartbeats 16000000
def Ex.nms:Ex->List ByteArray
 | .non=>[]
 | .mk k _ _ _ _ m c ar=>if k=2 then [m] else(List.range c).flatMap fun i=>(ar i).nms
theorem Ex.nms_mk (k f:Int) (ng:Bool) (nu de:List Int) (m:ByteArray) (c:Nat) (ar:Nat->Ex):(Ex.mk k f ng nu de m c ar).nms=if k=2 then [m] else(List.range c).flatMap fun i=>(ar i).nms:=by rw[Ex.nms]
theorem zg3 {f:Int} {ng:Bool} {X Y:Int} {m:ByteArray} {n:Nat} (h:nodeOk 2 f ng X Y m n=true):n=0:=by
 unfold nodeOk at h
 simp only[Bool.and_eq_true,decide_eq_true_eq] at h
 have:=h.1.1
 rw[show kidsI 2=0 from by decide] at this
 omega
theorem cnt_nms:∀(x:Ex) (d n a:Nat),x.cnt d n=some a->∀s,s∈x.nms↔(2,s)∈x.nds:=by
 intro x
 induction x with
 | non=>intro d n a h;cases h
 | mk k f ng nu de m c ar ih=>
  intro d n a h s
  unfold Ex.cnt at h
  split at h
  ·rename_i hc
   obtain⟨_,h2⟩:=zfl (L:=fun i=>(ar i).nds) (G:=fun i=>∀s,s∈(ar i).nms↔(2,s)∈(ar i).nds) (fun i a a' h=>⟨(zhr (ar i) _ _ _ h).1,ih i _ _ _ h⟩) h
   rw[Ex.nms_mk,Ex.nds_mk,List.mem_cons]
   by_cases hk:k=2
   ·subst hk
    have h0:=zg3 hc.2.2
    subst h0
    simp
   ·rw[if_neg hk,List.mem_flatMap,List.mem_flatMap]
    constructor
    ·rintro⟨i,hi,hs⟩
     exact .inr ⟨i,hi,(h2 i (List.mem_range.1 hi) s).1 hs⟩
    ·rintro(h | ⟨i,hi,hs⟩)
     ·simp only[Prod.mk.injEq] at h
      exact absurd h.1.symm hk
     ·exact⟨i,hi,(h2 i (List.mem_range.1 hi) s).2 hs⟩
  ·cases h
def NmL (w:World) (q:Option Addr) (n c:Nat) (M L:List ByteArray) (k:Nat):Prop:=∃L',StrL w q n c L'/\L'.length<=L.length+k/\∀t,t∈L'↔t∈M\/t∈L
theorem NmL.below {w w':World} (hb:Below w.heap.size w w') {q:Option Addr} {n c k:Nat} {M L:List ByteArray} (h:NmL w q n c M L k):NmL w' q n c M L k:=by
 obtain⟨L',h1,h2⟩:=h
 exact⟨L',h1.below hb,h2⟩
theorem names_ok (x:Ex):∀(d:Nd) (w:World) (q:Option Addr) (n c:Nat) (L:List ByteArray),ExOk w x d->StrL w q n c L->L.length+x.nds.length<=1048576->
  Calls Tryz.prog 63 #[d.val,.slice q n c] w fun e w'=>∃q' n' c',e=.returned (.slice q' n' c')/\NmL w' q' n' c' x.nms L x.nds.length/\Below w.heap.size w w':=by
 induction x with
 | non=>intro d w q n c L h;exact h.elim
 | mk k f ng nu de m sn ar ih=>
  intro d w q n c L hx hL hN
  obtain⟨k',f',ng',aq,an,ac,cq,cn',cc,m',sq,sn',sc⟩:=d
  have aj:(Ex.mk k f ng nu de m sn ar).nds.length=1+((List.range sn).flatMap fun i=>(ar i).nds).length:=by rw[Ex.nds_mk,List.length_cons];omega
  unfold ExOk at hx
  obtain⟨⟨rfl,rfl,rfl,rfl,rfl⟩,-,-,-,-,hn,hk⟩:=hx
  simp only at hk hn
  rw[Ex.nms_mk,aj]
  rw[aj] at hN
  simp only[Nd.val]
  have hb0:Hid (Below w.heap.size w (w.alloc (.cells (mA k' f' ng' aq an ac cq cn' cc m' sq sn' sc) 30))):=zaa w _
  have hL':Hid (StrL w q n c L):=hL
  by_cases h2:k'=2
  ·subst h2
   rw[if_pos rfl]
   have hp:=put_ok m' (hL.below hb0.out) (by have:=hL.1;omega)
   have hp:Calls Tryz.prog 94 #[.slice q n c,.string m'] (w.alloc (.cells #[.int .i64 2,.int .i64 f',.bool ng',.slice aq an ac,.slice cq cn' cc,.string m',.slice sq sn' sc] 30)) fun e w'=>∃q' n' c',e=.returned (.slice q' n' c')/\NmL w' q' n' c' [m'] L (1+((List.range sn').flatMap fun i=>(ar i).nds).length)/\Below (w.alloc (.cells #[.int .i64 2,.int .i64 f',.bool ng',.slice aq an ac,.slice cq cn' cc,.string m',.slice sq sn' sc] 30)).heap.size (w.alloc (.cells #[.int .i64 2,.int .i64 f',.bool ng',.slice aq an ac,.slice cq cn' cc,.string m',.slice sq sn' sc] 30)) w':=
    hp.mono fun e w' h=>by
     obtain⟨q',n',c',rfl,⟨L',h1,h2,h3⟩,h4⟩:=h
     exact⟨q',n',c',rfl,⟨L',h1,by omega,fun t=>by rw[h3 t];simp⟩,h4⟩
   clear hL ih hk
   go_enter Tryz.func63,Tryz.ntmps63
   go_wp2_with (go_at_call 94;with_reducible refine hp.mono ?_;rintro e w3 ⟨q',n',c',rfl,hN3,hb3⟩)
   go_ret
   exact⟨q',n',c',rfl,hN3,hb0.out.trans (hb3.mono hb0.out.size)⟩
  ·rw[if_neg h2]
   have h2':(k'==2)=false:=by simp[h2]
   clear h2 hL
   have hk':=zac hk
   clear hk
   go_enter Tryz.func63,Tryz.ntmps63
   go_wp2_with fail
   go_loopw [1,5] (fun l i wr=>∃(j:Nat) (q':Option Addr) (n' c':Nat),j<=sn'/\i=.int .i64 j/\l=.slice q' n' c'/\Hid (NmL wr q' n' c' ((List.range j).flatMap fun i=>(ar i).nms) L ((List.range j).flatMap fun i=>(ar i).nds).length)/\Hid (Below w.heap.size w wr)/\wr.cell? ⟨w.heap.size,6,none⟩=some (.slice sq sn' sc)/\w.heap.size<wr.heap.size) (fun _ i _=>sn' - (intOf i).toNat)
   case atStart=>exact⟨0,q,n,c,Nat.zero_le _,rfl,rfl,⟨L,hL'.out.below hb0.out,by simp,fun t=>by simp⟩,hb0,by simp,by simp⟩
   case round=>
    obtain⟨j,q',n',c',hj,rfl,rfl,hM,hbw,x6',hlw⟩:=hrel
    by_cases hlt:j<sn'
    ·have aA:(j:Int)<(sn':Int):=by omega
     obtain⟨b,o,rfl,hbl,ds,hds⟩:=hk'.out.resolve_left (by omega)
     obtain⟨x0,x1,x2,x3,x4,x5,x6⟩:=(hds j hlt).1.below hbw.out hbl
     have hll:=zik (fun i=>(ar i).nds) hlt
     obtain⟨L',g1,g2,g3⟩:=hM.out
     have ihj:=ih j (ds j) wr q' n' c' L' ((hds j hlt).2.below hbw.out) g1 (by omega)
     have ihj:Calls Tryz.prog 63 #[(ds j).val,.slice q' n' c'] wr fun e w'=>∃q2 n2 c2,e=.returned (.slice q2 n2 c2)/\NmL w' q2 n2 c2 ((List.range (j+1)).flatMap fun i=>(ar i).nms) L ((List.range (j+1)).flatMap fun i=>(ar i).nds).length/\Below wr.heap.size wr w':=
      ihj.mono fun e w' h=>by
       obtain⟨q2,n2,c2,rfl,⟨L2,e1,e2,e3⟩,e4⟩:=h
       refine⟨q2,n2,c2,rfl,⟨L2,e1,?_,fun t=>?_⟩,e4⟩
       ·simp only[List.range_succ,List.flatMap_append,List.length_append,List.flatMap_cons,List.flatMap_nil,List.append_nil]
        omega
       ·rw[e3 t,g3 t]
        simp only[List.range_succ,List.flatMap_append,List.flatMap_cons,List.flatMap_nil,List.append_nil,List.mem_append]
        constructor
        ·rintro(h | h | h)
         ·exact .inl (.inr h)
         ·exact .inl (.inl h)
         ·exact .inr h
        ·rintro((h | h) | h)
         ·exact .inr (.inl h)
         ·exact .inl h
         ·exact .inr (.inr h)
     simp only[Nd.val] at ihj
     clear g1 g2 g3 hM hll
     go_wp2_with (go_at_call 63;with_reducible refine ihj.mono ?_;rintro e w3 ⟨q2,n2,c2,rfl,hN3,hb3⟩)
     go_roundw
     case rel=>exact⟨j+1,q2,n2,c2,by omega,by go_num,rfl,hN3,hbw.out.trans (hb3.mono hbw.out.size),(hb3.cell (p:=⟨w.heap.size,6,none⟩) hlw).trans x6',Nat.lt_of_lt_of_le hlw hb3.size⟩
     case measure=>simp[intOf];omega
    ·obtain rfl:j=sn':=by omega
     go_wp2_with fail
     go_ret
     obtain⟨L',g1,g2,g3⟩:=hM.out
     exact⟨q',n',c',rfl,⟨L',g1,by omega,g3⟩,hbw.out⟩
theorem zaw {w:World} {g:Nat} {cs:List Value} {t:TypeId} {fr:Nat × Nat} (h:w.heap[g]?=some (.cells cs.toArray t fr)) {j:Nat} {u:Value}:
  (w.setCell ⟨g,j,none⟩ u).heap[g]?=some (.cells (cs.set j u).toArray t fr):=by
 simp[World.setCell,Array.getElem?_modify,h]
theorem zkc (p q:Addr) (w:World):
  CallsD Tryz.prog 85 #[.pointer (some p),.pointer (some q)] .returning w fun e u' w'=>e=.returned (.tuple #[])/\u'=.returning/\w'=w:=by
 refine callsD_of_wpS Tryz.func85 rfl fun c₀ cs hu=>?_
 apply wpS_seq
 apply wpS_region
 simp[wpOpsS,go_sem,recoverD,hu,Tryz.ntmps85,Exit.thenS]
 refine wpS_of_wp ?_
 have hn:∀w:World,(binOp BinOp.eql 20 .nilIface .nilIface).run Tryz.prog w=.ok (.bool true) w:=fun _=>by kernel_rfl
 go_wp2_with fail
 cases c₀
 simp_all [bodyPostS,results,Tryz.results85]
theorem zia (B E:Nat) (y:Int) (older:List PanicEntry) (w:World) (b0:Bool) (e0:Int) (hBE:B≠E) (hB:w.heap[B]?=some (.cells #[.bool b0] 4 (0,0))) (hE:w.heap[E]?=some (.cells #[.int .i64 e0] 35 (0,0))):
  CallsD Tryz.prog 85 #[.pointer (some ⟨B,0,none⟩),.pointer (some ⟨E,0,none⟩)] (.panicking ({ v:=.iface 141 (.agg #[.int .i64 y]),recovered:=false }::older)) w fun e u' w'=>
   e=.returned (.tuple #[])/\u'=.panicking ({ v:=.iface 141 (.agg #[.int .i64 y]),recovered:=true }::older)/\w'.cell? ⟨B,0,none⟩=some (.bool false)/\w'.cell? ⟨E,0,none⟩=some (.int .i64 y)/\∀N,N<=B->N<=E->Below N w w':=by
 refine callsD_of_wpS Tryz.func85 rfl fun c₀ cs hu=>?_
 apply wpS_seq
 apply wpS_region
 simp[wpOpsS,go_sem,recoverD,hu,Tryz.ntmps85,Exit.thenS]
 refine wpS_of_wp ?_
 simp only[Array.replicate_succ,Array.replicate_zero,List.push_toArray,List.append_toArray,List.nil_append,List.cons_append,List.setIfInBounds_toArray,List.set_cons_zero,List.set_cons_succ]
 have hn:∀w:World,(binOp BinOp.eql 20 (.iface 141 (.agg #[.int .i64 y])) .nilIface).run Tryz.prog w=.ok (.bool false) w:=fun _=>by kernel_rfl
 have hta:∀w:World,(Instr.typeAssert (.iface 141 (.agg #[.int .i64 y])) 20 141 true).run Tryz.prog w=.ok (.tuple #[.agg #[.int .i64 y],.bool true]) w:=fun _=>by kernel_rfl
 have cB:w.cell? ⟨B,0,none⟩=some (.bool b0):=by simp[World.cell?,hB]
 have cE:w.cell? ⟨E,0,none⟩=some (.int .i64 e0):=by simp[World.cell?,hE]
 have fB:w.frozen? ⟨B,0,none⟩=false:=by simp[World.frozen?,hB]
 have fE:w.frozen? ⟨E,0,none⟩=false:=by simp[World.frozen?,hE]
 have lB:B<w.heap.size:=(Array.getElem?_eq_some_iff.1 hB).1
 have lE:E<w.heap.size:=(Array.getElem?_eq_some_iff.1 hE).1
 have nB:w.heap.size≠B:=by omega
 have nE:w.heap.size≠E:=by omega
 have nB':B≠w.heap.size:=by omega
 have nE':E≠w.heap.size:=by omega
 have gB:(w.alloc (.cells #[.int .i64 y] 141)).cell? ⟨B,0,none⟩=some (.bool b0):=((World.cell?_of_block (Below.heap_alloc _ _ _ lB))).trans cB
 have gE:(w.alloc (.cells #[.int .i64 y] 141)).cell? ⟨E,0,none⟩=some (.int .i64 e0):=((World.cell?_of_block (Below.heap_alloc _ _ _ lE))).trans cE
 have bB:(w.alloc (.cells #[.int .i64 y] 141)).heap[B]?=some (.cells #[.bool b0] 4 (0,0)):=(Below.heap_alloc _ _ _ lB).trans hB
 have bE:(w.alloc (.cells #[.int .i64 y] 141)).heap[E]?=some (.cells #[.int .i64 e0] 35 (0,0)):=(Below.heap_alloc _ _ _ lE).trans hE
 have f2:(w.alloc (.cells #[.int .i64 y] 141)).frozen? ⟨B,0,none⟩=false:=by simp[World.frozen?,bB]
 have f3:(w.alloc (.cells #[.int .i64 y] 141)).frozen? ⟨E,0,none⟩=false:=by simp[World.frozen?,bE]
 go_wp2_with fail
 go_region
 go_wp2_with fail
 refine⟨rfl,_,rfl,_,results_none rfl _ _ _,rfl,rfl,?_,?_,fun N h1 h2=>?_⟩
 ·have h1:=zaw (cs:=[.bool b0]) hB (j:=0) (u:=.bool false)
  have h2:=(Below.heap_setCell (w.setCell ⟨B,0,none⟩ (.bool false)) ⟨E,0,none⟩ (.int .i64 y) B (by exact hBE)).trans h1
  have h3:=(Below.heap_alloc ((w.setCell ⟨B,0,none⟩ (.bool false)).setCell ⟨E,0,none⟩ (.int .i64 y)) (.cells #[.int .i64 y] 141) B (by simp;exact lB)).trans h2
  have h4:((((w.setCell ⟨B,0,none⟩ (.bool false)).setCell ⟨E,0,none⟩ (.int .i64 y)).alloc (.cells #[.int .i64 y] 141)).drew).heap[B]?=_:=h3
  simp[World.cell?,h4]
 ·have h1:=(Below.heap_setCell w ⟨B,0,none⟩ (.bool false) E (by exact fun e=>hBE e.symm)).trans hE
  have h2:=zaw (cs:=[.int .i64 e0]) h1 (j:=0) (u:=.int .i64 y)
  have h3:=(Below.heap_alloc ((w.setCell ⟨B,0,none⟩ (.bool false)).setCell ⟨E,0,none⟩ (.int .i64 y)) (.cells #[.int .i64 y] 141) E (by simp;exact lE)).trans h2
  have h4:((((w.setCell ⟨B,0,none⟩ (.bool false)).setCell ⟨E,0,none⟩ (.int .i64 y)).alloc (.cells #[.int .i64 y] 141)).drew).heap[E]?=_:=h3
  simp[World.cell?,h4]
 ·exact(((((Below.refl N w).setCell (p:=⟨B,0,none⟩) h1 _).setCell (p:=⟨E,0,none⟩) h2 _).alloc (by simp;omega) _)).drew
theorem zkd {w:World} {p1:Addr} {b:Bool}
  (h:∀z,Below w.heap.size w z->Calls Tryz.prog 77 #[.pointer (some p1)] z fun e w'=>e=.returned (.bool b)/\Below z.heap.size z w'):
  Calls Tryz.prog 55 #[.func (.func 77) #[] #[.pointer (some p1)]] w fun e w'=>e=.returned (.tuple #[.bool b,.int .i64 0])/\Below w.heap.size w w':=by
 have hmf:∀(fn:Fn) (first cap:Array Value) (w:World),(Instr.makeFunc fn first cap).run Tryz.prog w=.ok (.func fn first cap) w:=fun _ _ _ _=>rfl
 have hb0:Below w.heap.size w ((w.alloc (.cells #[.bool false] 4)).alloc (.cells #[.int .i64 0] 35)):=zah w _ _
 have hz0:((w.alloc (.cells #[.bool false] 4)).alloc (.cells #[.int .i64 0] 35)).heap.size=w.heap.size+2:=by simp
 have hB:((w.alloc (.cells #[.bool false] 4)).alloc (.cells #[.int .i64 0] 35)).heap[w.heap.size]?=some (.cells #[.bool false] 4 (0,0)):=by
  have h1:=heap_alloc_new w (.cells #[.bool false] 4 (0,0))
  exact(Below.heap_alloc _ _ _ (by simp)).trans h1
 have hE:((w.alloc (.cells #[.bool false] 4)).alloc (.cells #[.int .i64 0] 35)).heap[w.heap.size+1]?=some (.cells #[.int .i64 0] 35 (0,0)):=by
  have h1:=heap_alloc_new (w.alloc (.cells #[.bool false] 4)) (.cells #[.int .i64 0] 35 (0,0))
  rwa [show (w.alloc (.cells #[.bool false] 4)).heap.size=w.heap.size+1 by simp] at h1
 have hc:=h _ hb0
 go_enter_defers Tryz.func55,Tryz.ntmps55
 go_wp2_with (go_at_call 77;refine hc.mono ?_;rintro e w5 ⟨rfl,hb5⟩
              have gB:w5.heap[w.heap.size]?=some (.cells #[.bool false] 4 (0,0)):=(hb5.block _ (by omega)).trans hB
              have gE:w5.heap[w.heap.size+1]?=some (.cells #[.int .i64 0] 35 (0,0)):=(hb5.block _ (by omega)).trans hE
              have cB:w5.cell? ⟨w.heap.size,0,none⟩=some (.bool false):=by simp[World.cell?,gB]
              have cE:w5.cell? ⟨w.heap.size+1,0,none⟩=some (.int .i64 0):=by simp[World.cell?,gE]
              have fB:w5.frozen? ⟨w.heap.size,0,none⟩=false:=by simp[World.frozen?,gB]
              have fE:w5.frozen? ⟨w.heap.size+1,0,none⟩=false:=by simp[World.frozen?,gE])
 have q1:((w5.setCell ⟨w.heap.size,0,none⟩ (.bool b)).setCell ⟨w.heap.size+1,0,none⟩ (.int .i64 0)).heap[w.heap.size]?=some (.cells #[.bool b] 4 (0,0)):=(Below.heap_setCell _ ⟨w.heap.size+1,0,none⟩ _ w.heap.size (by show w.heap.size≠w.heap.size+1;omega)).trans (zaw (cs:=[.bool false]) gB (j:=0) (u:=.bool b))
 have q2:((w5.setCell ⟨w.heap.size,0,none⟩ (.bool b)).setCell ⟨w.heap.size+1,0,none⟩ (.int .i64 0)).heap[w.heap.size+1]?=some (.cells #[.int .i64 0] 35 (0,0)):=zaw (cs:=[.int .i64 0]) ((Below.heap_setCell w5 ⟨w.heap.size,0,none⟩ (.bool b) (w.heap.size+1) (by show w.heap.size+1≠w.heap.size;omega)).trans gE) (j:=0) (u:=.int .i64 0)
 have hbb:Below w.heap.size w ((w5.setCell ⟨w.heap.size,0,none⟩ (.bool b)).setCell ⟨w.heap.size+1,0,none⟩ (.int .i64 0)):=((hb0.trans (hb5.mono hb0.size)).setCell (p:=⟨w.heap.size,0,none⟩) (Nat.le_refl _) _).setCell (p:=⟨w.heap.size+1,0,none⟩) (by exact Nat.le_succ _) _
 generalize ((w5.setCell ⟨w.heap.size,0,none⟩ (.bool b)).setCell ⟨w.heap.size+1,0,none⟩ (.int .i64 0))=W at*
 have c1:W.cell? ⟨w.heap.size,0,none⟩=some (.bool b):=by simp[World.cell?,q1]
 have c2:W.cell? ⟨w.heap.size+1,0,none⟩=some (.int .i64 0):=by simp[World.cell?,q2]
 refine leaves_cons (f:=85) (args:=#[.pointer (some ⟨w.heap.size,0,none⟩),.pointer (some ⟨w.heap.size+1,0,none⟩)]) (by simp) (by simp[go_sem]) ?_
 refine(zkc ⟨w.heap.size,0,none⟩ ⟨w.heap.size+1,0,none⟩ _).mono ?_
 rintro e u' w'' ⟨rfl,rfl,rfl⟩
 refine⟨.tuple #[.bool b,.int .i64 0],?_,rfl,hbb⟩
 simp[results,Tryz.results55,go_sem,c1,c2]
theorem ziy {w:World} {p1:Addr} {y:Int}
  (h:∀z,Below w.heap.size w z->Calls Tryz.prog 77 #[.pointer (some p1)] z fun e w'=>e=.panicked [{ v:=.iface 141 (.agg #[.int .i64 y]),recovered:=false }]/\Below z.heap.size z w'):
  Calls Tryz.prog 55 #[.func (.func 77) #[] #[.pointer (some p1)]] w fun e w'=>e=.returned (.tuple #[.bool false,.int .i64 y])/\Below w.heap.size w w':=by
 have hmf:∀(fn:Fn) (first cap:Array Value) (w:World),(Instr.makeFunc fn first cap).run Tryz.prog w=.ok (.func fn first cap) w:=fun _ _ _ _=>rfl
 have hb0:Below w.heap.size w ((w.alloc (.cells #[.bool false] 4)).alloc (.cells #[.int .i64 0] 35)):=zah w _ _
 have hz0:((w.alloc (.cells #[.bool false] 4)).alloc (.cells #[.int .i64 0] 35)).heap.size=w.heap.size+2:=by simp
 have hB:((w.alloc (.cells #[.bool false] 4)).alloc (.cells #[.int .i64 0] 35)).heap[w.heap.size]?=some (.cells #[.bool false] 4 (0,0)):=by
  have h1:=heap_alloc_new w (.cells #[.bool false] 4 (0,0))
  exact(Below.heap_alloc _ _ _ (by simp)).trans h1
 have hE:((w.alloc (.cells #[.bool false] 4)).alloc (.cells #[.int .i64 0] 35)).heap[w.heap.size+1]?=some (.cells #[.int .i64 0] 35 (0,0)):=by
  have h1:=heap_alloc_new (w.alloc (.cells #[.bool false] 4)) (.cells #[.int .i64 0] 35 (0,0))
  rwa [show (w.alloc (.cells #[.bool false] 4)).heap.size=w.heap.size+1 by simp] at h1
 have hc:=h _ hb0
 go_enter_defers Tryz.func55,Tryz.ntmps55
 go_wp2_with (go_at_call 77;refine hc.mono ?_;rintro e w5 ⟨rfl,hb5⟩)
 have gB:w5.heap[w.heap.size]?=some (.cells #[.bool false] 4 (0,0)):=(hb5.block _ (by omega)).trans hB
 have gE:w5.heap[w.heap.size+1]?=some (.cells #[.int .i64 0] 35 (0,0)):=(hb5.block _ (by omega)).trans hE
 have hb6:Below w.heap.size w w5:=hb0.trans (hb5.mono hb0.size)
 refine leaves_cons (f:=85) (args:=#[.pointer (some ⟨w.heap.size,0,none⟩),.pointer (some ⟨w.heap.size+1,0,none⟩)]) (by simp) (by simp[go_sem]) ?_
 refine(zia w.heap.size (w.heap.size+1) y [] w5 false 0 (by omega) gB gE).mono ?_
 rintro e u' w6 ⟨rfl,rfl,c1,c2,hN⟩
 have h7:=hN w.heap.size (Nat.le_refl _) (Nat.le_succ _)
 refine⟨.tuple #[.bool false,.int .i64 y],?_,rfl,hb6.trans h7⟩
 simp[results,Tryz.results55,go_sem,c1,c2]
theorem zke {w:World} {p1 p2:Addr} {b:Bool}
  (h:∀z,Below w.heap.size w z->Calls Tryz.prog 56 #[.pointer (some p1),.pointer (some p2)] z fun e w'=>e=.returned (.bool b)/\Below z.heap.size z w'):
  Calls Tryz.prog 55 #[.func (.func 56) #[] #[.pointer (some p1),.pointer (some p2)]] w fun e w'=>e=.returned (.tuple #[.bool b,.int .i64 0])/\Below w.heap.size w w':=by
 have hmf:∀(fn:Fn) (first cap:Array Value) (w:World),(Instr.makeFunc fn first cap).run Tryz.prog w=.ok (.func fn first cap) w:=fun _ _ _ _=>rfl
 have hb0:Below w.heap.size w ((w.alloc (.cells #[.bool false] 4)).alloc (.cells #[.int .i64 0] 35)):=zah w _ _
 have hz0:((w.alloc (.cells #[.bool false] 4)).alloc (.cells #[.int .i64 0] 35)).heap.size=w.heap.size+2:=by simp
 have hB:((w.alloc (.cells #[.bool false] 4)).alloc (.cells #[.int .i64 0] 35)).heap[w.heap.size]?=some (.cells #[.bool false] 4 (0,0)):=by
  have h1:=heap_alloc_new w (.cells #[.bool false] 4 (0,0))
  exact(Below.heap_alloc _ _ _ (by simp)).trans h1
 have hE:((w.alloc (.cells #[.bool false] 4)).alloc (.cells #[.int .i64 0] 35)).heap[w.heap.size+1]?=some (.cells #[.int .i64 0] 35 (0,0)):=by
  have h1:=heap_alloc_new (w.alloc (.cells #[.bool false] 4)) (.cells #[.int .i64 0] 35 (0,0))
  rwa [show (w.alloc (.cells #[.bool false] 4)).heap.size=w.heap.size+1 by simp] at h1
 have hc:=h _ hb0
 go_enter_defers Tryz.func55,Tryz.ntmps55
 go_wp2_with (go_at_call 56;refine hc.mono ?_;rintro e w5 ⟨rfl,hb5⟩
              have gB:w5.heap[w.heap.size]?=some (.cells #[.bool false] 4 (0,0)):=(hb5.block _ (by omega)).trans hB
              have gE:w5.heap[w.heap.size+1]?=some (.cells #[.int .i64 0] 35 (0,0)):=(hb5.block _ (by omega)).trans hE
              have cB:w5.cell? ⟨w.heap.size,0,none⟩=some (.bool false):=by simp[World.cell?,gB]
              have cE:w5.cell? ⟨w.heap.size+1,0,none⟩=some (.int .i64 0):=by simp[World.cell?,gE]
              have fB:w5.frozen? ⟨w.heap.size,0,none⟩=false:=by simp[World.frozen?,gB]
              have fE:w5.frozen? ⟨w.heap.size+1,0,none⟩=false:=by simp[World.frozen?,gE])
 have q1:((w5.setCell ⟨w.heap.size,0,none⟩ (.bool b)).setCell ⟨w.heap.size+1,0,none⟩ (.int .i64 0)).heap[w.heap.size]?=some (.cells #[.bool b] 4 (0,0)):=(Below.heap_setCell _ ⟨w.heap.size+1,0,none⟩ _ w.heap.size (by show w.heap.size≠w.heap.size+1;omega)).trans (zaw (cs:=[.bool false]) gB (j:=0) (u:=.bool b))
 have q2:((w5.setCell ⟨w.heap.size,0,none⟩ (.bool b)).setCell ⟨w.heap.size+1,0,none⟩ (.int .i64 0)).heap[w.heap.size+1]?=some (.cells #[.int .i64 0] 35 (0,0)):=zaw (cs:=[.int .i64 0]) ((Below.heap_setCell w5 ⟨w.heap.size,0,none⟩ (.bool b) (w.heap.size+1) (by show w.heap.size+1≠w.heap.size;omega)).trans gE) (j:=0) (u:=.int .i64 0)
 have hbb:Below w.heap.size w ((w5.setCell ⟨w.heap.size,0,none⟩ (.bool b)).setCell ⟨w.heap.size+1,0,none⟩ (.int .i64 0)):=((hb0.trans (hb5.mono hb0.size)).setCell (p:=⟨w.heap.size,0,none⟩) (Nat.le_refl _) _).setCell (p:=⟨w.heap.size+1,0,none⟩) (by exact Nat.le_succ _) _
 generalize ((w5.setCell ⟨w.heap.size,0,none⟩ (.bool b)).setCell ⟨w.heap.size+1,0,none⟩ (.int .i64 0))=W at*
 have c1:W.cell? ⟨w.heap.size,0,none⟩=some (.bool b):=by simp[World.cell?,q1]
 have c2:W.cell? ⟨w.heap.size+1,0,none⟩=some (.int .i64 0):=by simp[World.cell?,q2]
 refine leaves_cons (f:=85) (args:=#[.pointer (some ⟨w.heap.size,0,none⟩),.pointer (some ⟨w.heap.size+1,0,none⟩)]) (by simp) (by simp[go_sem]) ?_
 refine(zkc ⟨w.heap.size,0,none⟩ ⟨w.heap.size+1,0,none⟩ _).mono ?_
 rintro e u' w'' ⟨rfl,rfl,rfl⟩
 refine⟨.tuple #[.bool b,.int .i64 0],?_,rfl,hbb⟩
 simp[results,Tryz.results55,go_sem,c1,c2]
theorem zeu {w:World} {p1 p2:Addr} {y:Int}
  (h:∀z,Below w.heap.size w z->Calls Tryz.prog 56 #[.pointer (some p1),.pointer (some p2)] z fun e w'=>e=.panicked [{ v:=.iface 141 (.agg #[.int .i64 y]),recovered:=false }]/\Below z.heap.size z w'):
  Calls Tryz.prog 55 #[.func (.func 56) #[] #[.pointer (some p1),.pointer (some p2)]] w fun e w'=>e=.returned (.tuple #[.bool false,.int .i64 y])/\Below w.heap.size w w':=by
 have hmf:∀(fn:Fn) (first cap:Array Value) (w:World),(Instr.makeFunc fn first cap).run Tryz.prog w=.ok (.func fn first cap) w:=fun _ _ _ _=>rfl
 have hb0:Below w.heap.size w ((w.alloc (.cells #[.bool false] 4)).alloc (.cells #[.int .i64 0] 35)):=zah w _ _
 have hz0:((w.alloc (.cells #[.bool false] 4)).alloc (.cells #[.int .i64 0] 35)).heap.size=w.heap.size+2:=by simp
 have hB:((w.alloc (.cells #[.bool false] 4)).alloc (.cells #[.int .i64 0] 35)).heap[w.heap.size]?=some (.cells #[.bool false] 4 (0,0)):=by
  have h1:=heap_alloc_new w (.cells #[.bool false] 4 (0,0))
  exact(Below.heap_alloc _ _ _ (by simp)).trans h1
 have hE:((w.alloc (.cells #[.bool false] 4)).alloc (.cells #[.int .i64 0] 35)).heap[w.heap.size+1]?=some (.cells #[.int .i64 0] 35 (0,0)):=by
  have h1:=heap_alloc_new (w.alloc (.cells #[.bool false] 4)) (.cells #[.int .i64 0] 35 (0,0))
  rwa [show (w.alloc (.cells #[.bool false] 4)).heap.size=w.heap.size+1 by simp] at h1
 have hc:=h _ hb0
 go_enter_defers Tryz.func55,Tryz.ntmps55
 go_wp2_with (go_at_call 56;refine hc.mono ?_;rintro e w5 ⟨rfl,hb5⟩)
 have gB:w5.heap[w.heap.size]?=some (.cells #[.bool false] 4 (0,0)):=(hb5.block _ (by omega)).trans hB
 have gE:w5.heap[w.heap.size+1]?=some (.cells #[.int .i64 0] 35 (0,0)):=(hb5.block _ (by omega)).trans hE
 have hb6:Below w.heap.size w w5:=hb0.trans (hb5.mono hb0.size)
 refine leaves_cons (f:=85) (args:=#[.pointer (some ⟨w.heap.size,0,none⟩),.pointer (some ⟨w.heap.size+1,0,none⟩)]) (by simp) (by simp[go_sem]) ?_
 refine(zia w.heap.size (w.heap.size+1) y [] w5 false 0 (by omega) gB gE).mono ?_
 rintro e u' w6 ⟨rfl,rfl,c1,c2,hN⟩
 have h7:=hN w.heap.size (Nat.le_refl _) (Nat.le_succ _)
 refine⟨.tuple #[.bool false,.int .i64 y],?_,rfl,hb6.trans h7⟩
 simp[results,Tryz.results55,go_sem,c1,c2]
theorem zkf {w:World} {q1 q2:Option Addr} {n m c1 c2:Nat} (h:n=0\/m=0):
  Calls Tryz.prog 88 #[.slice q1 n c1,.slice q2 m c2] w fun e w'=>e=.returned (.slice none 0 0)/\w'=w:=by
 by_cases h1:n=0
 ·subst h1
  go_enter Tryz.func88,Tryz.ntmps88
  go_wp2_with fail
  go_ret
  exact⟨rfl,rfl⟩
 ·obtain rfl:m=0:=by omega
  have e1:((n:Int)==0)=false:=by simp;omega
  go_enter Tryz.func88,Tryz.ntmps88
  go_wp2_with fail
  go_ret
  exact⟨rfl,rfl⟩
theorem zkg (b o cap b2 o2 cap2 n:Nat) (xs ys:List Int) (w:World) (aj:xs.length+ys.length=n) (hn:n<=549755813888) (hx1:0<xs.length) (hy1:0<ys.length) (hdx:Dig xs) (hdy:Dig ys)
  (hcx:∀i,i<xs.length->w.cell? ⟨b,o+i,none⟩=some (.int .u32 (xs.getD i 0))) (hcy:∀i,i<ys.length->w.cell? ⟨b2,o2+i,none⟩=some (.int .u32 (ys.getD i 0))) (hb1:b<w.heap.size) (hb2:b2<w.heap.size):
  Calls Tryz.prog 88 #[.slice (some ⟨b,o,none⟩) xs.length cap,.slice (some ⟨b2,o2,none⟩) ys.length cap2] w fun e w'=>∃u os,Out xs ys n xs.length os/\e=.returned u/\Sl w' u (trim os)/\Below w.heap.size w w':=by
 obtain⟨i0,hi,hz0,hz1,hz2⟩:=info_parts (show(Tryz.prog.info? 150).map (fun i=>(i.zero,i.size,i.bytes))=some (some (.int .u32 0),1,4) by kernel_rfl)
 have ex:((xs.length:Int)==0)=false:=beq_eq_false_iff_ne.2 (by omega)
 have ey:((ys.length:Int)==0)=false:=beq_eq_false_iff_ne.2 (by omega)
 go_enter Tryz.func88,Tryz.ntmps88
 go_wp2_with (at_make;refine wpList_make_full _ rfl _ _ 25 rfl w.heap.size 150 i0 (.int .u32 0) 1 Tryz.underlying25 hi hz0 hz1 _ _ _ _ n rfl rfl (by omega) (by omega) (by rw[hz2];omega) (by unfold maxLen;omega) (Nat.le_refl _) ?_)
 intro w1 aB aO
 have aP:Blk w1 w.heap.size (List.replicate n 0):=zbq aB
 have bP:Below w.heap.size w w1:=(Below.refl _ _).grown aO (Nat.le_refl _) (fun _ h=>by cases h)
 clear aB aO hi hz0 hz1 hz2 ex ey
 go_wp2
 go_loopw [28] (fun i wr=>∃(k:Nat) (os:List Int),k<=xs.length/\i=.int .i64 k/\Out xs ys n k os/\Blk wr w.heap.size os/\Below w.heap.size w wr) (fun i _=>xs.length - (intOf i).toNat)
 case atStart=>exact⟨0,_,Nat.zero_le _,rfl,Out.zero xs ys n,aP,bP⟩
 case round=>
  obtain⟨k,os,hk,rfl,bL,hb,hbw⟩:=hrel
  by_cases hlt:k<xs.length
  ·have fM:wr.cell? ⟨b,o+k,none⟩=some (.int .u32 (xs.getD k 0)):=(hbw.cell (by exact hb1)).trans (hcx k hlt)
   have aA:(k:Int)<(xs.length:Int):=by omega
   have hx0:=hdx k
   have hst:=bL.start
   have ap:=fun os1 cc=>Out.row (os:=os1) (c:=cc) bL hlt aj
   generalize xs.getD k 0=x at fM hx0 hst ap
   have hcx':=zac hcx
   go_wp2_with fail
   have hd:decide (k<xs.length)=true:=by simp[hlt]
   try rw[hd]
   clear hd
   go_loopw [35,8] (fun i c wq=>∃(m:Nat) (os1:List Int) (cc:Int),m<=ys.length/\i=.int .i64 m/\c=.int .u64 cc/\In x ys os k m n os1 cc/\Blk wq w.heap.size os1/\Below w.heap.size w wq) (fun i _ _=>ys.length - (intOf i).toNat)
   case atStart=>exact⟨0,os,0,Nat.zero_le _,rfl,rfl,hst,hb,hbw⟩
   case round=>
    obtain⟨m,os1,cc,hm,rfl,rfl,hin,aV,cH⟩:=hrel
    by_cases hml:m<ys.length
    ·have hml':(m:Int)<(ys.length:Int):=by omega
     have gU:wr.cell? ⟨b2,o2+m,none⟩=some (.int .u32 (ys.getD m 0)):=(cH.cell (by exact hb2)).trans (hcy m hml)
     have gV:wr.cell? ⟨w.heap.size,k+m,none⟩=some (.int .u32 (os1.getD (k+m) 0)):=aV.cell (by rw[hin.len];omega)
     have hfr:=aV.frozen (k+m)
     have hym:=hdy m
     have hom:=hin.dig (k+m)
     have hcc:=hin.c0
     have ak:=hin.step hx0 hdy hml (by omega)
     have hp:=zb1 hx0 hym
     have hs:=zgf hx0 hym hom hcc
     generalize ys.getD m 0=y at gU hym ak hp hs
     generalize os1.getD (k+m) 0=d at gV hom ak hs
     have hkm:(k:Int)+m<n:=by omega
     go_wp2_with fail
     go_roundw
     case rel=>exact⟨m+1,_,_,by omega,by go_num,rfl,ak,aV.set _ _,cH.setCell (p:=⟨w.heap.size,k+m,none⟩) (Nat.le_refl _) _⟩
     case measure=>simp[intOf];omega
    ·have ja:m=ys.length:=by omega
     subst ja
     have gW:wr.cell? ⟨w.heap.size,k+ys.length,none⟩=some (.int .u32 (os1.getD (k+ys.length) 0)):=aV.cell (by rw[hin.len];omega)
     have jb:=aV.frozen (k+ys.length)
     have hcc:=hin.c0
     have hkm:(k:Int)+ys.length<n:=by omega
     go_wp2_with fail
     go_roundw
     case rel=>exact⟨k+1,_,by omega,by go_num,ap _ _ hin,aV.set _ _,cH.setCell (p:=⟨w.heap.size,k+ys.length,none⟩) (Nat.le_refl _) _⟩
     case measure=>simp[intOf];omega
  ·have hkx:k=xs.length:=by omega
   subst hkx
   have hsl:=Blk.sl32 hb.p bL.dig (by rw[bL.len];omega)
   rw[bL.len] at hsl
   obtain⟨u,hu,hof⟩:=zdl hsl
   have hu':Hid (Sl wr u (trim os)):=hu
   have hO:Hid (Out xs ys n xs.length os):=bL
   have bC:Hid (Below w.heap.size w wr):=hbw
   clear hu bL hbw hb hsl hcx hcy
   go_wp2_with (go_at_call 108;refine(hof _ (Below.refl _ _)).mono ?_;rintro e w9 ⟨rfl,rfl⟩)
   go_ret
   exact⟨u,os,hO.out,rfl,hu'.out,bC.out⟩
theorem zkh (w:World):Calls Tryz.prog 118 #[.int .i64 1] w fun e w'=>e=.panicked [{ v:=.iface 141 (.agg #[.int .i64 1]),recovered:=false }]/\w'=w:=by
 go_enter Tryz.func118,Tryz.ntmps118
 go_wp2_with fail
 exact⟨rfl,rfl,rfl⟩
theorem Sl.len_eq {w:World} {q:Option Addr} {n c:Nat} {xs:List Int} (h:Sl w (.slice q n c) xs):n=xs.length:=by
 obtain⟨_,_,q',cap,e,_⟩:=h
 cases e
 rfl
theorem zd9 {w:World} {g:Bool} {q1 p1:Option Addr} {l1 c1 m1 e1:Nat} {nu de:List Int} (h1:Sl w (.slice q1 l1 c1) nu) (h2:Sl w (.slice p1 m1 e1) de) (ln:nu.length<=274877906000) (ld:de.length<=274877906000) (hT:Tb w) (hL:large (val nu) (val de)=false):
  Calls Tryz.prog 86 #[.agg (qA g q1 l1 c1 p1 m1 e1)] w fun e w'=>∃f,e=.returned f/\FAt w' f (mkG g (val nu) (denI (val de))) (mkN (val nu) (denI (val de))) (mkD (val nu) (denI (val de)))/\Below w.heap.size w w':=by
 obtain rfl:=h1.len_eq
 obtain rfl:=h2.len_eq
 have hb0:=zah w (Obj.cells (qA g q1 nu.length c1 p1 de.length e1) 27) (Obj.cells zC 107)
 have aF:Hid (FNew ((w.alloc (Obj.cells (qA g q1 nu.length c1 p1 de.length e1) 27)).alloc (Obj.cells zC 107)) (w.heap.size+1)):=by
  have:=FNew.made (w.alloc (Obj.cells (qA g q1 nu.length c1 p1 de.length e1) 27))
  have e:(w.alloc (Obj.cells (qA g q1 nu.length c1 p1 de.length e1) 27)).heap.size=w.heap.size+1:=by simp
  rw[e] at this
  exact this
 have hz0:((w.alloc (Obj.cells (qA g q1 nu.length c1 p1 de.length e1) 27)).alloc (Obj.cells zC 107)).heap.size=w.heap.size+2:=by simp
 have hr:=zbu (g:=g) (h1.below hb0) (h2.below hb0) ln ld (hT.below hb0)
 rw[hL] at hr
 obtain⟨dd,hu,hd⟩:=f_row
 have aQ:Hid (Below w.heap.size w ((w.alloc (Obj.cells (qA g q1 nu.length c1 p1 de.length e1) 27)).alloc (Obj.cells zC 107))):=hb0
 have hLe:=zac hL
 clear h1 h2 hT hb0 hL
 go_enter Tryz.func86,Tryz.ntmps86
 go_wp2_with (go_at_call 110;refine hr.mono ?_;rintro e w3 ⟨f,g',n',d',rfl,hf,heq,hb3⟩
              obtain⟨rfl,rfl,rfl⟩:=heq rfl
              obtain⟨fa,fb,ns,ds,rfl,z1,z2,z3,z4,z5,z6,z7,z8⟩:=hf
              obtain⟨qn,kn,rfl⟩:=z1.form
              obtain⟨qm,km,rfl⟩:=z4.form
              have hzz:Hid (Sl w3 (.slice qn ns.length kn) ns/\Canon ns/\val ns=mkN (val nu) (denI (val de))/\Sl w3 (.slice qm ds.length km) ds/\Canon ds/\val ds=mkD (val nu) (denI (val de))/\ns.length<=274877906000/\ds.length<=274877906000):=⟨z1,z2,z3,z4,z5,z6,z7,z8⟩
              have hb3':=zac hb3
              have k3:=aF.out.below hb3
              have s3:w.heap.size+2<=w3.heap.size:=by have:=hb3.size;omega
              have hb4:=hb3.trans ((zaa w3 (.cells #[.bool (mkG g (val nu) (denI (val de))),.slice qn ns.length kn,.slice qm ds.length km] 107)).mono hb3.size)
              have k4:=aF.out.below hb4
              have c0:=k4.c0
              have c1':=k4.c1
              have c2:=k4.c2
              have fr:=k4.fr
              have jc:Hid _:=hb4
              have n3:w3.heap.size≠w.heap.size+1:=by omega
              clear z1 z2 z3 z4 z5 z6 z7 z8 hr k3 hb3 k4 hb4)
 have hz:=hzz.out
 have cI:=zaa w3 (.cells #[.bool (mkG g (val nu) (denI (val de))),.slice qn ns.length kn,.slice qm ds.length km] 107)
 obtain⟨hk,ap⟩:=zgr (g:=mkG g (val nu) (denI (val de))) (Nat.le_succ w.heap.size) aF.out aQ.out jc.out (hz.1.below cI) hz.2.1 hz.2.2.1 (hz.2.2.2.1.below cI) hz.2.2.2.2.1 hz.2.2.2.2.2.1 hz.2.2.2.2.2.2.1 hz.2.2.2.2.2.2.2
 refine bodyPost_ret (zae rfl _ _ (w.heap.size+1) _ dd rfl ap hu hd zdv) rfl ?_
 exact⟨_,rfl,hk.out.1,hk.out.2⟩
theorem zea {w:World} {g:Bool} {q1 p1:Option Addr} {l1 c1 m1 e1:Nat} {nu de:List Int} (h1:Sl w (.slice q1 l1 c1) nu) (h2:Sl w (.slice p1 m1 e1) de) (ln:nu.length<=274877906000) (ld:de.length<=274877906000) (hT:Tb w) (hL:large (val nu) (val de)=true):
  Calls Tryz.prog 86 #[.agg (qA g q1 l1 c1 p1 m1 e1)] w fun e w'=>e=.panicked [{ v:=.iface 141 (.agg #[.int .i64 1]),recovered:=false }]/\Below w.heap.size w w':=by
 obtain rfl:=h1.len_eq
 obtain rfl:=h2.len_eq
 have hb0:=zah w (Obj.cells (qA g q1 nu.length c1 p1 de.length e1) 27) (Obj.cells zC 107)
 have hr:=zbu (g:=g) (h1.below hb0) (h2.below hb0) ln ld (hT.below hb0)
 rw[hL] at hr
 have aQ:Hid (Below w.heap.size w ((w.alloc (Obj.cells (qA g q1 nu.length c1 p1 de.length e1) 27)).alloc (Obj.cells zC 107))):=hb0
 clear h1 h2 hT hb0 hL
 go_enter Tryz.func86,Tryz.ntmps86
 go_wp2_with (first
  | (go_at_call 110;refine hr.mono ?_;rintro e w3 ⟨f,g',n',d',rfl,hf,_,hb3⟩
     obtain⟨fa,fb,ns,ds,rfl,z1,z2,z3,z4,z5,z6,z7,z8⟩:=hf
     obtain⟨qn,kn,rfl⟩:=z1.form
     obtain⟨qm,km,rfl⟩:=z4.form
     have W4:Hid (Below w.heap.size w (w3.alloc (.cells (qA g' qn ns.length kn qm ds.length km) 107))):=(aQ.out.trans (hb3.mono aQ.out.size)).trans ((zaa w3 _).mono (Nat.le_trans aQ.out.size hb3.size))
     clear z1 z2 z3 z4 z5 z6 z7 z8 hr hb3)
  | (go_at_call 118;refine(zkh _).mono ?_;rintro e w5 ⟨rfl,rfl⟩))
 exact⟨rfl,rfl,W4.out⟩
end Go.Proofs.YtaonejnicgbifaaGreatDoor
