import Derived.Test.YthcfmhgihcjloaaGreatDoorProg
import Derived.WalkKit
import Derived.ProofKit
import Derived.OpenShut
import Derived.Deep.RegionHeld3
import Derived.Deep.MidRow
import Derived.BigFrame
import Derived.Deep.WholeRow
import Derived.Deep.QuietTactic
import Derived.BigQuiet
import Derived.Deep.RegionWith
namespace Go.Proofs.YthcfmhgihcjloaaGreatDoor
open Go Go.RowKit Tryz
abbrev kw:=@Nat.lt_of_lt_of_le
abbrev kE:=@Below.refl
abbrev kF:=@Nat.le_refl
abbrev kG:=@Array.getElem?_eq_some_iff
abbrev kH:=@Int.mul_assoc
abbrev kI:=@Int.mul_comm
abbrev kJ:=@Nat.le_trans
abbrev kL:=@Nat.zero_le
abbrev kM:=@List.eq_nil_of_length_eq_zero
abbrev kN:=@wp_region_held_drew
abbrev kO:=@Int.mul_le_mul_of_nonneg_right
abbrev kP:=@List.mem_range
abbrev kQ:=@decide_eq_false
abbrev kR:=@heap_alloc_last
abbrev kS:=@Nat.lt_or_ge
abbrev kU:=@if_pos
abbrev kV:=@wpAnyH_done
abbrev kW:=@Int.add_mul
abbrev kY:=@List.length_append
abbrev kZ:=@if_neg
abbrev k8:=@List.getElem?_eq_getElem
abbrev lf:=@World.cell?_setCell_far
abbrev lh:=@decide_eq_true
abbrev lj:=@List.all_eq_true
abbrev ll:=@List.getD_eq_getElem?_getD
abbrev lm:=@wpList_append_own
abbrev lp:=@Nat.lt_of_succ_lt
abbrev lr:=@Int.mul_le_mul_of_nonneg_left
abbrev lw:=@Calls.quiet_of_same
abbrev lC:=@List.getElem?_eq_some_iff
abbrev lD:=@List.length_take
abbrev lF:=@List.length_cons
abbrev lG:=@List.length_pos_iff
abbrev lH:=@Int.pow_succ
abbrev lI:=@List.take_of_length_le
abbrev lJ:=@bodyPost_ret
abbrev lK:=@heap_alloc_new
abbrev lL:=@Bool.and_eq_true
abbrev lM:=@List.mem_cons_of_mem
abbrev lN:=@List.map_append
abbrev lO:=@List.mem_cons
abbrev lP:=@List.getElem?_eq_none
abbrev lQ:=@List.take_length
abbrev lR:=@Nat.min_eq_left
abbrev lS:=@List.take_append_drop
abbrev lT:=@Int.mul_add
abbrev lU:=@Int.ediv_lt_of_lt_mul
abbrev lV:=@List.all_eq_false
abbrev lW:=@List.getElem?_append_left
abbrev lY:=@World.cell?_setCell_other
abbrev lZ:=@Int.eq_ofNat_of_zero_le
abbrev l9:=@Int.emod_add_mul_ediv
abbrev mc:=@Option.some.injEq
abbrev mf:=@setRow_other
abbrev mg:=@Int.emod_lt_of_pos
abbrev mh:=@all_oneCell_toArray
abbrev mj:=@List.flatMap_append
abbrev ml:=@World.cell?_of_block
abbrev mn:=@congrArg
abbrev mq:=@List.mem_cons_self
abbrev mr:=@Below.heap_setCell
abbrev mt:=@Int.ediv_nonneg
abbrev mw:=@Int.pow_add
abbrev my:=@wp_loop_once
abbrev mz:=@List.getElem?_append_right
abbrev mB:=@decide_eq_true_eq
abbrev mD:=@List.getElem?_take
abbrev mE:=@info_parts
abbrev mF:=@Nat.zero_add
abbrev mG:=@ints_oneCell
abbrev mH:=@World.ownsRow_nil
abbrev mI:=@List.getElem?_map
abbrev mJ:=@List.append_assoc
abbrev mK:=@List.getElem?_cons_zero
abbrev mL:=@List.nil_append
abbrev mM:=@List.length_map
abbrev mN:=@List.mem_append
abbrev mO:=@wpAnyH_take
abbrev mP:=@List.mem_append_left
abbrev mQ:=@List.flatMap_singleton
abbrev mR:=@Int.add_zero
abbrev mS:=@List.length_nil
abbrev mT:=@List.mem_append_right
abbrev mU:=@List.append_nil
abbrev mV:=@World.rangeAt_alloc
abbrev mW:=@Below.heap_alloc
abbrev mX:=@Nat.eq_zero_or_pos
abbrev mY:=@Int.ediv_eq_zero_of_lt
abbrev mZ:=@List.cons_append
abbrev m9:=@List.mem_map
abbrev nf:=@Result.andThen_ok
abbrev nh:=@setRow_heap
abbrev nj:=@Int.mul_nonneg
abbrev nk:=@Int.tdiv_eq_ediv_of_nonneg
abbrev nl:=@Int.add_mul_emod_self_left
abbrev np:=@List.mem_of_getElem?
abbrev nr:=@List.mem_erase_of_ne
abbrev nt:=@Int.emod_nonneg
abbrev nw:=@List.not_mem_nil
abbrev nz:=@List.getD_cons_zero
abbrev nC:=@List.getElem?_set
abbrev nD:=@List.size_toArray
abbrev nG:=@DataW.trod_struct
abbrev nH:=@Nat.lt_trans
abbrev nI:=@wpList_load_mid
abbrev nJ:=@List.cons.injEq
abbrev nK:=@List.getElem?_replicate
abbrev nL:=@IntKind.wrap_u64
abbrev nM:=@wpList_make_full
abbrev nN:=@List.length_drop
abbrev nO:=@Array.replicate_succ
abbrev nP:=@Array.replicate_zero
abbrev nQ:=@Sem.run_bind
abbrev nR:=@Int.tmod_eq_emod_of_nonneg
abbrev nS:=@Int.one_mul
abbrev nT:=@Value.slice.injEq
abbrev nU:=@List.flatMap_cons
abbrev nV:=@List.replicate_succ
abbrev nW:=@List.append_toArray
abbrev nX:=@decide_eq_decide
abbrev nY:=@Int.mul_zero
abbrev nZ:=@World.cell?_setCell_same
abbrev pf:=@Nat.lt_succ_iff_lt_or_eq
abbrev pg:=@Bool.true_and
abbrev ph:=@AllReadyH.cons
abbrev pj:=@World.cell?_alloc_lt
abbrev pl:=@List.getElem?_cons_succ
abbrev pm:=@Int.emod_eq_of_lt
abbrev pt:=@Int.mul_nonpos_of_nonneg_of_nonpos
abbrev pA:=@Int.toNat_natCast
abbrev pB:=@List.push_toArray
abbrev pC:=@DataW.trod_string
abbrev pD:=@Option.some.inj
abbrev pE:=@Array.getElem?_eq_none
abbrev pF:=@Option.map_eq_some_iff
abbrev pG:=@cell_of_row
abbrev pH:=@Int.pow_pos
abbrev pI:=@Int.ediv_le_self
abbrev pJ:=@DataW.trod_int
abbrev pK:=@Int.add_mul_ediv_left
abbrev pL:=@Nat.pow_le_pow_right
abbrev pM:=@yieldsIf_load_mid
abbrev pN:=@Bool.not_eq_true'
abbrev pO:=@Int.sub_mul
abbrev pP:=@Int.mul_pos
abbrev pQ:=@List.drop_of_length_le
abbrev pR:=@wpList_plain
abbrev pS:=@Sem.run_pure
abbrev pT:=@Nat.add_sub_cancel
abbrev pU:=@Int.mul_lt_mul_of_pos_right
abbrev pV:=@List.length_singleton
abbrev pW:=@Nat.add_assoc
abbrev pX:=@of_decide_eq_true
abbrev pY:=@Nat.le_of_succ_le
abbrev pZ:=@Int.mul_neg_of_neg_of_pos
abbrev qf:=@run_underlying
abbrev qg:=@Int.zero_mul
abbrev qh:=@Nat.le_of_lt
abbrev qj:=@callsIn_wide
abbrev qk:=@Int.le_of_lt
abbrev ql:=@Option.isSome_iff_exists
abbrev qp:=@Nat.add_sub_cancel_left
abbrev qq:=@AllReadyH.nil
abbrev qt:=@List.getElem?_drop
abbrev qw:=@List.range_succ
abbrev qx:=@List.mem_singleton
abbrev qy:=@or_false
abbrev qB:=@and_true
abbrev qC:=@Int.mul_one
abbrev qD:=@List.drop_append_of_le_length
abbrev qE:=@Nat.lt_trichotomy
abbrev qF:=@wpAnyH_ready
abbrev qG:=@Array.getElem?_modify
abbrev qH:=@Array.getElem?_toList
abbrev qI:=@List.drop_zero
abbrev qJ:=@Array.mem_of_getElem?
abbrev qK:=@Nat.two_pow_add_eq_or_of_lt
abbrev qL:=@BitVec.ofInt_natCast
abbrev qM:=@List.all_toArray
abbrev qN:=@Int.add_assoc
abbrev qO:=@Bool.false_or
abbrev qP:=@List.getD_cons_succ
abbrev qQ:=@ByteArray.toList_eq
abbrev qR:=@beq_eq_false_iff_ne
abbrev qT:=@World.grownBy_alloc
abbrev qU:=@DataW.trod_bool
abbrev qV:=@wpList_make_own
abbrev qW:=@Option.map_some
abbrev qX:=@Oper.semAt_some
abbrev qY:=@Int.zero_add
abbrev qZ:=@Int.mul_ediv_cancel_left
abbrev q7:=@Int.ediv_one
abbrev rb:=@BitVec.toNat_ofNat
abbrev rl:=@List.find?_eq_none
abbrev rm:=@beq_iff_eq
abbrev rn:=@List.length_eq_zero_iff
abbrev rp:=@List.ext_getElem?
abbrev rq:=@Bool.eq_false_iff
abbrev rt:=@Nat.le_succ
abbrev rG:=@frozen_of_row
abbrev rH:=@callsIn_of_wp
abbrev rI:=@Nat.lt_succ_self
abbrev rJ:=@Nat.mod_eq_of_lt
abbrev rK:=@List.flatMap_nil
abbrev rL:=@List.filter_cons
abbrev rM:=@Nat.le_of_ble_eq_true
abbrev rN:=@Array.getElem?_setIfInBounds_ne
abbrev rO:=@Bool.eq_iff_iff
abbrev rP:=@Addr.add_mid
abbrev rQ:=@run_loadVar_mid
abbrev rR:=@Int.not_le
abbrev rS:=@beq_toListBytes
abbrev rT:=@List.getElem?_of_mem
abbrev rU:=@List.find?_eq_some_iff_getElem
abbrev rV:=@List.take_succ_cons
abbrev rW:=@List.getElem?_range
abbrev rX:=@List.getElem_of_mem
abbrev rY:=@List.drop_drop
abbrev rZ:=@Int.mul_ediv_mul_of_pos_left
abbrev r9:=@Bool.false_and
abbrev sf:=@wpListIn_plain
abbrev sh:=@Bool.not_false
abbrev sj:=@decide_true
abbrev sp:=@Int.pow_mul
abbrev sr:=@List.set_cons_succ
abbrev sw:=@Array.getD_eq_getD_getElem?
abbrev sx:=@BitVec.toNat_ofInt
abbrev sy:=@World.rangeAt_setCells_same
abbrev sA:=@Int.eq_of_mul_eq_mul_right
abbrev sB:=@Int.lt_of_mul_lt_mul_right
abbrev sC:=@Int.ediv_pos_of_pos_of_dvd
abbrev sD:=@List.isEmpty_eq_false_iff
abbrev sE:=@Int.lt_of_mul_lt_mul_left
abbrev sF:=@List.mem_of_find?_eq_some
abbrev sG:=@List.findIdx?_eq_none_iff
abbrev sH:=@Int.le_trans
abbrev sI:=@Int.sub_zero
abbrev sJ:=@IntKind.wrap_i64
abbrev sK:=@IntKind.wrap_u32
abbrev sL:=@List.drop_length
abbrev sM:=@Int.add_comm
abbrev sN:=@WideMaps.keyOf_string_mk
abbrev sO:=@results_tmp2
abbrev sP:=@or_assoc
abbrev sQ:=@World.block_lt_of_cell?
abbrev sR:=@Int.mul_emod_mul_of_pos
abbrev sS:=@Int.mul_ediv_mul_of_pos
abbrev sU:=@Bool.or_eq_true
abbrev sV:=@BitVec.toNat_or
abbrev sW:=@List.length_eq_one_iff
abbrev sX:=@leaves_cons
abbrev sY:=@Int.mul_le_mul
abbrev sZ:=@List.mem_of_mem_erase
abbrev tf:=@List.getElem?_toArray
abbrev tg:=@Nat.mul_le_mul
abbrev th:=@Bool.and_false
abbrev tj:=@List.length_mergeSort
abbrev tl:=@Array.mem_toList_iff
abbrev tn:=@Addr.mk.injEq
abbrev tp:=@Prod.mk.injEq
abbrev tq:=@Nat.zero_mul
abbrev tt:=@wpOp_mono
abbrev tv:=@wp_store_mid
abbrev tz:=@Nat.add_zero
abbrev tA:=@Nat.gcd_comm
abbrev tB:=@Nat.sub_self
abbrev cN:=Calls prog
abbrev bF (w:World) (f:FuncId) (a:Array Value) (v:Value):Prop:=cN f a w λe w'=>e=.returned v/\Below w.1.size w w'
abbrev CA (w:World) (n:FuncId) (a:Array Value) (v:Value):Prop:=∀z,Below w.1.size w z->bF z n a v
theorem cV {w x y:World} (a:Below w.1.size w x) (b:Below x.1.size x y):Below w.1.size w y:=a.trans<|b.mono a.size
theorem fg {n:Nat} {w x:World} {b o:Nat} {p} {v} (h:Below n w x) (k:b<n) (z:w.cell? ⟨b,o,p⟩=v):x.cell? ⟨b,o,p⟩=v:=(h.cell k).trans z
theorem jR {f a w v} {P:World->Prop} {Q} (h:Calls prog f a w λe w'=>e=.returned v/\P w') (k:∀w',P w'->Q (.returned v) w'):Calls prog f a w Q:=h.mono λ_ _ h=>h.1 ▸ k _ h.2
theorem PU (w:World) (c:Array Value) (t:TypeId) {a0 b a2:Value} (e:c=#[a0,b,a2]:=by rfl):(w.alloc<|.cells c t).cell? ⟨w.1.size,0,none⟩=some a0/\(w.alloc<|.cells c t).cell? ⟨w.1.size,1,none⟩=some b/\(w.alloc<|.cells c t).cell? ⟨w.1.size,2,none⟩=some a2:=by subst e;simp
theorem PV {w w':World} {N P f g i:Nat} {a0 e a2:Option Value} (b:Below N w w') (d:P<N) (h:w.cell? ⟨P,f,none⟩=a0/\w.cell? ⟨P,g,none⟩=e/\w.cell? ⟨P,i,none⟩=a2):w'.cell? ⟨P,f,none⟩=a0/\w'.cell? ⟨P,g,none⟩=e/\w'.cell? ⟨P,i,none⟩=a2:=by obtain⟨h0,h1,h2⟩:=h;exact⟨fg b d h0,fg b d h1,fg b d h2⟩
theorem PW {w w':World} {N P j k l m o q:Nat} {a0 e a2 f g i:Option Value} (b:Below N w w') (d:P<N) (h:w.cell? ⟨P,j,none⟩=a0/\w.cell? ⟨P,k,none⟩=e/\w.cell? ⟨P,l,none⟩=a2/\w.cell? ⟨P,m,none⟩=f/\w.cell? ⟨P,o,none⟩=g/\w.cell? ⟨P,q,none⟩=i):w'.cell? ⟨P,j,none⟩=a0/\w'.cell? ⟨P,k,none⟩=e/\w'.cell? ⟨P,l,none⟩=a2/\w'.cell? ⟨P,m,none⟩=f/\w'.cell? ⟨P,o,none⟩=g/\w'.cell? ⟨P,q,none⟩=i:=by obtain⟨h0,h1,h2,h3,h4,h5⟩:=h;exact⟨fg b d h0,fg b d h1,fg b d h2,fg b d h3,fg b d h4,fg b d h5⟩
theorem CZ {w w':World} {N P k l m o q r s:Nat} {a0 e a2 f g i j:Option Value} (b:Below N w w') (d:P<N) (h:w.cell? ⟨P,k,none⟩=a0/\w.cell? ⟨P,l,none⟩=e/\w.cell? ⟨P,m,none⟩=a2/\w.cell? ⟨P,o,none⟩=f/\w.cell? ⟨P,q,none⟩=g/\w.cell? ⟨P,r,none⟩=i/\w.cell? ⟨P,s,none⟩=j):w'.cell? ⟨P,k,none⟩=a0/\w'.cell? ⟨P,l,none⟩=e/\w'.cell? ⟨P,m,none⟩=a2/\w'.cell? ⟨P,o,none⟩=f/\w'.cell? ⟨P,q,none⟩=g/\w'.cell? ⟨P,r,none⟩=i/\w'.cell? ⟨P,s,none⟩=j:=by obtain⟨h0,h1,h2,h3,h4,h5,h6⟩:=h;exact⟨fg b d h0,fg b d h1,fg b d h2,fg b d h3,fg b d h4,fg b d h5,fg b d h6⟩
theorem BI {w:World} {b o:Nat} {a0 d a2 e f g i j:Value} (h:w.rangeAt b o [a0,d,a2,e,f,g,i,j]):w.cell? ⟨b,o,none⟩=some a0/\w.cell? ⟨b,o+1,none⟩=some d/\w.cell? ⟨b,o+2,none⟩=some a2/\w.cell? ⟨b,o+3,none⟩=some e/\w.cell? ⟨b,o+4,none⟩=some f/\w.cell? ⟨b,o+5,none⟩=some g/\w.cell? ⟨b,o+6,none⟩=some i/\w.cell? ⟨b,o+7,none⟩=some j:=⟨h 0 _ rfl,h 1 _ rfl,h 2 _ rfl,h 3 _ rfl,h 4 _ rfl,h 5 _ rfl,h 6 _ rfl,h 7 _ rfl⟩
theorem PX (w:World) (c:Array Value) (t:TypeId) {a0 b a2 d f g h i:Value} (e:c=#[a0,b,a2,d,f,g,h,i]:=by rfl):(w.alloc<|.cells c t).cell? ⟨w.1.size,0,none⟩=some a0/\(w.alloc<|.cells c t).cell? ⟨w.1.size,1,none⟩=some b/\(w.alloc<|.cells c t).cell? ⟨w.1.size,2,none⟩=some a2/\(w.alloc<|.cells c t).cell? ⟨w.1.size,3,none⟩=some d/\(w.alloc<|.cells c t).cell? ⟨w.1.size,4,none⟩=some f/\(w.alloc<|.cells c t).cell? ⟨w.1.size,5,none⟩=some g/\(w.alloc<|.cells c t).cell? ⟨w.1.size,6,none⟩=some h/\(w.alloc<|.cells c t).cell? ⟨w.1.size,7,none⟩=some i:=by subst e;simp
theorem PY {w w':World} {N P l m o q r s t u:Nat} {a0 e a2 f g i j k:Option Value} (b:Below N w w') (d:P<N) (h:w.cell? ⟨P,l,none⟩=a0/\w.cell? ⟨P,m,none⟩=e/\w.cell? ⟨P,o,none⟩=a2/\w.cell? ⟨P,q,none⟩=f/\w.cell? ⟨P,r,none⟩=g/\w.cell? ⟨P,s,none⟩=i/\w.cell? ⟨P,t,none⟩=j/\w.cell? ⟨P,u,none⟩=k):w'.cell? ⟨P,l,none⟩=a0/\w'.cell? ⟨P,m,none⟩=e/\w'.cell? ⟨P,o,none⟩=a2/\w'.cell? ⟨P,q,none⟩=f/\w'.cell? ⟨P,r,none⟩=g/\w'.cell? ⟨P,s,none⟩=i/\w'.cell? ⟨P,t,none⟩=j/\w'.cell? ⟨P,u,none⟩=k:=by obtain⟨h0,h1,h2,h3,h4,h5,h6,h7⟩:=h;exact⟨fg b d h0,fg b d h1,fg b d h2,fg b d h3,fg b d h4,fg b d h5,fg b d h6,fg b d h7⟩
theorem PZ {w:World} {b o:Nat} {a0 d a2 e f g i j k:Value} (h:w.rangeAt b o [a0,d,a2,e,f,g,i,j,k]):w.cell? ⟨b,o,none⟩=some a0/\w.cell? ⟨b,o+1,none⟩=some d/\w.cell? ⟨b,o+2,none⟩=some a2/\w.cell? ⟨b,o+3,none⟩=some e/\w.cell? ⟨b,o+4,none⟩=some f/\w.cell? ⟨b,o+5,none⟩=some g/\w.cell? ⟨b,o+6,none⟩=some i/\w.cell? ⟨b,o+7,none⟩=some j/\w.cell? ⟨b,o+8,none⟩=some k:=⟨h 0 _ rfl,h 1 _ rfl,h 2 _ rfl,h 3 _ rfl,h 4 _ rfl,h 5 _ rfl,h 6 _ rfl,h 7 _ rfl,h 8 _ rfl⟩
theorem P1 (w:World) (c:Array Value) (t:TypeId) {a0 b a2 d f g h i j:Value} (e:c=#[a0,b,a2,d,f,g,h,i,j]:=by rfl):(w.alloc<|.cells c t).cell? ⟨w.1.size,0,none⟩=some a0/\(w.alloc<|.cells c t).cell? ⟨w.1.size,1,none⟩=some b/\(w.alloc<|.cells c t).cell? ⟨w.1.size,2,none⟩=some a2/\(w.alloc<|.cells c t).cell? ⟨w.1.size,3,none⟩=some d/\(w.alloc<|.cells c t).cell? ⟨w.1.size,4,none⟩=some f/\(w.alloc<|.cells c t).cell? ⟨w.1.size,5,none⟩=some g/\(w.alloc<|.cells c t).cell? ⟨w.1.size,6,none⟩=some h/\(w.alloc<|.cells c t).cell? ⟨w.1.size,7,none⟩=some i/\(w.alloc<|.cells c t).cell? ⟨w.1.size,8,none⟩=some j:=by subst e;simp
theorem LP {w w':World} {N P m o q r s t u x y:Nat} {a0 e a2 f g i j k l:Option Value} (b:Below N w w') (d:P<N) (h:w.cell? ⟨P,m,none⟩=a0/\w.cell? ⟨P,o,none⟩=e/\w.cell? ⟨P,q,none⟩=a2/\w.cell? ⟨P,r,none⟩=f/\w.cell? ⟨P,s,none⟩=g/\w.cell? ⟨P,t,none⟩=i/\w.cell? ⟨P,u,none⟩=j/\w.cell? ⟨P,x,none⟩=k/\w.cell? ⟨P,y,none⟩=l):w'.cell? ⟨P,m,none⟩=a0/\w'.cell? ⟨P,o,none⟩=e/\w'.cell? ⟨P,q,none⟩=a2/\w'.cell? ⟨P,r,none⟩=f/\w'.cell? ⟨P,s,none⟩=g/\w'.cell? ⟨P,t,none⟩=i/\w'.cell? ⟨P,u,none⟩=j/\w'.cell? ⟨P,x,none⟩=k/\w'.cell? ⟨P,y,none⟩=l:=by obtain⟨h0,h1,h2,h3,h4,h5,h6,h7,z⟩:=h;exact⟨fg b d h0,fg b d h1,fg b d h2,fg b d h3,fg b d h4,fg b d h5,fg b d h6,fg b d h7,fg b d z⟩
theorem Fb (w:World) (c:Array Value) (t:TypeId) {a0 b a2 d f g h i j k:Value} (e:c=#[a0,b,a2,d,f,g,h,i,j,k]:=by rfl):(w.alloc<|.cells c t).cell? ⟨w.1.size,0,none⟩=some a0/\(w.alloc<|.cells c t).cell? ⟨w.1.size,1,none⟩=some b/\(w.alloc<|.cells c t).cell? ⟨w.1.size,2,none⟩=some a2/\(w.alloc<|.cells c t).cell? ⟨w.1.size,3,none⟩=some d/\(w.alloc<|.cells c t).cell? ⟨w.1.size,4,none⟩=some f/\(w.alloc<|.cells c t).cell? ⟨w.1.size,5,none⟩=some g/\(w.alloc<|.cells c t).cell? ⟨w.1.size,6,none⟩=some h/\(w.alloc<|.cells c t).cell? ⟨w.1.size,7,none⟩=some i/\(w.alloc<|.cells c t).cell? ⟨w.1.size,8,none⟩=some j/\(w.alloc<|.cells c t).cell? ⟨w.1.size,9,none⟩=some k:=by subst e;simp
theorem il {w w':World} {N P o q r s t u x y z A:Nat} {a0 e a2 f g i j k l m:Option Value} (b:Below N w w') (d:P<N) (h:w.cell? ⟨P,o,none⟩=a0/\w.cell? ⟨P,q,none⟩=e/\w.cell? ⟨P,r,none⟩=a2/\w.cell? ⟨P,s,none⟩=f/\w.cell? ⟨P,t,none⟩=g/\w.cell? ⟨P,u,none⟩=i/\w.cell? ⟨P,x,none⟩=j/\w.cell? ⟨P,y,none⟩=k/\w.cell? ⟨P,z,none⟩=l/\w.cell? ⟨P,A,none⟩=m):w'.cell? ⟨P,o,none⟩=a0/\w'.cell? ⟨P,q,none⟩=e/\w'.cell? ⟨P,r,none⟩=a2/\w'.cell? ⟨P,s,none⟩=f/\w'.cell? ⟨P,t,none⟩=g/\w'.cell? ⟨P,u,none⟩=i/\w'.cell? ⟨P,x,none⟩=j/\w'.cell? ⟨P,y,none⟩=k/\w'.cell? ⟨P,z,none⟩=l/\w'.cell? ⟨P,A,none⟩=m:=by obtain⟨h0,h1,h2,h3,h4,h5,h6,h7,B,C⟩:=h;exact⟨fg b d h0,fg b d h1,fg b d h2,fg b d h3,fg b d h4,fg b d h5,fg b d h6,fg b d h7,fg b d B,fg b d C⟩
theorem Gw {α:Type} {l:List α} (h:l.length=2):∃a0 b,l=[a0,b]:=match l,h with|[_,_],_=>⟨_,_,rfl⟩
theorem LQ {α:Type} {l:List α} (h:l.length=3):∃a0 b a2,l=[a0,b,a2]:=match l,h with|[_,_,_],_=>⟨_,_,_,rfl⟩
theorem Gy {α:Type} {l:List α} (h:l.length=4):∃a0 b a2 d,l=[a0,b,a2,d]:=match l,h with|[_,_,_,_],_=>⟨_,_,_,_,rfl⟩
theorem P2 {α:Type} {l:List α} (h:l.length=5):∃a0 b a2 d e,l=[a0,b,a2,d,e]:=match l,h with|[_,_,_,_,_],_=>⟨_,_,_,_,_,rfl⟩
theorem P3 {α:Type} {l:List α} (h:l.length=7):∃a0 b a2 d e f g,l=[a0,b,a2,d,e,f,g]:=match l,h with|[_,_,_,_,_,_,_],_=>⟨_,_,_,_,_,_,_,rfl⟩
theorem Jc {α:Type} {l:List α} (h:l.length=8):∃a0 b a2 d e f g i,l=[a0,b,a2,d,e,f,g,i]:=match l,h with|[_,_,_,_,_,_,_,_],_=>⟨_,_,_,_,_,_,_,_,rfl⟩
theorem Jd {α:Type} {l:List α} (h:l.length=10):∃a0 b a2 d e f g i j k,l=[a0,b,a2,d,e,f,g,i,j,k]:=match l,h with|[_,_,_,_,_,_,_,_,_,_],_=>⟨_,_,_,_,_,_,_,_,_,_,rfl⟩
theorem Fc {α:Type} {l:List α} (h:l.length=13):∃a0 b a2 g i j k m o q d e f,l=[a0,b,a2,g,i,j,k,m,o,q,d,e,f]:=match l,h with|[_,_,_,_,_,_,_,_,_,_,_,_,_],_=>⟨_,_,_,_,_,_,_,_,_,_,_,_,_,rfl⟩
abbrev zA:Array Value:=#[.bool false,.slice none 0 0,.slice none 0 0,.bool false,.slice none 0 0,.slice none 0 0,.bool false,.bool false,.bool false]
abbrev zC:Array Value:=#[.bool false,.slice none 0 0,.slice none 0 0]
abbrev qA (g:Bool) (a:Option Addr) (b c:Nat) (d:Option Addr) (e f:Nat):Array Value:=#[.bool g,.slice a b c,.slice d e f]
abbrev iA (g1:Bool) (q1:Option Addr) (l1 c1:Nat) (p1:Option Addr) (m1 e1:Nat) (g2:Bool) (q2:Option Addr) (l2 c2:Nat) (p2:Option Addr) (m2 e2:Nat) (li hh:Bool):Array Value:=#[.bool g1,.slice q1 l1 c1,.slice p1 m1 e1,.bool g2,.slice q2 l2 c2,.slice p2 m2 e2,.bool li,.bool hh]
abbrev iB (g1:Bool) (q1:Option Addr) (l1 c1:Nat) (p1:Option Addr) (m1 e1:Nat) (g2:Bool) (q2:Option Addr) (l2 c2:Nat) (p2:Option Addr) (m2 e2:Nat) (li hh em:Bool):Array Value:=#[.bool g1,.slice q1 l1 c1,.slice p1 m1 e1,.bool g2,.slice q2 l2 c2,.slice p2 m2 e2,.bool li,.bool hh,.bool em]
abbrev jA (m:ByteArray) (g1:Bool) (q1:Option Addr) (l1 c1:Nat) (p1:Option Addr) (m1 e1:Nat) (g2:Bool) (q2:Option Addr) (l2 c2:Nat) (p2:Option Addr) (m2 e2:Nat) (li hh:Bool):Array Value:=#[.string m,.bool g1,.slice q1 l1 c1,.slice p1 m1 e1,.bool g2,.slice q2 l2 c2,.slice p2 m2 e2,.bool li,.bool hh]
abbrev mA (k f:Int) (g:Bool) (aq:Option Addr) (an ac:Nat) (cq:Option Addr) (cn cc:Nat) (m:ByteArray) (sq:Option Addr) (sn sc:Nat):Array Value:=#[.int .i64 k,.int .i64 f,.bool g,.slice aq an ac,.slice cq cn cc,.string m,.slice sq sn sc]
abbrev mC (k f:Int) (g:Bool) (aq:Option Addr) (an ac:Nat) (cq:Option Addr) (cn cc:Nat) (m:ByteArray) (sq:Option Addr) (sn sc:Nat) (s:Bool) (bq:Option Addr) (nb bc:Nat) (eq:Option Addr) (nc ec:Nat):Array Value:=#[.int .i64 k,.int .i64 f,.bool g,.slice aq an ac,.slice cq cn cc,.string m,.slice sq sn sc,.bool s,.slice bq nb bc,.slice eq nc ec]
theorem bC {p:Prop} (h:p):Hid p:=h
theorem pz:(∀(a:Act) (d:Tmp) (v:Value),a.put (some d) v={ a with tmps:=a.tmps.setIfInBounds d v })/\(∀(a:Act) (v:Value),a.put none v=a)/\
  (∀{α:Type} {xs:List α} {i:Nat} (h:i<xs.toArray.size),xs.toArray[i]=xs[i]'(by simpa using h))/\
  (∀{α:Type} (a:α) (l:List α) (i:Nat) (h:i+1<(a::l).length),(a::l)[i+1]=l[i]'(by simpa using h))/\
  (∀{α:Type} (a:α) (l:List α) (h:0<(a::l).length),(a::l)[0]=a)/\
  (∀{α:Type} (l:List α) (i:Nat) (a:α),l.toArray.setIfInBounds i a=(l.set i a).toArray)/\
  (∀{α:Type} {x:α} {xs:List α} {a:α},(x::xs).set 0 a=a::xs)/\
  (∀{α:Type} {x:α} {xs:List α} {i:Nat} {a:α},(x::xs).set (i+1) a=x::xs.set i a):=
 ⟨λ_ _ _=>rfl,λ_ _=>rfl,λ_=>by simp,λ_ _ _ _=>rfl,λ_ _ _=>rfl,λ_ _ _=>by simp,rfl,rfl⟩
def eS (ty n:Nat):Prop:=(∃d,prog.underlying ty=some d/\d.isRow=true)/\(prog.info? ty).map (·.size)=some n
section
variable {ops:Array Oper} {Q:Exit->Act->World->Prop} {md:Region.Mode} {S:World->Prop} {oi:Oper} {fuel:Nat} {listed:Array Bool} {a a2:Act} {w:World}
theorem tk (i:Nat) (v:Value) (hi:ops[i]?=some oi) (b:S w)
  (h:wpAnyH prog md ops Q S fuel (listed.setIfInBounds i true) a2 w)
  (j:YieldsIf prog ops S oi v a:=by exact .inl ⟨by rfl,λz k=>by go_simp<;>with_reducible rfl⟩) (e:a.put oi.dst v=a2:=by simp only[pz];rfl)
  (g:Region.noSelect ops=true:=by kernel_rfl) (d:Region.free md ops listed i=true:=by kernel_rfl) (f:(Region.ready md ops listed).contains i=true:=by kernel_rfl)
  (hQ:∀(c:List PanicEntry) (a:Act) (w:World),Q (.panic c) (a.put oi.dst v) w->Q (.panic c) a w:=by exact λ_ _ _ h=>h):wpAnyH prog md ops Q S (fuel+1) listed a w:=
 mO hi g d f hQ j b (by rw[e];exact h)
theorem sk (i:Nat) (hi:ops[i]?=some oi) (b:S w) (h:wpAnyH prog md ops Q S fuel (listed.setIfInBounds i true) a2 w) (j:Region.wanted oi (yielded ops a.tmps)=false:=by rfl) (e:a.put oi.dst undef=a2:=by simp only[pz];rfl)
  (g:Region.noSelect ops=true:=by kernel_rfl) (d:Region.free md ops listed i=true:=by kernel_rfl) (f:(Region.ready md ops listed).contains i=true:=by kernel_rfl)
  (hQ:∀(c:List PanicEntry) (a:Act) (w:World),Q (.panic c) (a.put oi.dst undef) w->Q (.panic c) a w:=by exact λ_ _ _ h=>h):wpAnyH prog md ops Q S (fuel+1) listed a w:=
 tk i undef hi b h (.inr ⟨j,rfl⟩) e g d f hQ
theorem fE {ty n:Nat} (f:eS ty n) (i s b o:Nat) (cs:List Value) (q:cs.length=n) (hi:ops[i]?=some oi) (g:S w)
  (j:∀z,S z->z.rangeAt b o cs) (h:wpAnyH prog md ops Q S fuel (listed.setIfInBounds i true) a2 w)
  (r:oi.op=.load ty (.tmp s):=by rfl) (y:a.eval (.tmp s)=.pointer (some ⟨b,o,none⟩):=by kernel_rfl) (x:Region.wanted oi (yielded ops a.tmps)=true:=by kernel_rfl) (e:a.put oi.dst (.agg cs.toArray)=a2:=by simp only[pz];rfl)
  (u:Region.noSelect ops=true:=by kernel_rfl) (l:Region.free md ops listed i=true:=by kernel_rfl) (t:(Region.ready md ops listed).contains i=true:=by kernel_rfl)
  (hQ:∀(c:List PanicEntry) (a:Act) (w:World),Q (.panic c) (a.put oi.dst<|.agg cs.toArray) w->Q (.panic c) a w:=by exact λ_ _ _ h=>h):wpAnyH prog md ops Q S (fuel+1) listed a w:=by
 obtain⟨⟨d,hu,k⟩,m⟩:=f;exact mO hi u l t hQ (pM x ty (.tmp s) r b o y cs d j hu k<|by rw[q];exact m) g<|by rw[e];exact h
theorem dy (i:Nat) {o:Oper} (d:ops[i]?=some o)
  (h:∀(b:Act->World->Prop),Shut (∀(a:Act) (w:World),S w->(S w->wpAnyH prog md ops Q S fuel (listed.setIfInBounds i true) a w)->b a w)->
    if Region.wanted o (yielded ops a.tmps)=true then Oper.wp prog o a w b Q else b (a.put o.dst undef) w)
  (e:Region.ready md ops listed=[i]:=by kernel_rfl):wpAnyH prog md ops Q S (fuel+1) listed a w:=
 qF e (by simp) (ph d h qq)
end
section
variable {ops:Array Oper} {rest:List Oper} {op:Oper} {a:Act} {w:World} {Q:Exit->Act->World->Prop} {ty n:Nat}
theorem cW (f:eS ty n) (s b o:Nat) (cs:List Value) (g:w.rangeAt b o cs) (k:cs.length=n) (h:wpList prog ops Q rest (a.put op.dst<|.agg cs.toArray) w)
  (l:op.op=.load ty (.tmp s):=by with_reducible rfl) (m:a.eval (.tmp s)=.pointer (some ⟨b,o,none⟩):=by kernel_rfl) (j:Region.wanted op (yielded ops a.tmps)=true:=by kernel_rfl):wpList prog ops Q (op::rest) a w:=by
 obtain⟨⟨d,hu,i⟩,hi⟩:=f;exact BigFrame.wpList_want j λ_ e=>wp_load_mid ty (.tmp s) l b o m cs d g hu i (by rw[k];exact hi)<|e _ _ h
end
theorem LR {t:TypeId} {n:Nat} (d:eS t n) (w:World) (c:Array Value) (cs:List Value) (e:c.size=n) (b:cs.length=n) (h1:cs.toArray.all (·.oneCell')=true):
  (storeVar t ⟨w.1.size,0,none⟩<|.agg cs.toArray).run prog (w.alloc<|.cells c t)=.ok () (w.alloc<|.cells cs.toArray t):=
 run_storeVar_new w t c cs.toArray (by rw[d.2];simp[b]) (by simp[e,b]) h1
section
variable {ops:Array Oper} {rest:List Oper} {op:Oper} {a:Act} {w:World} {Q:Exit->Act->World->Prop} {ty n:Nat} {c:Array Value}
theorem si (d:eS ty n) (x y:Nat) (cs:List Value) (g:cs.length=n) (h1:cs.toArray.all (·.oneCell')=true) (h:wpList prog ops Q rest (a.put op.dst undef) (w.alloc<|.cells cs.toArray ty))
  (i:op.op=.store ty (.tmp x) (.tmp y):=by with_reducible rfl) (j:a.eval (.tmp x)=.pointer (some ⟨w.1.size,0,none⟩):=by kernel_rfl) (k:a.eval (.tmp y)=.agg cs.toArray:=by kernel_rfl) (e:c.size=n:=by kernel_rfl) (f:op.guard=none:=by kernel_rfl):
  wpList prog ops Q (op::rest) a (w.alloc<|.cells c ty):=
 pR f λ_ b=>by unfold Oper.wp execOp;simp only[i,j,k,Instr.storeAt,Instr.sureAddr,nQ,pS,nf,LR d w c cs e g h1];exact b _ _ h
end
theorem pe:eS 30 3:=⟨⟨_,underlying30,rfl⟩,by kernel_rfl⟩
theorem eU:eS 33 7:=⟨⟨_,underlying33,rfl⟩,by kernel_rfl⟩
theorem i4:eS 37 10:=⟨⟨_,underlying37,rfl⟩,by kernel_rfl⟩
theorem jh:eS 42 21:=⟨⟨_,underlying42,rfl⟩,by kernel_rfl⟩
theorem iq:eS 44 33:=⟨⟨_,underlying44,rfl⟩,by kernel_rfl⟩
theorem oG:eS 83 8:=⟨⟨_,underlying83,rfl⟩,by kernel_rfl⟩
theorem D7:eS 85 9:=⟨⟨_,underlying85,rfl⟩,by kernel_rfl⟩
theorem GA:eS 90 8:=⟨⟨_,underlying90,rfl⟩,by kernel_rfl⟩
theorem D8 {w:World} {b:Nat} {a0 d a2 e f g i j k:Value} (h:w.rangeAt b 0 [a0,d,a2,e,f,g,i,j,k]):w.cell? ⟨b,0,none⟩=some a0/\w.cell? ⟨b,1,none⟩=some d/\w.cell? ⟨b,2,none⟩=some a2/\w.cell? ⟨b,3,none⟩=some e/\w.cell? ⟨b,4,none⟩=some f/\w.cell? ⟨b,5,none⟩=some g/\w.cell? ⟨b,6,none⟩=some i/\w.cell? ⟨b,7,none⟩=some j/\w.cell? ⟨b,8,none⟩=some k:=⟨by simpa using h 0 _ rfl,by simpa using h 1 _ rfl,by simpa using h 2 _ rfl,by simpa using h 3 _ rfl,by simpa using h 4 _ rfl,by simpa using h 5 _ rfl,by simpa using h 6 _ rfl,by simpa using h 7 _ rfl,by simpa using h 8 _ rfl⟩
def bK (xs:List Int):Nat->Nat
 | 0=>0
 | n+1=>if xs.getD n 0=0 then bK xs n else n+1
theorem fp (xs:List Int):∀n,bK xs n<=n
 | 0=>kF _
 | n+1=>by unfold bK;split;have:=fp xs n;omega;omega
theorem LS (b o len cap:Nat) (xs:List Int) (w:World) (h:∀i,i<len->w.cell? ⟨b,o+i,none⟩=some (.int .u32<|xs.getD i 0)) (l:len<=cap) (m:len<=1099511627776):
  cN 66 #[.slice (some ⟨b,o,none⟩) len cap] w λe w'=>e=.returned (.slice (some ⟨b,o,none⟩) (bK xs len) cap)/\w'=w:=by
 go_enter func66,ntmps66;go_wp2
 go_loop [3] (λi=>∃k:Nat,k<=len/\i=.int .i64 k/\bK xs k=bK xs len) (λi=>(intOf i).toNat)
 case atStart=>exact⟨len,kF _,rfl,rfl⟩
 case round=>
  obtain⟨k,g,rfl,ht⟩:=hrel;have d:Hid (bK xs k=bK xs len):=ht;clear ht
  match k,g,d with
  | 0,g,d=>go_wp2;go_ret;have h0:bK xs len=0:=d.out.symm;refine⟨?_,rfl⟩;simp[h0]
  | k+1,g,d=>
   have j:w.cell? ⟨b,o+k,none⟩=some (.int .u32<|xs.getD k 0):=h k (by omega);go_wp2
   .go_round
    case rel=>have f:(xs[k]?.getD 0==0)=true:=(by assumption);have h0:xs[k]?.getD 0=0:=(by simpa using f);refine⟨k,by omega,by go_num,?_⟩;rw[<-d.out];simp[bK,h0]
    case measure=>simp[intOf]
   go_ret;have f:(xs[k]?.getD 0==0)=false:=(by assumption);have h0:¬xs[k]?.getD 0=0:=(by simpa using f);refine⟨?_,rfl⟩;rw[<-d.out];simp[bK,h0]
set_option maxRecDepth 100000
def val:List Int->Int
 | []=>0
 | d::r=>d+4294967296*val r
def cB (l:List Int):Prop:=∀j:Nat,0<=l.getD j 0/\l.getD j 0<=4294967295
theorem GB:∀(l:List Int) (j:Nat) (d:Int),j<l.length->val (l.set j d)=val l+(d - l.getD j 0)*4294967296^j
 | [],j,d,h=>by simp at h
 | x::l,0,d,h=>by simp[val];omega
 | x::l,j+1,d,h=>by have:=GB l j d (by simpa using h);simp only[sr,val,this,qP];rw[lH];generalize (4294967296:Int)^j=p;generalize d - l.getD j 0=q;rw[lT,<-kH,<-kH,kI 4294967296 q,kH q 4294967296 p,kI 4294967296 p,<-kH q p];omega
theorem Fd:∀(l:List Int) (k:Nat),k<l.length->val (l.take<|k+1)=val (l.take k)+l.getD k 0*4294967296^k
 | [],k,h=>by simp at h
 | x::l,0,h=>by simp[val]
 | x::l,k+1,h=>by have:=Fd l k (by simpa using h);simp only[rV,val,this,qP];rw[lH];generalize (4294967296:Int)^k=p;generalize l.getD k 0=q;rw[lT,kI 4294967296<|q*p,kH q p 4294967296];omega
theorem BJ {l:List Int} (h:cB l) {j:Nat} {d:Int} (b:0<=d/\d<=4294967295):cB (l.set j d):=by
 intro i;have:=h i;simp only[ll,nC] at this ⊢;split
 .split
  .simpa using b
  simp
 exact this
theorem BK {a b:Int} (e:0<=a/\a<=4294967295) (d:0<=b/\b<=4294967295):0<=a*b/\a*b<=18446744065119617025:=by refine⟨nj e.1 d.1,?_⟩;have h:=sY e.2 d.2 d.1 (by omega);exact sH h<|by decide
theorem P4 (a b:Int) (f:0<=a/\a<=4294967295) (g:0<=b/\b<=4294967295) (w:World):
  cN 100 #[.int .u32 a,.int .u32 b] w λe w'=>e=.returned (.tuple #[.int .u32<|a*b / 4294967296,.int .u32<|a*b % 4294967296])/\w'=w:=by
 have d:=BK f g;go_enter func100,ntmps100;go_wp2;go_ret2;refine⟨?_,rfl⟩;have h:IntKind.u64.wrap (a*b)=a*b:=by rw[nL];exact pm d.1<|by omega
 have h2:a*b / 4294967296 % 4294967296=a*b / 4294967296:=by generalize a*b=p at d ⊢;omega
 simp only;rfl
structure In (x:Int) (ys os0:List Int) (i k n:Nat) (os:List Int) (c:Int):Prop where
 len:os.length=n
 dig:cB os
 c0:0<=c/\c<=4294967295
 eq:val os+c*4294967296^(i+k)=val os0+x*val (ys.take k)*4294967296^i
 rest:∀j,i+k<=j->os.getD j 0=os0.getD j 0
theorem Je {x y d c:Int} (b:0<=x/\x<=4294967295) (e:0<=y/\y<=4294967295) (g:0<=d/\d<=4294967295) (f:0<=c/\c<=4294967295):0<=x*y+d+c/\x*y+d+c<=18446744073709551615:=by have:=BK b e;omega
theorem In.step {x:Int} {ys d os:List Int} {i k n:Nat} {c:Int} (h:In x ys d i k n os c) (o:0<=x/\x<=4294967295) (q:cB ys) (l:k<ys.length) (y:i+ys.length<=n):
  In x ys d i (k+1) n (os.set (i+k)<|(x*ys.getD k 0+os.getD (i+k) 0+c) % 4294967296) ((x*ys.getD k 0+os.getD (i+k) 0+c) / 4294967296):=by
 have b:=Je o (q k) (h.dig<|i+k) h.c0;have hv:=GB os (i+k) ((x*ys.getD k 0+os.getD (i+k) 0+c) % 4294967296) (by rw[h.len];omega);have ht:=Fd ys k l;refine⟨by simp[h.len],BJ h.dig ?_,?_,?_,λj u=>?_⟩
 .generalize x*ys.getD k 0+os.getD (i+k) 0+c=s at b;omega
 .generalize x*ys.getD k 0+os.getD (i+k) 0+c=s at b;omega
 .have e:=h.eq;rw[hv,ht];have m:(4294967296:Int)^(i+(k+1))=4294967296^(i+k)*4294967296:=by rw[<-pW,lH]
  have hq:(4294967296:Int)^(i+k)=4294967296^k*4294967296^i:=by rw[mw,kI]
  have g:=l9 (x*ys.getD k 0+os.getD (i+k) 0+c) 4294967296;rw[m];generalize f:x*ys.getD k 0+os.getD (i+k) 0+c=S at g ⊢;generalize t:os.getD (i+k) 0=D at f ⊢;have r:val os+(S % 4294967296 - D)*4294967296^(i+k)+S / 4294967296*(4294967296^(i+k)*4294967296)=val os+c*4294967296^(i+k)+x*ys.getD k 0*4294967296^(i+k):=by have e1:S / 4294967296*(4294967296^(i+k)*4294967296)=(4294967296*(S / 4294967296))*4294967296^(i+k):=(by rw[kI (4294967296^(i+k)) 4294967296,<-kH,kI (S / 4294967296) 4294967296]);rw[e1,qN,<-kW,qN<|val os,<-kW];congr 2;omega
  rw[r,e,hq,lT,kW,<-kH,<-kH,qN]
 have:=h.rest j (by omega);rw[<-this];simp only[ll,nC];rw[kZ<|by omega]
structure Out (xs ys:List Int) (n i:Nat) (os:List Int):Prop where
 len:os.length=n
 dig:cB os
 eq:val os=val (xs.take i)*val ys
 rest:∀j,i+ys.length<=j->os.getD j 0=0
theorem Out.start {xs ys os:List Int} {n i:Nat} (h:Out xs ys n i os):In (xs.getD i 0) ys os i 0 n os 0:=
 ⟨h.len,h.dig,by decide,by simp[val],λ_ _=>rfl⟩
theorem Out.row {xs ys b os:List Int} {n i:Nat} {c:Int} (h0:Out xs ys n i b) (hi:i<xs.length) (f:xs.length+ys.length=n) (h:In (xs.getD i 0) ys b i ys.length n os c):
  Out xs ys n (i+1) (os.set (i+ys.length) c):=by
 have d:os.getD (i+ys.length) 0=0:=by rw[h.rest _<|kF _];exact h0.rest _<|kF _
 have hv:=GB os (i+ys.length) c (by rw[h.len];omega);refine⟨by simp[h.len],BJ h.dig h.c0,?_,λj e=>?_⟩
 .rw[hv,d,sI,h.eq,h0.eq,Fd xs i hi,lQ,kW];rw[kH<|xs.getD i 0,kI<|val ys,<-kH]
 have:=h.rest j (by omega);have h1:=h0.rest j (by omega);simp only[ll,nC] at this h1 ⊢;rw[kZ<|by omega,this,h1]
theorem Out.zero (xs ys:List Int) (n:Nat):Out xs ys n 0 (List.replicate n 0):=by
 have b:∀j,(List.replicate n (0:Int)).getD j 0=0:=by intro j;simp only[ll,nK];split<;>rfl
 have hv:∀n:Nat,val (List.replicate n 0)=0:=by
  intro n
  induction n with
  | zero=>rfl
  | succ n d=>simp[nV,val,d]
 exact⟨by simp,λj=>by rw[b j];decide,by simp[hv,val],λj _=>b j⟩
def gC (os:List Int):Array Value:=(os.map<|Value.int .u32).toArray
def Blk (w:World) (g:Nat) (os:List Int):Prop:=w.1[g]?=some (.cells (gC os) 120 (0,0))
theorem Blk.cell {w:World} {g:Nat} {os:List Int} (h:Blk w g os) {j:Nat} (b:j<os.length):w.cell? ⟨g,j,none⟩=some (.int .u32<|os.getD j 0):=by unfold Blk at h;simp[World.cell?,h,gC,b]
theorem Blk.frozen {w:World} {g:Nat} {os:List Int} (h:Blk w g os) (j:Nat):w.frozen? ⟨g,j,none⟩=false:=by unfold Blk at h;simp[World.frozen?,h]
theorem Blk.set {w:World} {g:Nat} {os:List Int} (h:Blk w g os) (j:Nat) (d:Int):Blk (w.setCell ⟨g,j,none⟩<|.int .u32 d) g (os.set j d):=by
 unfold Blk at h ⊢
 have e:g<w.1.size:=by
  rcases kS g w.1.size with b | b
  .exact b
  simp[pE b] at h
 show(w.1.modify g _)[g]?=_;rw[qG,kU rfl,h];simp[gC,List.map_set]
theorem zz {w:World} {g n:Nat} (h:w.ownsRow g 120 1 (.slice (some ⟨g,0,none⟩) n n) n (madeCells #[Value.int .u32 0] n).toList):Blk w g (List.replicate n 0):=by
 obtain⟨_,⟨h1,_⟩ | ⟨f,cap,b,h1,_,h3,_,_,h6,h7⟩⟩:=h
 .cases h1
 simp only[nT,mc,tn] at h1;obtain⟨⟨rfl,_⟩,_,rfl⟩:=h1;unfold Blk;rw[h3]
 have e:b=gC (List.replicate n 0):=by
  apply Array.ext';have d:b.toList.take (n*1)=b.toList:=(by apply lI;simp[h6]);rw[<-d,h7];apply rp;intro i;simp only[madeCells,gC];by_cases hi:i<n
  .simp[hi,Nat.mod_one]
  simp[hi]
 rw[e]
theorem P5 (b o cap r D W n:Nat) (xs ys:List Int) (w:World) (T:xs.length+ys.length=n) (hn:n<=1099511627776) (ad:cB xs) (J:cB ys)
  (ab:∀i,i<xs.length->w.cell? ⟨b,o+i,none⟩=some (.int .u32<|xs.getD i 0)) (ac:∀i,i<ys.length->w.cell? ⟨r,D+i,none⟩=some (.int .u32<|ys.getD i 0)) (Y:b<w.1.size) (Z:r<w.1.size):
  cN 68 #[.slice (some ⟨b,o,none⟩) xs.length cap,.slice (some ⟨r,D,none⟩) ys.length W] w λe w'=>∃os,Out xs ys n xs.length os/\e=.returned (.slice (some ⟨w.1.size,0,none⟩) (bK os n) n)/\Blk w' w.1.size os/\Below w.1.size w w':=by
 obtain⟨i0,hi,M,N,O⟩:=mE (show(prog.info? 120).map (λi=>(i.zero,i.size,i.bytes))=some (some<|.int .u32 0,1,4) by kernel_rfl);go_enter func68,ntmps68;go_wp2_with (at_make;refine nM _ rfl _ _ 28 rfl w.1.size 120 i0 (.int .u32 0) 1 underlying28 hi M N _ _ _ _ n rfl rfl (by omega) (by omega) (by rw[O];omega) (by unfold maxLen;omega) (kF _) ?_);intro P G E;have U:Blk P w.1.size (List.replicate n 0):=zz G;have V:Below w.1.size w P:=(kE _ _).grown E (kF _) (λ_ h=>by cases h);clear G E hi M N O;go_wp2
 go_loopw [22] (λi wr=>∃(k:Nat) (os:List Int),k<=xs.length/\i=.int .i64 k/\Out xs ys n k os/\Blk wr w.1.size os/\Below w.1.size w wr) (λi _=>xs.length - (intOf i).toNat)
 case atStart=>exact⟨0,_,kL _,rfl,Out.zero xs ys n,U,V⟩
 case round=>
  obtain⟨k,os,hk,rfl,s,z,A⟩:=hrel;have X:k<xs.length->wr.cell? ⟨b,o+k,none⟩=some (.int .u32<|xs.getD k 0):=λh=>fg A Y<|ab k h;have H:=LS w.1.size 0 n n os wr (λi hi=>by simpa using z.cell (by rw[s.len];exact hi)) (kF _) hn;go_wp2_with (go_at_call 66;refine H.mono ?_;rintro e w9 ⟨rfl,rfl⟩)
  .have hlt:k<xs.length:=(by assumption);clear H X;have C:xs.getD k 0=xs[k]:=(by simp[hlt]);have l:=ad k;rw[C] at l;have B:=s.start;rw[C] at B;have u:=λf cc=>Out.row (os:=f) (c:=cc) s hlt T;rw[C] at u;generalize xs[k]=x at l B u ⊢;have I:decide (k<xs.length)=true:=(by simp[hlt]);rw[I];clear I
   go_loopw [29,8] (λi c R=>∃(m:Nat) (f:List Int) (cc:Int),m<=ys.length/\i=.int .i64 m/\c=.int .u64 cc/\In x ys os k m n f cc/\Blk R w.1.size f/\Below w.1.size w R) (λi _ _=>ys.length - (intOf i).toNat)
   case atStart=>exact⟨0,os,0,kL _,rfl,rfl,B,z,A⟩
   case round=>
    obtain⟨m,f,cc,hm,rfl,rfl,j,g,y⟩:=hrel;have fX:m<ys.length->wr.cell? ⟨r,D+m,none⟩=some (.int .u32<|ys.getD m 0):=λh=>fg y Z<|ac m h;have fY:m<ys.length->wr.cell? ⟨w.1.size,k+m,none⟩=some (.int .u32<|f.getD (k+m) 0):=λh=>g.cell (by rw[j.len];omega);have ai:=g.frozen<|k+m;have fL:wr.cell? ⟨w.1.size,k+ys.length,none⟩=some (.int .u32<|f.getD (k+ys.length) 0):=g.cell (by rw[j.len];omega);have ic:=g.frozen<|k+ys.length;have q:=J m;have K:=j.dig<|k+m;have aa:=j.c0
    go_wp2_with (go_at_call 100;refine(P4 x _ l (by first | exact q | (have:=q;simp_all)) _).mono ?_;rintro e w9 ⟨rfl,rfl⟩)
    .have t:m<ys.length:=(by assumption);go_roundw
     case rel=>have ag:ys.getD m 0=ys[m]:=(by simp[t]);have F:=j.step l J t (by omega);rw[ag] at F q;have hp:=BK l q;have L:=Je l q K aa;have af:f[k+m]?.getD 0=f.getD (k+m) 0:=(by simp);rw[af];have gk:IntKind.u64.wrap (IntKind.u64.wrap (IntKind.u64.wrap (IntKind.u64.wrap (IntKind.u64.wrap (x*ys[m] / 4294967296)*4294967296)+x*ys[m] % 4294967296)+IntKind.u64.wrap (f.getD (k+m) 0))+cc)=x*ys[m]+f.getD (k+m) 0+cc:=(by generalize x*ys[m]=p at hp L ⊢;generalize f.getD (k+m) 0=d at K L ⊢;simp only[nL];omega);rw[gk];exact⟨m+1,_,_,by omega,by go_num,rfl,F,g.set _ _,y.setCell (p:=⟨w.1.size,k+m,none⟩) (kF _) _⟩
     case measure=>simp[intOf];omega
    have t:m=ys.length:=(by omega);subst t;go_round
    case rel=>exact⟨k+1,_,by omega,by go_num,u _ _ j,g.set _ _,y.setCell (p:=⟨w.1.size,k+ys.length,none⟩) (kF _) _⟩
    case measure=>simp[intOf];omega
  go_ret;have ae:k=xs.length:=(by omega);subst ae;exact⟨os,s,rfl,z,A⟩
theorem Fe {xs ys:List Int} (b:xs.length=ys.length) (h:∀j,j<xs.length->xs.getD j 0=ys.getD j 0):xs=ys:=by apply List.ext_getElem b;intro i h1 h2;have:=h i h1;simpa [h1,h2] using this
theorem Ae {xs ys:List Int} {j:Nat} (h:¬xs.getD j 0=ys.getD j 0):¬xs=ys:=λe=>h<|by rw[e]
theorem P6 (b o cap f s x:Nat) (xs ys:List Int) (w:World) (F:xs.length=ys.length) (I:xs.length<=1099511627776)
  (A:∀i,i<xs.length->w.cell? ⟨b,o+i,none⟩=some (.int .u32<|xs.getD i 0)) (B:∀i,i<ys.length->w.cell? ⟨f,s+i,none⟩=some (.int .u32<|ys.getD i 0)) (y:b<w.1.size) (z:f<w.1.size):
  bF w 67 #[.slice (some ⟨b,o,none⟩) xs.length cap,.slice (some ⟨f,s,none⟩) xs.length x] (.bool<|decide (xs=ys)):=by
 go_enter func67,ntmps67;go_wp2
 go_loopw [13] (λi wr=>∃k:Nat,k<=xs.length/\i=.int .i64 k/\(∀j,j<k->xs.getD j 0=ys.getD j 0)/\Below w.1.size w wr) (λi _=>xs.length - (intOf i).toNat)
 case atStart=>exact⟨0,kL _,rfl,λj D=>by omega,kE _ _⟩
 case round=>
  obtain⟨k,H,rfl,g,d⟩:=hrel;by_cases m:k<xs.length
  .have c1:wr.cell? ⟨b,o+k,none⟩=some (.int .u32<|xs.getD k 0):=fg d y<|A k m;have c2:wr.cell? ⟨f,s+k,none⟩=some (.int .u32<|ys.getD k 0):=fg d z (B k<|by omega);have G:(k:Int)<(xs.length:Int):=(by omega);have l:=bC g;clear g;go_wp2
   go_quiet (fail)
   have t:Below w.1.size w (wr.drewN nq):=⟨d.os,d.tape,d.output,d.size,d.block⟩;go_wp2
   .go_ret;have q:(xs[k] != ys[k]'(by omega))=true:=(by assumption);have u:¬xs.getD k 0=ys.getD k 0:=(by have r:k<ys.length:=(by omega);simpa [m,r] using q);have e:=Ae u;exact⟨by simp[e],t⟩
   go_roundw
   case rel=>
    have q:(xs[k] != ys[k]'(by omega))=false:=(by assumption);have C:xs.getD k 0=ys.getD k 0:=(by have r:k<ys.length:=(by omega);simpa [m,r] using q);refine⟨k+1,by omega,by go_num,λj D=>?_,t⟩
    rcases kS j k with h | h
    .exact l.out j h
    have:j=k:=(by omega);subst this;exact C
   case measure=>simp[intOf];omega
  have E:k=xs.length:=(by omega);subst E;have l:=bC g;clear g;go_wp2;go_ret;have e:=Fe F l.out;exact⟨by simp[e],d⟩
def bE (xs:List Int):List Int:=xs.take<|bK xs xs.length
theorem zB:∀(a b:List Int),val (a++b)=val a+4294967296^a.length*val b
 | [],b=>by simp[val]
 | x::a,b=>by simp only[mZ,val,zB a b,lF,lH];rw[lT,<-kH,kI 4294967296<|4294967296^a.length];omega
theorem LT (xs:List Int):∀n,n<=xs.length->val (xs.take<|bK xs n)=val (xs.take n)
 | 0,_=>rfl
 | n+1,h=>by
  unfold bK;split
  .rename_i h0;rw[LT xs n<|by omega,Fd xs n<|by omega,h0];simp
  rfl
theorem ji (xs:List Int):val (bE xs)=val xs:=by unfold bE;rw[LT xs xs.length<|kF _,lQ]
theorem LU (xs:List Int):∀n,bK xs n=0\/∃m,bK xs n=m+1/\¬xs.getD m 0=0
 | 0=>.inl rfl
 | n+1=>by
  unfold bK;split
  .exact LU xs n
  rename_i h;exact .inr ⟨n,rfl,h⟩
def bD (xs:List Int):Prop:=∀m,xs.length=m+1->¬xs.getD m 0=0
theorem ed (xs:List Int):(bE xs).length=bK xs xs.length:=by have:=fp xs xs.length;simp[bE];omega
theorem zD (xs:List Int) (j:Nat) (h:j<(bE xs).length):(bE xs).getD j 0=xs.getD j 0:=by rw[ed] at h;simp only[bE,ll,mD,kU h]
theorem jH (xs:List Int):bD (bE xs):=by
 intro m b;rw[zD xs m<|by omega];rw[ed] at b
 rcases LU xs xs.length with h | ⟨k,h1,h2⟩
 .omega
 have:k=m:=by omega
 subst this;exact h2
theorem C0 {xs:List Int} (h:cB xs):cB (bE xs):=by
 intro j;have:=h j;simp only[bE,ll,mD] at this ⊢;split
 .exact this
 simp
theorem D9 {x:Int} {xs:List Int} (h:cB (x::xs)):cB xs:=λj=>by simpa using h (j+1)
theorem ep:∀{xs:List Int},cB xs->0<=val xs
 | [],_=>Int.le_refl _
 | x::xs,h=>by have h0:=(h 0).1;have:=ep<|D9 h;simp only[nz] at h0;simp only[val];omega
theorem Ea {x:Int} {xs:List Int} (h:bD (x::xs)):bD xs:=λm b=>by have:=h (m+1) (by simp[b]);simpa using this
theorem Af:∀{xs:List Int},cB xs->bD xs->xs≠[]->0<val xs
 | [],_,_,h=>absurd rfl h
 | [x],hd,hc,_=>by have h1:=hc 0 rfl;have h0:=(hd 0).1;simp at h1 h0;simp[val];omega
 | x::y::xs,hd,hc,_=>by have:=Af (D9 hd) (Ea hc) (by simp);have h0:=(hd 0).1;simp only[nz] at h0;rw[val];omega
theorem C1:∀{xs ys:List Int},cB xs->cB ys->bD xs->bD ys->val xs=val ys->xs=ys
 | [],[],_,_,_,_,_=>rfl
 | [],y::ys,_,hd,_,hc,h=>by have:=Af hd hc (by simp);rw[<-h] at this;simp[val] at this
 | x::xs,[],hd,_,hc,_,h=>by have:=Af hd hc (by simp);rw[h] at this;simp[val] at this
 | x::xs,y::ys,hx,hy,cx,cy,h=>by
  have h1:=hx 0;have h2:=hy 0;simp only[nz] at h1 h2;simp only[val] at h;have e1:x=y:=by omega
  have e2:val xs=val ys:=by omega
  rw[e1,C1 (D9 hx) (D9 hy) (Ea cx) (Ea cy) e2]
theorem P7 {xs ys:List Int} (b:cB xs) (d:cB ys):bE xs=bE ys↔val xs=val ys:=by
 constructor
 .intro h;rw[<-ji xs,<-ji ys,h]
 intro h;exact C1 (C0 b) (C0 d) (jH xs) (jH ys)<|by rw[ji,ji,h]
def Sl (w:World) (v:Value) (xs:List Int):Prop:=
 cB xs/\xs.length<=549755813888/\∃q cap,v=.slice q xs.length cap/\xs.length<=cap/\(xs=[]\/∃b o,q=some ⟨b,o,none⟩/\b<w.1.size/\∀i,i<xs.length->w.cell? ⟨b,o+i,none⟩=some (.int .u32<|xs.getD i 0))
theorem Sl.below {w w':World} {v:Value} {xs:List Int} (h:Sl w v xs) (d:Below w.1.size w w'):Sl w' v xs:=by obtain⟨h1,h2,q,cap,h3,h4,h5⟩:=h;refine⟨h1,h2,q,cap,h3,h4,h5.imp id ?_⟩;rintro⟨b,o,e,f,g⟩;exact⟨b,o,e,kw f d.size,λi hi=>fg d f<|g i hi⟩
theorem P8 (q:Option Addr) (cap:Nat) (w:World):cN 66 #[.slice q 0 cap] w λe w'=>e=.returned (.slice q 0 cap)/\w'=w:=by go_enter func66,ntmps66;go_wp2;refine my ?_;go_wp2;go_ret;exact⟨rfl,rfl⟩
theorem oH {w:World} {v:Value} {xs:List Int} (h:Sl w v xs):∃u,Sl w u (bE xs)/\∀d,Below w.1.size w d->cN 66 #[v] d λe w'=>e=.returned u/\w'=d:=by
 obtain⟨h1,h2,q,cap,rfl,h4,h5⟩:=h;have k:=fp xs xs.length
 rcases h5 with rfl | ⟨b,o,rfl,g,f⟩
 .exact⟨.slice q 0 cap,⟨h1,by simp[bE],q,cap,rfl,by simp[bE],.inl rfl⟩,λd _=>P8 q cap d⟩
 refine⟨.slice (some ⟨b,o,none⟩) (bK xs xs.length) cap,⟨C0 h1,by rw[ed];omega,_,cap,by rw[ed],by rw[ed];omega,.inr ⟨b,o,rfl,g,λi hi=>?_⟩⟩,
  λd j=>LS b o xs.length cap xs d (λi hi=>fg j g<|f i hi) h4<|by omega⟩
 rw[zD xs i hi];exact f i<|by rw[ed] at hi;omega
theorem BL {w:World} {v u:Value} {xs ys:List Int} (t:Sl w v xs) (x:Sl w u ys) (nx:xs≠[]) (y:ys≠[]) (E:xs.length+ys.length<=549755813888):
  cN 68 #[v,u] w λe w'=>∃r zs,e=.returned r/\Sl w' r zs/\bD zs/\val zs=val xs*val ys/\Below w.1.size w w':=by
 obtain⟨z,F,q,cap,rfl,G,A⟩:=t;obtain⟨B,H,q',cap',rfl,I,C⟩:=x
 rcases A with e | ⟨b,o,rfl,m,k⟩
 .exact absurd e nx
 rcases C with e | ⟨h,o',rfl,g,l⟩
 .exact absurd e y
 refine(P5 b o cap h o' cap' (xs.length+ys.length) xs ys w rfl (by omega) z B k l m g).mono ?_;rintro e w' ⟨os,f,rfl,d,j⟩;have s:=f.len;have D:=fp os os.length;refine⟨_,bE os,rfl,⟨C0 f.dig,by rw[ed];omega,_,_,by rw[ed,s],by rw[ed];omega,.inr ⟨w.1.size,0,rfl,?_,λi hi=>?_⟩⟩,jH os,by rw[ji,f.eq,lQ],j⟩
 .rcases kS w.1.size w'.1.size with hh | hh
  .exact hh
  unfold Blk at d;simp[pE hh] at d
 rw[zD os i hi,mF];exact d.cell<|by rw[ed] at hi;omega
theorem xi (q q':Option Addr) (m n cap cap':Nat) (w:World) (_hm:m<=1099511627776) (_hn:n<=1099511627776) (h:¬m=n):cN 67 #[.slice q m cap,.slice q' n cap'] w λe w'=>e=.returned (.bool false)/\w'=w:=by
 have b:¬(m:Int)=(n:Int):=by omega
 go_enter func67,ntmps67;go_wp2;go_ret;exact⟨rfl,rfl⟩
theorem LV (q q':Option Addr) (cap cap':Nat) (w:World):cN 67 #[.slice q 0 cap,.slice q' 0 cap'] w λe w'=>e=.returned (.bool true)/\w'=w:=by go_enter func67,ntmps67;go_wp2;refine my ?_;go_wp2;go_ret;exact⟨rfl,rfl⟩
theorem GC {w:World} {v u:Value} {xs ys:List Int} (k:Sl w v xs) (l:Sl w u ys):
  bF w 67 #[v,u] (.bool<|decide (xs=ys)):=by
 obtain⟨s,t,q,cap,rfl,x,m⟩:=k;obtain⟨y,z,q',cap',rfl,A,r⟩:=l;by_cases f:xs.length=ys.length
 .rcases m with rfl | ⟨b,o,rfl,hlt,hc⟩
  .have hy0:ys=[]:=kM f.symm;subst hy0;exact(LV q q' cap cap' w).mono λe w' d=>⟨by rw[d.1];simp,by rw[d.2];exact kE _ _⟩
  rcases r with rfl | ⟨h,o',rfl,g,i⟩
  .have hx0:xs=[]:=kM f;subst hx0;exact(LV _ q' cap cap' w).mono λe w' d=>⟨by rw[d.1];simp,by rw[d.2];exact kE _ _⟩
  rw[<-f];exact P6 b o cap h o' cap' xs ys w f (by omega) hc i hlt g
 have j:¬xs=ys:=λe=>f (by rw[e]);exact(xi q q' _ _ cap cap' w (by omega) (by omega) f).mono λe w' d=>⟨by rw[d.1];simp[j],by rw[d.2];exact kE _ _⟩
theorem dF (w:World) (o b:Obj):Below w.1.size w ((w.alloc o).alloc b):=((kE _ _).alloc (kF _) o).alloc (by show w.1.size<=(w.1.push o).size;simp) b
theorem xj {xs:List Int} (h:cB xs):bE xs=[]↔val xs=0:=by rw[show ([]:List Int)=bE [] from rfl,P7 h λj=>by simp];simp[val]
theorem ee {w b:World} (h:Below w.1.size w b) (n:Nat):Below w.1.size w (b.drewN n):=⟨h.os,h.tape,h.output,h.size,h.block⟩
theorem Jf (w:World):Sl (w.alloc<|Obj.cells #[Value.int .u32 1] 120) (.slice (some ⟨w.1.size,0,none⟩) 1 1) [1]:=by
 refine⟨λj=>?_,by decide,_,1,rfl,by decide,.inr ⟨w.1.size,0,rfl,by show w.1.size<(w.1.push _).size;simp,λi hi=>?_⟩⟩
 .match j with
  | 0=>decide
  | j+1=>simp
 simp only[lF,mS] at hi;have:i=0:=by omega
 subst this;show World.cell? _ _=_;simp
def eo (n1:Bool) (a c:List Int) (n2:Bool) (b d:List Int):Bool:=
 if val a=0\/val b=0 then decide (val a=0/\val b=0) else(n1==n2)&&decide (val a*(if val d=0 then 1 else val d)=val b*(if val c=0 then 1 else val c))
theorem P9 (w:World) (n1 n2:Bool) (a b c d:Value) (f g x y:List Int) (i:Sl w a f) (j:Sl w b g) (k:Sl w c x) (l:Sl w d y) (m:(bE f).length=0\/(bE g).length=0):
  bF w 39 #[.agg #[.bool n1,a,c],.agg #[.bool n2,b,d]] (.bool<|decide ((bE f).length=(bE g).length)):=by
 obtain⟨G,sa,o⟩:=oH i;obtain⟨tb,u,q⟩:=oH j;obtain⟨H,sc,r⟩:=oH k;obtain⟨I,sd,kd⟩:=oH l;obtain⟨_,B,E,C,rfl,_⟩:=sa;obtain⟨_,lb,F,D,rfl,_⟩:=u;clear sc sd;generalize (bE f).length=h at*;generalize (bE g).length=nb at*;have h2:=dF w (Obj.cells #[.bool n1,a,c] 30)<|Obj.cells #[.bool n2,b,d] 30;go_enter func39,ntmps39;go_wp2_with fail
 go_quiet (first
  | (go_at_call_of 66 a;refine lw<|o _<|ee h2 _)
  | (go_at_call_of 66 b;refine lw<|q _<|ee h2 _))
 go_wp2_with fail;have e:=ee h2 nq;have s:(((w.alloc<|Obj.cells #[Value.bool n1,a,c] 30).alloc<|Obj.cells #[Value.bool n2,b,d] 30).drewN nq).cell? ⟨w.1.size,0,none⟩=some (.bool n1):=by simp
 have q2:(((w.alloc<|Obj.cells #[Value.bool n1,a,c] 30).alloc<|Obj.cells #[Value.bool n2,b,d] 30).drewN nq).cell? ⟨w.1.size,2,none⟩=some c:=by simp
 have r0:(((w.alloc<|Obj.cells #[Value.bool n1,a,c] 30).alloc<|Obj.cells #[Value.bool n2,b,d] 30).drewN nq).cell? ⟨w.1.size+1,0,none⟩=some (.bool n2):=by simp
 have t:(((w.alloc<|Obj.cells #[Value.bool n1,a,c] 30).alloc<|Obj.cells #[Value.bool n2,b,d] 30).drewN nq).cell? ⟨w.1.size+1,2,none⟩=some d:=by simp
 generalize (((w.alloc<|Obj.cells #[Value.bool n1,a,c] 30).alloc<|Obj.cells #[Value.bool n2,b,d] 30).drewN nq)=z at e s q2 r0 t ⊢;clear h2
 go_quiet (first
  | (go_at_call_of 66 c;refine lw<|r _<|ee e _)
  | (go_at_call_of 66 d;refine lw<|kd _<|ee e _))
 rcases m with rfl | rfl
 .go_wp2_with fail;go_ret;refine⟨?_,ee e _⟩;have:((0:Int)==(nb:Int))=decide (0=nb):=by rw[rO];simp;omega
  simp[this]
 by_cases h0:h=0
 .subst h0;go_wp2_with fail;go_ret;exact⟨by simp,ee e _⟩
 have A:((h:Int)==0)=false:=(by simp[h0]);go_wp2_with fail;go_ret;exact⟨by simp[h0],ee e _⟩
theorem P' (w:World) (n1 n2:Bool) (a b c d:Value) (f g i j:List Int) (x:Sl w a f) (y:Sl w b g) (A:Sl w c i) (B:Sl w d j) (P:f.length<=68719476736) (R:g.length<=68719476736) (bc:i.length<=68719476736) (bd:j.length<=68719476736)
  (G:¬(bE f).length=0) (H:¬(bE g).length=0) (I:¬(bE i).length=0) (J:¬(bE j).length=0):
  bF w 39 #[.agg #[.bool n1,a,c],.agg #[.bool n2,b,d]] (.bool<|(n1==n2)&&decide (val (bE f)*val (bE j)=val (bE g)*val (bE i))):=by
 obtain⟨ta,sa,K⟩:=oH x;obtain⟨tb,O,L⟩:=oH y;obtain⟨tc,sc,M⟩:=oH A;obtain⟨td,sd,kd⟩:=oH B;have la:=ed f;have ai:=fp f f.length;have lb:=ed g;have aj:=fp g g.length;have lc:=ed i;have ak:=fp i i.length;have ld:=ed j;have al:=fp j j.length;have pa:(bE f).length<=68719476736:=by omega
 have pb:(bE g).length<=68719476736:=by omega
 have pc:(bE i).length<=68719476736:=by omega
 have pd:(bE j).length<=68719476736:=by omega
 clear la lb lc ld ai aj ak al P R bc bd x y A B;generalize bE f=m at*;generalize bE g=o at*;generalize bE i=r at*;generalize bE j=s at*;have U:=sa;have V:=O;have W:=sc;have X:=sd;obtain⟨_,_,qa,ag,rfl,_⟩:=U;obtain⟨_,_,qb,ah,rfl,_⟩:=V;obtain⟨_,_,qc,an,rfl,_⟩:=W;obtain⟨_,_,qd,ao,rfl,_⟩:=X;have h2:=dF w (Obj.cells #[.bool n1,a,c] 30)<|Obj.cells #[.bool n2,b,d] 30;go_enter func39,ntmps39;go_wp2_with fail
 go_quiet (first
  | (go_at_call_of 66 a;refine lw<|K _<|ee h2 _)
  | (go_at_call_of 66 b;refine lw<|L _<|ee h2 _))
 go_wp2_with fail;have l:=ee h2 nq;have q0:(((w.alloc<|Obj.cells #[Value.bool n1,a,c] 30).alloc<|Obj.cells #[Value.bool n2,b,d] 30).drewN nq).cell? ⟨w.1.size,0,none⟩=some (.bool n1):=by simp
 have q2:(((w.alloc<|Obj.cells #[Value.bool n1,a,c] 30).alloc<|Obj.cells #[Value.bool n2,b,d] 30).drewN nq).cell? ⟨w.1.size,2,none⟩=some c:=by simp
 have r0:(((w.alloc<|Obj.cells #[Value.bool n1,a,c] 30).alloc<|Obj.cells #[Value.bool n2,b,d] 30).drewN nq).cell? ⟨w.1.size+1,0,none⟩=some (.bool n2):=by simp
 have N:(((w.alloc<|Obj.cells #[Value.bool n1,a,c] 30).alloc<|Obj.cells #[Value.bool n2,b,d] 30).drewN nq).cell? ⟨w.1.size+1,2,none⟩=some d:=by simp
 have s2:(((w.alloc<|Obj.cells #[Value.bool n1,a,c] 30).alloc<|Obj.cells #[Value.bool n2,b,d] 30).drewN nq).1.size=w.1.size+2:=by simp
 generalize (((w.alloc<|Obj.cells #[Value.bool n1,a,c] 30).alloc<|Obj.cells #[Value.bool n2,b,d] 30).drewN nq)=t at l q0 q2 r0 N s2 ⊢;clear h2 K L
 go_quiet (first
  | (go_at_call_of 66 c;refine lw<|M _<|ee l _)
  | (go_at_call_of 66 d;refine lw<|kd _<|ee l _))
 clear M kd q2 N;have za:((m.length:Int)==0)=false:=by simp;intro h;apply G;simp[h]
 have zb:((o.length:Int)==0)=false:=by simp;intro h;apply H;simp[h]
 have zc:((r.length:Int)==0)=false:=by simp;intro h;apply I;simp[h]
 have zd:((s.length:Int)==0)=false:=by simp;intro h;apply J;simp[h]
 have na:m≠[]:=λe=>G (by rw[e];rfl);have nb:o≠[]:=λe=>H (by rw[e];rfl);have nc:r≠[]:=λe=>I (by rw[e];rfl);have nd:s≠[]:=λe=>J (by rw[e];rfl);have k:Below w.1.size w ((t.drewN nq).alloc<|Obj.cells #[Value.int IntKind.u32 1] 120):=(ee l nq).alloc l.size _;have D:=BL (sa.below k) (sd.below k) na nd (by omega);generalize u:(t.drewN nq).alloc (Obj.cells #[Value.int IntKind.u32 1] 120)=am at k D
 cases C:n1==n2 with
 | false=>subst u;go_wp2_with fail;go_ret;exact⟨by rw[C];rfl,k⟩
 | true=>
  subst u
  go_wp2_with (first
   | (go_at_call_of 68 (Value.slice qa m.length ag);refine D.mono ?_;rintro e w3 ⟨r1,z1,rfl,E,ab,ae,Z⟩
      have q:=cV k Z
      have ad:=BL (O.below q) (sc.below q) nb nc<|by omega)
   | (go_at_call_of 68 (Value.slice qb o.length ah);refine ad.mono ?_;rintro e w4 ⟨ap,z2,rfl,F,ac,af,z⟩
      have he:=GC (E.below z) F)
   | (go_at_call 67;refine jR he λw5 aa=>?_))
  go_ret;have Y:=cV q z;refine⟨?_,cV Y aa⟩;have T:z1=z2↔val m*val s=val o*val r:=by rw[<-ae,<-af];exact⟨λh=>by rw[h],λh=>C1 E.1 F.1 ab ac h⟩
  rw[C];simp[T]
