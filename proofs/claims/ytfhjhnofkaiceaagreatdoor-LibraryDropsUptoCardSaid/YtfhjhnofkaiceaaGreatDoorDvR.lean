import Derived.Test.YtfhjhnofkaiceaaGreatDoorDvJ
import Derived.Test.YtfhjhnofkaiceaaGreatDoorDvI
import Derived.Sort.Walk0
import Derived.Sort.Statements
import Derived.Test.YtfhjhnofkaiceaaGreatDoorDvK
import Derived.WalkLawsBesides
import Derived.LoopN
import Derived.Laws.AppendOwnNone
import Derived.WalkSmall
namespace Go.Proofs.YtfhjhnofkaiceaaGreatDoor
open Go Go.RowKit
abbrev Ky:=ByteArray × Int
theorem zaz {a b:ByteArray} (h:a.toList=b.toList):a=b:=by
 rw[ByteArray.toList_eq,ByteArray.toList_eq] at h
 cases a;cases b
 simp only[ByteArray.mk.injEq]
 exact Array.toList_inj.1 h
def ltK (a b:Ky):Prop:=a.1.toList<b.1.toList\/a.1.toList=b.1.toList/\a.2<b.2
instance (a b:Ky):Decidable (ltK a b):=by unfold ltK;infer_instance
theorem zba (a:Ky):¬ltK a a:=by
 rintro(h | ⟨_,h⟩)
 ·exact List.lt_irrefl _ h
 ·omega
theorem za4 {a b c:Ky} (h1:ltK a b) (h2:ltK b c):ltK a c:=by
 rcases h1 with h1 | ⟨h1,h3⟩<;>rcases h2 with h2 | ⟨h2,h4⟩
 ·exact .inl (List.lt_trans h1 h2)
 ·exact .inl (h2 ▸ h1)
 ·exact .inl (h1 ▸ h2)
 ·exact .inr ⟨h1.trans h2,by omega⟩
theorem za5 (a b:Ky):ltK a b\/a=b\/ltK b a:=by
 by_cases h1:a.1.toList<b.1.toList
 ·exact .inl (.inl h1)
 ·by_cases h2:b.1.toList<a.1.toList
  ·exact .inr (.inr (.inl h2))
  ·have he:a.1.toList=b.1.toList:=List.le_antisymm (List.not_lt.1 h2) (List.not_lt.1 h1)
   rcases Int.lt_trichotomy a.2 b.2 with h | h | h
   ·exact .inl (.inr ⟨he,h⟩)
   ·exact .inr (.inl (Prod.ext (zaz he) h))
   ·exact .inr (.inr (.inr ⟨he.symm,h⟩))
theorem zda {a b:Ky} (h:ltK a b):¬ltK b a:=fun h'=>zba a (za4 h h')
def cmpS (x y:List UInt8):Int:=if x<y then -1 else if x=y then 0 else 1
def cmpI (x y:Int):Int:=if x<y then -1 else if y<x then 1 else 0
def cmpK (a b:Ky):Int:=if cmpS a.1.toList b.1.toList=0 then cmpI a.2 b.2 else cmpS a.1.toList b.1.toList
theorem cmpK_lt (a b:Ky):cmpK a b<0↔ltK a b:=by
 unfold cmpK cmpS cmpI ltK
 by_cases h1:a.1.toList<b.1.toList
 ·simp[h1]
 ·by_cases h2:a.1.toList=b.1.toList
  ·simp only[h2,if_true,true_and]
   have:¬b.1.toList<b.1.toList:=List.lt_irrefl _
   simp only[this,if_false,if_true,false_or]
   by_cases h3:a.2<b.2
   ·simp[h3]
   ·by_cases h4:b.2<a.2<;>simp[h3,h4]
  ·simp[h1,h2]
abbrev Asc (l:List Ky):Prop:=l.Pairwise ltK
theorem zcf:∀(l m:List Ky),Asc l->Asc m->(∀x,x∈l↔x∈m)->l=m
 | [],[],_,_,_=>rfl
 | [],b::m,_,_,h=>absurd ((h b).2 (by simp)) (by simp)
 | a::l,[],_,_,h=>absurd ((h a).1 (by simp)) (by simp)
 | a::l,b::m,hl,hm,h=>by
  have hab:a=b:=by
   rcases List.mem_cons.1 ((h a).1 (by simp)) with e | e
   ·exact e
   ·rcases List.mem_cons.1 ((h b).2 (by simp)) with e' | e'
    ·exact e'.symm
    ·exact absurd (List.rel_of_pairwise_cons hl e') (zda (List.rel_of_pairwise_cons hm e))
  subst hab
  congr 1
  refine zcf l m hl.tail hm.tail fun x=>?_
  constructor
  ·intro hx
   rcases List.mem_cons.1 ((h x).1 (List.mem_cons_of_mem _ hx)) with e | e
   ·subst e;exact absurd (List.rel_of_pairwise_cons hl hx) (zba _)
   ·exact e
  ·intro hx
   rcases List.mem_cons.1 ((h x).2 (List.mem_cons_of_mem _ hx)) with e | e
   ·subst e;exact absurd (List.rel_of_pairwise_cons hm hx) (zba _)
   ·exact e
def insK (k:Ky):List Ky->List Ky
 | []=>[k]
 | a::l=>if ltK a k then a::insK k l else if a=k then a::l else k::a::l
theorem zco (k x:Ky):∀l,x∈insK k l↔x=k\/x∈l
 | []=>by simp[insK]
 | a::l=>by
  unfold insK
  by_cases h:ltK a k
  ·rw[if_pos h,List.mem_cons,zco k x l,List.mem_cons]
   constructor
   ·rintro(h | h | h)
    ·exact .inr (.inl h)
    ·exact .inl h
    ·exact .inr (.inr h)
   ·rintro(h | h | h)
    ·exact .inr (.inl h)
    ·exact .inl h
    ·exact .inr (.inr h)
  ·rw[if_neg h]
   by_cases e:a=k
   ·rw[if_pos e,List.mem_cons]
    subst e
    constructor
    ·exact fun h=>.inr h
    ·rintro(h | h)
     ·exact .inl h
     ·exact h
   ·rw[if_neg e]
    simp only[List.mem_cons]
theorem zd6 (k:Ky):∀l,Asc l->Asc (insK k l)
 | [],_=>by simp[insK]
 | a::l,h=>by
  unfold insK
  by_cases hl:ltK a k
  ·rw[if_pos hl]
   refine List.pairwise_cons.2 ⟨fun x hx=>?_,zd6 k l h.tail⟩
   rcases (zco k x l).1 hx with rfl | hx
   ·exact hl
   ·exact List.rel_of_pairwise_cons h hx
  ·rw[if_neg hl]
   by_cases e:a=k
   ·rw[if_pos e];exact h
   ·rw[if_neg e]
    have hk:ltK k a:=by
     rcases za5 a k with h' | h' | h'
     ·exact absurd h' hl
     ·exact absurd h' e
     ·exact h'
    refine List.pairwise_cons.2 ⟨fun x hx=>?_,h⟩
    rcases List.mem_cons.1 hx with rfl | hx
    ·exact hk
    ·exact za4 hk (List.rel_of_pairwise_cons h hx)
def compK:List Ky->List Ky
 | []=>[]
 | [a]=>[a]
 | a::b::l=>if b=a then compK (b::l) else a::compK (b::l)
theorem zbj (x:Ky):∀l,x∈compK l↔x∈l
 | []=>Iff.rfl
 | [a]=>Iff.rfl
 | a::b::l=>by
  unfold compK
  by_cases h:b=a
  ·rw[if_pos h,zbj x (b::l)]
   subst h
   simp
  ·rw[if_neg h,List.mem_cons,zbj x (b::l),List.mem_cons (l:=b::l)]
theorem zb4:∀l:List Ky,l.Pairwise (fun a b=>¬ltK b a)->Asc (compK l)
 | [],_=>List.Pairwise.nil
 | [a],_=>by simp[compK]
 | a::b::l,h=>by
  unfold compK
  by_cases e:b=a
  ·rw[if_pos e];exact zb4 (b::l) h.tail
  ·rw[if_neg e]
   refine List.pairwise_cons.2 ⟨fun x hx=>?_,zb4 (b::l) h.tail⟩
   have hx':=(zbj x (b::l)).1 hx
   have hab:ltK a b:=by
    rcases za5 a b with h' | h' | h'
    ·exact h'
    ·exact absurd h'.symm e
    ·exact absurd h' (List.rel_of_pairwise_cons h (by simp))
   rcases List.mem_cons.1 hx' with rfl | hx'
   ·exact hab
   ·have hbx:=List.rel_of_pairwise_cons h.tail hx'
    rcases za5 b x with h' | h' | h'
    ·exact za4 hab h'
    ·exact h' ▸ hab
    ·exact absurd h' hbx
theorem zfl (l s:List Ky) (hp:s.Perm l) (hs:s.Pairwise (fun a b=>¬ltK b a)):compK s=l.foldl (fun m k=>insK k m) []:=by
 have hf:∀(l m:List Ky),Asc m->Asc (l.foldl (fun m k=>insK k m) m)/\∀x,x∈l.foldl (fun m k=>insK k m) m↔x∈l\/x∈m:=by
  intro l
  induction l with
  | nil=>intro m hm;exact⟨hm,by simp⟩
  | cons a l ih=>
   intro m hm
   obtain⟨h1,h2⟩:=ih (insK a m) (zd6 a m hm)
   refine⟨h1,fun x=>?_⟩
   rw[List.foldl_cons,h2 x,zco,List.mem_cons]
   constructor
   ·rintro(h | h | h)
    ·exact .inl (.inr h)
    ·exact .inl (.inl h)
    ·exact .inr h
   ·rintro((h | h) | h)
    ·exact .inr (.inl h)
    ·exact .inl h
    ·exact .inr (.inr h)
 obtain⟨h1,h2⟩:=hf l [] List.Pairwise.nil
 refine zcf _ _ (zb4 s hs) h1 fun x=>?_
 rw[zbj,h2 x,hp.mem_iff]
 simp
set_option maxRecDepth 100000 in
theorem zfm (a b:ByteArray) (w:World):Calls Tryz.prog 64 #[.string a,.string b] w fun e w'=>e=.returned (.int .i64 (cmpS a.toList b.toList))/\w'=w:=by
 unfold cmpS
 by_cases h1:a.toList<b.toList
 ·have h2:Op.bytesLess a.toList b.toList=true:=by rw[bytesLess_eq];exact decide_eq_true h1
  rw[if_pos h1]
  clear h1
  go_enter Tryz.func64,Tryz.ntmps64
  go_wp2
  go_ret
  exact⟨rfl,rfl⟩
 ·have h2:Op.bytesLess a.toList b.toList=false:=by rw[bytesLess_eq];exact decide_eq_false h1
  rw[if_neg h1]
  by_cases h3:a.toList=b.toList
  ·rw[if_pos h3]
   have h3':Hid (a.toList=b.toList):=h3
   have h4:(a.toList==b.toList)=true:=by simpa using h3
   clear h1 h3
   go_enter Tryz.func64,Tryz.ntmps64
   go_wp2
   go_ret
   exact⟨rfl,rfl⟩
  ·rw[if_neg h3]
   have h4:(a.toList==b.toList)=false:=by simpa using h3
   clear h1
   go_enter Tryz.func64,Tryz.ntmps64
   go_wp2
   go_ret
   exact⟨rfl,rfl⟩
set_option maxRecDepth 100000 in
theorem zfn (a b:Int) (w:World):Calls Tryz.prog 65 #[.int .i64 a,.int .i64 b] w fun e w'=>e=.returned (.int .i64 (cmpI a b))/\w'=w:=by
 unfold cmpI
 by_cases h1:a<b
 ·rw[if_pos h1]
  go_enter Tryz.func65,Tryz.ntmps65
  go_wp2
  go_ret
  exact⟨rfl,rfl⟩
 ·rw[if_neg h1]
  by_cases h2:b<a
  ·rw[if_pos h2]
   go_enter Tryz.func65,Tryz.ntmps65
   go_wp2
   go_ret
   exact⟨rfl,rfl⟩
  ·rw[if_neg h2]
   go_enter Tryz.func65,Tryz.ntmps65
   go_wp2
   go_ret
   exact⟨rfl,rfl⟩
set_option maxRecDepth 100000 in
theorem cmpOr_ok (b:Nat) (x y:Int) (w:World) (h0:w.cell? ⟨b,0,none⟩=some (.int .i64 x)) (h1:w.cell? ⟨b,1,none⟩=some (.int .i64 y)):
  Calls Tryz.prog 63 #[.slice (some ⟨b,0,none⟩) 2 2] w fun e w'=>e=.returned (.int .i64 (if x=0 then y else x))/\w'=w:=by
 by_cases hx:x=0
 ·rw[if_pos hx]
  subst hx
  by_cases hy:y=0
  ·subst hy
   go_enter Tryz.func63,Tryz.ntmps63
   go_wp2_with fail
   refine wp_loop_rounds 3 ?_
   rw[rounds_succ]
   go_wp2_with fail
   rw[rounds_succ]
   go_wp2_with fail
   rw[rounds_succ]
   go_wp2_with fail
   go_ret
   exact⟨rfl,rfl⟩
  ·go_enter Tryz.func63,Tryz.ntmps63
   go_wp2_with fail
   refine wp_loop_rounds 2 ?_
   rw[rounds_succ]
   go_wp2_with fail
   rw[rounds_succ]
   go_wp2_with fail
   go_ret
   exact⟨rfl,rfl⟩
 ·rw[if_neg hx]
  go_enter Tryz.func63,Tryz.ntmps63
  go_wp2_with fail
  refine wp_loop_once ?_
  go_wp2_with fail
  go_ret
  exact⟨rfl,rfl⟩
set_option maxRecDepth 100000 in
theorem byKey_ok (a b:Ky) (w:World):Calls Tryz.prog 56 #[.agg #[.string a.1,.int .i64 a.2],.agg #[.string b.1,.int .i64 b.2]] w fun e w'=>e=.returned (.int .i64 (cmpK a b))/\∃o3,w'=(((w.alloc (.cells #[.string a.1,.int .i64 a.2] 24)).alloc (.cells #[.string b.1,.int .i64 b.2] 24)).drew).alloc o3:=by
 unfold cmpK
 generalize hs:cmpS a.1.toList b.1.toList=s
 have k1:∀z,Calls Tryz.prog 64 #[.string a.1,.string b.1] z fun e w'=>e=.returned (.int .i64 s)/\w'=z:=fun z=>hs ▸ zfm a.1 b.1 z
 generalize hi:cmpI a.2 b.2=i
 have k2:∀z,Calls Tryz.prog 65 #[.int .i64 a.2,.int .i64 b.2] z fun e w'=>e=.returned (.int .i64 i)/\w'=z:=fun z=>hi ▸ zfn a.2 b.2 z
 obtain⟨n,v⟩:=a
 obtain⟨n',v'⟩:=b
 simp only at k1 k2 ⊢
 clear hs hi
 generalize hr:(if s=0 then i else s)=r
 have k3:∀(b:Nat) (z:World),z.cell? ⟨b,0,none⟩=some (.int .i64 s)->z.cell? ⟨b,1,none⟩=some (.int .i64 i)->Calls Tryz.prog 63 #[.slice (some ⟨b,0,none⟩) 2 2] z fun e w'=>e=.returned (.int .i64 r)/\w'=z:=fun b z h0 h1=>hr ▸ cmpOr_ok b s i z h0 h1
 clear hr
 go_enter Tryz.func56,Tryz.ntmps56
 go_wp2_with fail
 have hS:(fun z:World=>z.cell? ⟨w.heap.size,0,none⟩=some (.string n)/\z.cell? ⟨w.heap.size,1,none⟩=some (.int .i64 v)/\z.cell? ⟨w.heap.size+1,0,none⟩=some (.string n')/\z.cell? ⟨w.heap.size+1,1,none⟩=some (.int .i64 v')) ((w.alloc (.cells #[.string n,.int .i64 v] 24)).alloc (.cells #[.string n',.int .i64 v'] 24)).drew:=by simp
 have d0:(((w.alloc (.cells #[.string n,.int .i64 v] 24)).alloc (.cells #[.string n',.int .i64 v'] 24)).alloc (.cells #[.int .i64 s,.int .i64 i] 3)).drew.cell? ⟨w.heap.size+2,0,none⟩=some (.int .i64 s):=by
  have h:=range_new ((w.alloc (.cells #[.string n,.int .i64 v] 24)).alloc (.cells #[.string n',.int .i64 v'] 24)) [.int .i64 s,.int .i64 i] 3 0 _ rfl
  rw[show ((w.alloc (.cells #[.string n,.int .i64 v] 24)).alloc (.cells #[.string n',.int .i64 v'] 24)).heap.size=w.heap.size+2 by simp] at h
  simpa using h
 have d1:(((w.alloc (.cells #[.string n,.int .i64 v] 24)).alloc (.cells #[.string n',.int .i64 v'] 24)).alloc (.cells #[.int .i64 s,.int .i64 i] 3)).drew.cell? ⟨w.heap.size+2,1,none⟩=some (.int .i64 i):=by
  have h:=range_new ((w.alloc (.cells #[.string n,.int .i64 v] 24)).alloc (.cells #[.string n',.int .i64 v'] 24)) [.int .i64 s,.int .i64 i] 3 1 _ rfl
  rw[show ((w.alloc (.cells #[.string n,.int .i64 v] 24)).alloc (.cells #[.string n',.int .i64 v'] 24)).heap.size=w.heap.size+2 by simp] at h
  simpa using h
 have hS3:∀ob,(fun z:World=>z.cell? ⟨w.heap.size,0,none⟩=some (.string n)/\z.cell? ⟨w.heap.size,1,none⟩=some (.int .i64 v)/\z.cell? ⟨w.heap.size+1,0,none⟩=some (.string n')/\z.cell? ⟨w.heap.size+1,1,none⟩=some (.int .i64 v')) (((w.alloc (.cells #[.string n,.int .i64 v] 24)).alloc (.cells #[.string n',.int .i64 v'] 24)).alloc ob).drew:=fun ob=>by
  have hz:((w.alloc (.cells #[.string n,.int .i64 v] 24)).alloc (.cells #[.string n',.int .i64 v'] 24)).heap.size=w.heap.size+2:=by simp
  obtain⟨q1,q2,q3,q4⟩:=hS
  exact⟨(World.cell?_alloc_lt _ _ _ (by show w.heap.size<_;omega)).trans q1,(World.cell?_alloc_lt _ _ _ (by show w.heap.size<_;omega)).trans q2,(World.cell?_alloc_lt _ _ _ (by show w.heap.size+1<_;omega)).trans q3,(World.cell?_alloc_lt _ _ _ (by show w.heap.size+1<_;omega)).trans q4⟩
 go_region_held3 (fun z=>z.cell? ⟨w.heap.size,0,none⟩=some (.string n)/\z.cell? ⟨w.heap.size,1,none⟩=some (.int .i64 v)/\z.cell? ⟨w.heap.size+1,0,none⟩=some (.string n')/\z.cell? ⟨w.heap.size+1,1,none⟩=some (.int .i64 v')) (first | exact hS | exact hS3 _)
  (first
    | (go_at_call 64;with_reducible refine(k1 _).mono ?_;rintro e w2 ⟨rfl,rfl⟩)
    | (go_at_call 65;with_reducible refine(k2 _).mono ?_;rintro e w3 ⟨rfl,rfl⟩)
    | (go_at_call 63;refine(k3 _ _ d0 d1).mono ?_;rintro e w4 ⟨rfl,rfl⟩))
 go_wp2_with fail
 go_ret
 exact⟨rfl,_,rfl⟩
def kcells (k:Ky):List Value:=[.string k.1,.int .i64 k.2]
theorem zaf (k:Ky):(kcells k).length=2:=rfl
structure Grow (O:Nat) (w:World) (v:Value) (w':World) (v':Value):Prop where
 os:w'.os=w.os
 tape:w'.tape=w.tape
 output:w'.output=w.output
 size:w.heap.size<=w'.heap.size
 block:∀b,b<w.heap.size->b≠O->v.ownBlock≠some b->w'.heap[b]?=w.heap[b]?
 own:v'.ownBlock=v.ownBlock\/∀g,v'.ownBlock=some g->w.heap.size<=g
theorem Grow.refl (O:Nat) (w:World) (v:Value):Grow O w v w v:=⟨rfl,rfl,rfl,Nat.le_refl _,fun _ _ _ _=>rfl,.inl rfl⟩
theorem Grow.trans {O:Nat} {w w' w'':World} {v v' v'':Value} (h:Grow O w v w' v') (h':Grow O w' v' w'' v''):Grow O w v w'' v'':=by
 refine⟨h'.os.trans h.os,h'.tape.trans h.tape,h'.output.trans h.output,Nat.le_trans h.size h'.size,fun b hb hO hv=>?_,?_⟩
 ·rw[h'.block b (Nat.lt_of_lt_of_le hb h.size) hO ?_,h.block b hb hO hv]
  rcases h.own with e | e
  ·rw[e];exact hv
  ·exact fun e'=>by have:=e b e';omega
 ·rcases h'.own with e | e
  ·rw[e];exact h.own
  ·exact .inr fun g hg=>Nat.le_trans h.size (e g hg)
theorem Grow.alloc {O:Nat} {w:World} {v:Value} (ob:Obj):Grow O w v (w.alloc ob) v:=
 ⟨rfl,rfl,rfl,by simp,fun b hb _ _=>Below.heap_alloc _ _ _ hb,.inl rfl⟩
theorem Grow.below {O:Nat} {w w':World} {v v':Value} (h:Grow O w v w' v') (hO:O<w.heap.size) (hv:∀g,v.ownBlock=some g->O<g):Below O w w':=
 ⟨h.os,h.tape,h.output,h.size,fun b hb=>h.block b (by omega) (by omega) (fun e=>by have:=hv b e;omega)⟩
structure Coll (w:World) (O:Nat) (v:Value) (K:List Ky):Prop where
 lt:O<w.heap.size
 box:w.heap[O]?=some (.cells #[v] 29 (0,0))
 row:w.ownsRow (O+1) 24 2 v K.length (K.flatMap kcells)
 empty:K=[]->v=.slice none 0 0
theorem Coll.own {w:World} {O:Nat} {v:Value} {K:List Ky} (h:Coll w O v K):∀g,v.ownBlock=some g->O<g/\g<w.heap.size:=fun g hg=>by
 have:=h.row.lt g hg
 omega
theorem Coll.alloc {w:World} {O:Nat} {v:Value} {K:List Ky} (h:Coll w O v K) (ob:Obj):Coll (w.alloc ob) O v K:=
 ⟨by have:=h.lt;simp;omega,(Below.heap_alloc _ _ _ h.lt).trans h.box,h.row.alloc ob,h.empty⟩
theorem Coll.cell {w:World} {O:Nat} {v:Value} {K:List Ky} (h:Coll w O v K):w.cell? ⟨O,0,none⟩=some v:=by
 rw[cell_of_row _ _ _ _ _ _ h.box];rfl
theorem Coll.frozen {w:World} {O:Nat} {v:Value} {K:List Ky} (h:Coll w O v K) (j:Nat):w.frozen? ⟨O,j,none⟩=false:=frozen_of_row _ _ _ _ _ h.box
def Sd.own (d:Sd):List Ky:=if d.s.ru=20 then [(d.s.en,d.s.ve)] else []
set_option maxRecDepth 100000 in
set_option maxHeartbeats 1000000 in
theorem zfo {w:World} {d:Sd} {O:Nat} {v:Value} {K:List Ky} (hc:Coll w O v K) (hK:K.length<=1048576):
  Calls Tryz.prog 54 #[.agg d.ce20,.pointer (some ⟨O,0,none⟩)] w fun e w'=>e=.returned (.bool true)/\∃v',Coll w' O v' (K++[(d.s.en,d.s.ve)])/\Grow O w v w' v':=by
 have hcw:=hc.alloc (.cells d.ce20 53)
 have hlt:=hc.lt
 have c0:=hcw.cell
 have hg0:Grow O w v (w.alloc (.cells d.ce20 53)) v:=Grow.alloc _
 have b9:(w.alloc (.cells d.ce20 53)).cell? ⟨w.heap.size,17,none⟩=some (.string d.s.en):=by simp
 have b10:(w.alloc (.cells d.ce20 53)).cell? ⟨w.heap.size,18,none⟩=some (.int .i64 d.s.ve):=by simp
 obtain⟨i0,hi,hz0,hz1,hz2⟩:=info_parts (show(Tryz.prog.info? 24).map (fun i=>(i.zero,i.size,i.bytes))=some (some (.agg #[.string ⟨#[]⟩,.int .i64 0]),2,24) by kernel_rfl)
 have hcw':Hid (Coll (w.alloc (.cells d.ce20 53)) O v K):=hcw
 have hg0':=hid_of hg0
 clear hc hcw hg0
 have hnb:((w.alloc (.cells d.ce20 53)).alloc (.cells #[.string d.s.en,.int .i64 d.s.ve] 24)).heap[w.heap.size+1]?=some (.cells #[.string d.s.en,.int .i64 d.s.ve] 24 (0,0)):=by
  have h:=heap_alloc_last (w.alloc (.cells d.ce20 53)) (.cells #[.string d.s.en,.int .i64 d.s.ve] 24 (0,0))
  rwa [show (w.alloc (.cells d.ce20 53)).heap.size=w.heap.size+1 by simp] at h
 have hcx:=hcw'.out.alloc (.cells #[.string d.s.en,.int .i64 d.s.ve] 24)
 have hcx':Hid (Coll ((w.alloc (.cells d.ce20 53)).alloc (.cells #[.string d.s.en,.int .i64 d.s.ve] 24)) O v K):=hcx
 have hgx:Hid (Grow O w v ((w.alloc (.cells d.ce20 53)).alloc (.cells #[.string d.s.en,.int .i64 d.s.ve] 24)) v):=hg0'.out.trans (Grow.alloc _)
 have hnb':=hid_of hnb
 clear hcx hnb
 go_enter Tryz.func54,Tryz.ntmps54
 go_wp2_with (at_builtin;refine wpList_append_lies _ rfl _ _ 29 rfl (O+1) 24 i0 (.agg #[.string ⟨#[]⟩,.int .i64 0]) 2 24 Tryz.underlying29 hi hz0 hz1 hz2 rfl (by decide) v K.length (K.flatMap kcells) rfl hcx'.out.row ⟨w.heap.size+1,0,none⟩ 1 1 [.string d.s.en,.int .i64 d.s.ve] rfl rfl (World.news_of_block hnb'.out) (by intro u hu;simp at hu;rcases hu with rfl | rfl<;>rfl) (by decide) (by unfold maxLen;omega) (by omega) (by simp;omega) (w.heap.size+2) (by simp) ?_
              intro g cap w9 hown9 hgrow9 hat9 hlt9
              have hne9:v.ownBlock≠some O:=fun e=>by have:=hcx'.out.own O e;omega
              have c9:w9.cell? ⟨O,0,none⟩=some v:=hgrow9.cell hcx'.out.cell (fun e=>hne9 e.symm)
              have f9:w9.frozen? ⟨O,0,none⟩=false:=by
               have hO2:O<((w.alloc (.cells d.ce20 53)).alloc (.cells #[.string d.s.en,.int .i64 d.s.ve] 24)).heap.size:=hcx'.out.lt
               rw[World.grownBy.frozen_far hgrow9 _ hO2 (fun e=>hne9 e.symm)]
               exact hcx'.out.frozen 0)
 go_ret
 refine⟨rfl,.slice (some ⟨g,0,none⟩) (K.length+1) cap,?_,?_⟩
 ·have hO9:O<w9.heap.size:=Nat.lt_of_lt_of_le hcx'.out.lt hgrow9.size
  have hb9:w9.heap[O]?=some (.cells #[v] 29 (0,0)):=(hgrow9.block O hcx'.out.lt (fun e=>hne9 e.symm)).trans hcx'.out.box
  refine⟨by simp;exact hO9,?_,?_,fun e=>by simp at e⟩
  ·have h:=zab (cs:=[v]) hb9 (j:=0) (u:=.slice (some ⟨g,0,none⟩) (K.length+1) cap)
   simpa using h
  ·have h:=zak hown9 (a:=⟨O,0,none⟩) (u:=.slice (some ⟨g,0,none⟩) (K.length+1) cap) (fun e=>by have:=(hown9.lt O e).1;omega)
   simpa [kcells] using h
 ·refine hgx.out.trans ⟨hgrow9.os,hgrow9.tape,hgrow9.output,by simpa using hgrow9.size,fun b hb hbO hbv=>?_,?_⟩
  ·rw[Below.heap_setCell _ _ _ _ (by exact hbO)]
   exact hgrow9.block b hb (fun e=>hbv e.symm)
  ·rcases hat9 with e | e
   ·exact .inl e.symm
   ·exact .inr fun g' hg'=>by
     simp only[Value.ownBlock,Option.some.injEq] at hg'
     have hz:((w.alloc (.cells d.ce20 53)).alloc (.cells #[.string d.s.en,.int .i64 d.s.ve] 24)).heap.size=w.heap.size+2:=by simp
     omega
set_option maxRecDepth 100000 in
theorem visit_ok {w:World} {d:Sd} {O:Nat} {v:Value} {K:List Ky} (hc:Coll w O v K) (hK:K.length<=1048576):
  Calls Tryz.prog 54 #[.agg d.ce,.pointer (some ⟨O,0,none⟩)] w fun e w'=>e=.returned (.bool true)/\∃v',Coll w' O v' (K++d.own)/\Grow O w v w' v':=by
 unfold Sd.own
 by_cases h20:d.s.ru=20
 ·unfold Sd.ce
  rw[if_pos h20,h20]
  exact zfo hc hK
 ·rw[if_neg h20]
  have hcw:=hc.alloc (.cells d.ce 53)
  have hlt:=hc.lt
  have c0:=hcw.cell
  have b0:(w.alloc (.cells d.ce 53)).cell? ⟨w.heap.size,0,none⟩=some (.int .i64 d.s.ru):=by simp
  have hg0:Grow O w v (w.alloc (.cells d.ce 53)) v:=Grow.alloc _
  go_enter Tryz.func54,Tryz.ntmps54
  go_wp2_with fail
  go_ret
  exact⟨rfl,v,by simpa using hcw,hg0⟩
def St.keys:St->List Ky
 | .non=>[]
 | .mk s _ _ _ _ _ _ _ n ki=>(if s.ru=20 then [(s.en,s.ve)] else [])++(List.range n).flatMap fun i=>(ki i).keys
theorem zb5 (kk:Nat->List Ky) {k n:Nat} (h:k<n):((List.range (k+1)).flatMap kk).length<=((List.range n).flatMap kk).length:=by
 obtain⟨m,rfl⟩:∃m,n=k+1+m:=⟨n - (k+1),by omega⟩
 generalize k+1=j
 rw[List.range_add,List.flatMap_append,List.length_append]
 omega
set_option maxRecDepth 100000 in
set_option maxHeartbeats 2000000 in
theorem zdb {w:World} {d:Sd} {O:Nat} {v:Value} {K:List Ky} (ds:Nat->Sd) (kk:Nat->List Ky) (hc:Coll w O v K) (hK:K.length+(d.own++(List.range d.kin).flatMap kk).length<=1048576) (hkin:d.kin<=1099511627776)
  (hk:d.kin=0\/∃b o,d.kiq=some ⟨b,o,none⟩/\b<O/\∀i,i<d.kin->w.rangeAt b (o+i*21) (ds i).cells)
  (hR:∀i,i<d.kin->∀(z:World) (v':Value) (K':List Ky),Below O w z->Coll z O v' K'->K'.length+(kk i).length<=1048576->Calls Tryz.prog 53 #[.agg (ds i).cells.toArray,.func (.func 54) #[] #[.pointer (some ⟨O,0,none⟩)]] z fun e w'=>e=.returned (.bool true)/\∃v'',Coll w' O v'' (K'++kk i)/\Grow O z v' w' v''):
  Calls Tryz.prog 53 #[.agg d.ce,.func (.func 54) #[] #[.pointer (some ⟨O,0,none⟩)]] w fun e w'=>e=.returned (.bool true)/\∃v',Coll w' O v' (K++(d.own++(List.range d.kin).flatMap kk))/\Grow O w v w' v':=by
 have hk':Hid (d.kin=0\/∃b o,d.kiq=some ⟨b,o,none⟩/\b<O/\∀i,i<d.kin->w.rangeAt b (o+i*21) (ds i).cells):=hk
 clear hk
 obtain⟨dd,hu,hd⟩:=st_row
 have hHu:Hid (Tryz.prog.underlying 53=some dd):=hu
 clear hu
 have hO:=hc.lt
 have hvo:=hc.own
 have hg0:Grow O w v (w.alloc (.cells d.ce 53)) v:=Grow.alloc _
 have hcw:=hc.alloc (.cells d.ce 53)
 have D0:Hid ((w.alloc (.cells d.ce 53)).rangeAt (w.heap.size) 0 d.cells):=range_new w d.cells 53
 have hz0:(w.alloc (.cells d.ce 53)).heap.size=w.heap.size+1:=by simp
 have hKl:K.length<=1048576:=by omega
 have hV:Calls Tryz.prog 54 #[.agg d.cells.toArray,.pointer (some ⟨O,0,none⟩)] (w.alloc (.cells d.ce 53)) fun e w'=>e=.returned (.bool true)/\∃v',Coll w' O v' (K++d.own)/\Grow O (w.alloc (.cells d.ce 53)) v w' v':=visit_ok hcw hKl
 have hcw':Hid (Coll (w.alloc (.cells d.ce 53)) O v K):=hcw
 clear hc hcw
 go_enter Tryz.func53,Tryz.ntmps53
 go_wp2_with (first
  | (with_reducible refine wpList_load_mid (op:=⟨some 8,_,_,_,_,_⟩) ?_ 53 (.tmp 2) ?_ (w.heap.size) (0) ?_ d.cells dd ?_ hHu.out hd ?_ ?_
     rotate_left 1
     ·with_reducible rfl
     ·kernel_rfl
     ·exact D0.out
     ·(first | exact st_size | (rw[lx];exact st_size))
     rotate_left 1
     ·rfl)
  | (go_at_call 54;refine hV.mono ?_;rintro e w2 ⟨rfl,v2,hc2,hg2⟩
     have D2:Hid (w2.rangeAt w.heap.size 0 d.cells):=fun j u hu=>(World.cell?_of_block (hg2.block _ (by show w.heap.size<_;omega) (by show w.heap.size≠O;omega) (fun e=>by have:=(hvo _ e).2;exact absurd this (by show ¬w.heap.size<w.heap.size;omega)))).trans (D0.out j u hu)
     have k20:w2.cell? ⟨w.heap.size,20,none⟩=some (.slice d.kiq d.kin d.kic):=by have h:=D2.out 20 _ rfl;simpa using h
     have W2:Grow O w v w2 v2:=hg0.trans hg2))
 have hc2':=hc2
 clear hcw' hV hg2
 go_loopw [14] (fun i wr=>∃k:Nat,k<=d.kin/\i=.int .i64 k/\∃v',Coll wr O v' (K++(d.own++(List.range k).flatMap kk))/\Grow O w v wr v') (fun i _=>d.kin - (intOf i).toNat)
 case atStart=>exact⟨0,Nat.zero_le _,rfl,v2,by simpa using hc2,W2⟩
 case round=>
  obtain⟨k,hk,rfl,vk,hck,hgk⟩:=hrel
  by_cases hlt:k<d.kin
  ·have hlt':(k:Int)<(d.kin:Int):=by omega
   have hRk:=hR k hlt
   rcases hk'.out with h0 | ⟨b,o,hq,hbb,hcx⟩
   ·omega
   have hbel:=hgk.below hO (fun g hg=>(hvo g hg).1)
   have hx:=rangeAt_below (hcx k hlt) hbel hbb
   have lx:(ds k).cells.length=21:=rfl
   have ox':Hid ((ds k).cells.toArray.all (·.oneCell')=true):=(ds k).one
   clear hcx
   generalize (ds k).cells=cx at*
   rw[hq]
   have X1:Hid ((wr.alloc (.cells cx.toArray 53)).rangeAt wr.heap.size 0 cx):=range_new _ _ _
   have hKk:(K++(d.own++(List.range k).flatMap kk)).length+(kk k).length<=1048576:=by
    have hs:((List.range (k+1)).flatMap kk).length<=((List.range d.kin).flatMap kk).length:=by
     exact zb5 kk hlt
    rw[List.range_succ,List.flatMap_append,List.length_append] at hs
    simp only[List.flatMap_cons,List.flatMap_nil,List.append_nil] at hs
    simp only[List.length_append] at hK ⊢
    omega
   have hcall:=hRk (wr.alloc (.cells cx.toArray 53)) vk _ (hbel.trans (by refine Below.alloc (Below.refl _ _) ?_ _;exact Nat.le_of_lt hck.lt)) (hck.alloc _) hKk
   clear hRk
   go_wp2_with (first
    | (with_reducible refine wpList_load_mid (op:=⟨some 17,_,_,_,_,_⟩) ?_ 53 (.tmp 16) ?_ (b) (o+k*21) ?_ cx dd ?_ hHu.out hd ?_ ?_
       rotate_left 1
       ·with_reducible rfl
       ·kernel_rfl
       ·exact hx
       ·(first | exact st_size | (rw[lx];exact st_size))
       rotate_left 1
       ·rfl)
    | (with_reducible refine wpList_store_new ?_ 53 (.tmp 6) (.tmp 17) ?_ cx.toArray wr.heap.size rfl ?_ ?_ ?_ ?_ ox'.out ?_
       rotate_left 1
       ·with_reducible rfl
       ·rfl
       ·rfl
       ·simp[lx]
       ·(simp only[List.size_toArray,lx];exact st_size)
       rotate_left 1
       ·rfl)
    | (with_reducible refine wpList_load_mid (op:=⟨some 18,_,_,_,_,_⟩) ?_ 53 (.tmp 6) ?_ (wr.heap.size) (0) ?_ cx dd ?_ hHu.out hd ?_ ?_
       rotate_left 1
       ·with_reducible rfl
       ·kernel_rfl
       ·exact X1.out
       ·(first | exact st_size | (rw[lx];exact st_size))
       rotate_left 1
       ·rfl)
    | (go_at_call 53;refine hcall.mono ?_;rintro e w5 ⟨rfl,v5,hc5,hg5⟩))
   go_roundw
   case rel=>
    refine⟨k+1,by omega,by go_num,v5,?_,hgk.trans ((Grow.alloc _).trans hg5)⟩
    rw[List.range_succ,List.flatMap_append]
    simpa using hc5
   case measure=>simp[intOf];omega
  ·have hkk:k=d.kin:=by omega
   subst hkk
   go_wp2_with fail
   go_ret
   exact⟨rfl,vk,hck,hgk⟩
theorem walk_ok:∀(X:St) (d:Sd) (w:World) (O:Nat) (v:Value) (K:List Ky),StA w (·<O) X d->Coll w O v K->K.length+X.keys.length<=1048576->
  Calls Tryz.prog 53 #[d.val,.func (.func 54) #[] #[.pointer (some ⟨O,0,none⟩)]] w fun e w'=>e=.returned (.bool true)/\∃v',Coll w' O v' (K++X.keys)/\Grow O w v w' v':=by
 intro X
 induction X with
 | non=>exact fun d w O v K h=>h.elim
 | mk s nu de x pn ps bn bs n ki ih=>
  intro d w O v K h hc hK
  unfold StA at h
  obtain⟨⟨rfl,rfl,rfl,rfl⟩,_,_,_,_,_,_,_,h9,h10⟩:=h
  rcases h10 with h0 | ⟨b,o,e,hlt,ds,hds⟩
  ·exact zdb (fun _=>d) (fun i=>(ki i).keys) hc hK h9 (.inl h0) (fun i hi=>by omega)
  ·refine zdb ds (fun i=>(ki i).keys) hc hK h9 (.inr ⟨b,o,e,hlt,fun i hi=>(hds i hi).1⟩) (fun i hi z v' K' hz hc' hK'=>?_)
   exact ih i (ds i) z O v' K' ((hds i hi).2.keep (zah hz) (fun b h=>h)) hc' hK'
set_option maxRecDepth 100000 in
theorem zfp (a b:Ky) (w:World):Calls Tryz.prog 46 #[.agg #[.string a.1,.int .i64 a.2],.agg #[.string b.1,.int .i64 b.2]] w fun e w'=>e=.returned (.bool (decide (ltK a b)))/\Below w.heap.size w w':=by
 have h2:∀o o2,Below w.heap.size w ((w.alloc o).alloc o2):=fun o o2=>below_two w o o2
 by_cases h1:a.1.toList<b.1.toList
 ·have hl:Op.bytesLess a.1.toList b.1.toList=true:=by rw[bytesLess_eq];exact decide_eq_true h1
  rw[show decide (ltK a b)=true from decide_eq_true (.inl h1)]
  clear h1
  go_enter Tryz.func46,Tryz.ntmps46
  go_wp2_with fail
  go_ret
  exact⟨rfl,h2 _ _⟩
 ·have hl:Op.bytesLess a.1.toList b.1.toList=false:=by rw[bytesLess_eq];exact decide_eq_false h1
  by_cases h3:a.1.toList=b.1.toList
  ·by_cases h4:a.2<b.2
   ·rw[show decide (ltK a b)=true from decide_eq_true (.inr ⟨h3,h4⟩)]
    have he:(a.1.toList==b.1.toList)=true:=by simpa using h3
    clear h1 h3
    go_enter Tryz.func46,Tryz.ntmps46
    go_wp2_with fail
    go_ret
    exact⟨rfl,h2 _ _⟩
   ·rw[show decide (ltK a b)=false from decide_eq_false (by rintro(h | ⟨_,h⟩)<;>contradiction)]
    have he:(a.1.toList==b.1.toList)=true:=by simpa using h3
    clear h1 h3
    go_enter Tryz.func46,Tryz.ntmps46
    go_wp2_with fail
    go_ret
    exact⟨rfl,h2 _ _⟩
  ·rw[show decide (ltK a b)=false from decide_eq_false (by rintro(h | ⟨h,_⟩)<;>contradiction)]
   have he:(a.1.toList==b.1.toList)=false:=by simpa using h3
   clear h1
   go_enter Tryz.func46,Tryz.ntmps46
   go_wp2_with fail
   go_ret
   exact⟨rfl,h2 _ _⟩
def KsOk (w:World) (q:Option Addr) (n c:Nat) (L:List Ky):Prop:=
 L.length=n/\n<=c/\c<=maxLen/\((q=none/\n=0/\c=0)\/∃b o,q=some ⟨b,o,none⟩/\b<w.heap.size/\∀i k,L[i]?=some k->w.rangeAt b (o+i*2) (kcells k))
theorem KsOk.below {w w':World} (hb:Below w.heap.size w w') {q:Option Addr} {n c:Nat} {L:List Ky} (h:KsOk w q n c L):KsOk w' q n c L:=by
 refine⟨h.1,h.2.1,h.2.2.1,h.2.2.2.imp id ?_⟩
 rintro⟨b,o,e,hlt,hc⟩
 exact⟨b,o,e,Nat.lt_of_lt_of_le hlt hb.size,fun i k hk=>rangeAt_below (hc i k hk) hb hlt⟩
theorem zax (k:Ky):∀(L:List Ky) (j:Nat),(∀x∈L.take j,ltK x k)->(∀a,L[j]?=some a->¬ltK a k)->j<=L.length->
  insK k L=if L[j]?=some k then L else L.take j++k::L.drop j
 | [],j,_,_,hj=>by
  have:j=0:=by simpa using hj
  subst this
  simp[insK]
 | a::L,0,_,h2,_=>by
  have h:=h2 a rfl
  unfold insK
  rw[if_neg h]
  simp
 | a::L,j+1,h1,h2,hj=>by
  have ha:ltK a k:=h1 a (by simp)
  unfold insK
  rw[if_pos ha,zax k L j (fun x hx=>h1 x (by simp[hx])) (fun b hb=>h2 b (by simpa using hb)) (by simpa using hj)]
  simp only[List.getElem?_cons_succ,List.take_succ_cons,List.drop_succ_cons,List.cons_append]
  split<;>rfl
theorem KsOk.of_row {w:World} {base:Nat} {v:Value} {L:List Ky} (h:w.ownsRow base 24 2 v L.length (L.flatMap kcells)) (h0:0<L.length):∃g cap,v=.slice (some ⟨g,0,none⟩) L.length cap/\base<=g/\g<w.heap.size/\KsOk w (some ⟨g,0,none⟩) L.length cap L:=by
 obtain⟨g,cap,rfl,h1,h2⟩:=h.form h0
 refine⟨g,cap,rfl,h1,h2,rfl,?_,?_,.inr ⟨g,0,rfl,h2,fun i k hk=>zam (s:=2) zaf h hk⟩⟩
 ·rcases h.2 with⟨hh,_⟩ | ⟨_,_,_,hh,_,_,hle,_⟩
  ·cases hh
  ·cases hh;exact hle
 ·rcases h.2 with⟨hh,_⟩ | ⟨_,_,_,hh,_,_,_,hle,_⟩
  ·cases hh
  ·cases hh;exact hle
theorem zas {α:Type} {s:Nat} {f:α->List Value} (hs:∀a,(f a).length=s):∀(L:List α),(L.flatMap f).length=L.length*s
 | []=>by simp
 | a::L=>by rw[List.flatMap_cons,List.length_append,hs,zas hs L,List.length_cons,Nat.add_mul];omega
theorem zbk {w:World} {b o:Nat} {L:List Ky} (h:∀i k,L[i]?=some k->w.rangeAt b (o+i*2) (kcells k)):
  ∀j u,(L.flatMap kcells)[j]?=some u->w.cell? ((⟨b,o,none⟩:Addr).add j)=some u:=by
 intro j u hu
 have hl:j<L.length*2:=by
  have:=(List.getElem?_eq_some_iff.1 hu).1
  rwa [zas (s:=2) zaf] at this
 have hq:j / 2<L.length:=by omega
 have he:j=j / 2*2+j % 2:=by omega
 rw[he,zcv (s:=2) zaf L (j / 2) (j % 2) (L[j / 2]) (List.getElem?_eq_getElem hq) (by omega)] at hu
 rw[Addr.add_mid,he,<-Nat.add_assoc]
 exact h (j / 2) _ (List.getElem?_eq_getElem hq) (j % 2) u hu
theorem zaq (L:List Ky):∀u∈L.flatMap kcells,u.oneCell'=true:=by
 intro u hu
 obtain⟨x,_,hx⟩:=List.mem_flatMap.1 hu
 simp only[kcells,List.mem_cons,List.not_mem_nil,or_false] at hx
 rcases hx with rfl | rfl<;>rfl
set_option maxRecDepth 100000 in
set_option maxHeartbeats 1000000 in
theorem zet (k:Ky) (w:World):Calls Tryz.prog 30 #[.slice none 0 0,.agg #[.string k.1,.int .i64 k.2]] w fun e w'=>∃q c,e=.returned (.slice q 1 c)/\KsOk w' q 1 c [k]/\Below w.heap.size w w':=by
 obtain⟨i0,hi,hz0,hz1,hz2⟩:=info_parts (show(Tryz.prog.info? 24).map (fun i=>(i.zero,i.size,i.bytes))=some (some (.agg #[.string ⟨#[]⟩,.int .i64 0]),2,24) by kernel_rfl)
 obtain⟨n,v⟩:=k
 go_enter Tryz.func30,Tryz.ntmps30
 go_wp2_with fail
 refine wp_loop_once ?_
 go_wp2_with fail
 go_quiet (fail)
 go_wp2_with fail
 go_quiet (fail)
 generalize hW:World.drewN (World.drewN (World.alloc w _) _) _=W at*
 have hWb:Below w.heap.size w W:=by rw[<-hW];exact below_drewN (below_drewN (zaa w _) _) _
 have hWs:W.heap.size=w.heap.size+1:=by rw[<-hW];simp
 have c0:∀ob,(W.alloc ob).cell? ⟨w.heap.size,0,none⟩=some (.string n):=fun ob=>by
  rw[World.cell?_alloc_lt _ _ _ (by show w.heap.size<_;omega),<-hW];simp
 have c1:∀ob,(W.alloc ob).cell? ⟨w.heap.size,1,none⟩=some (.int .i64 v):=fun ob=>by
  rw[World.cell?_alloc_lt _ _ _ (by show w.heap.size<_;omega),<-hW];simp
 clear hW
 have e0:Hid ((W.alloc (.cells #[] 24)).ownsRow (w.heap.size+1) 24 2 (.slice (some ⟨w.heap.size+1,0,none⟩) 0 0) 0 []):=by
  have h:=zay W 24 2
  rwa [hWs] at h
 have hnb:((W.alloc (.cells #[] 24)).alloc (.cells #[.string n,.int .i64 v] 24)).heap[w.heap.size+2]?=some (.cells #[.string n,.int .i64 v] 24 (0,0)):=by
  have h:=heap_alloc_last (W.alloc (.cells #[] 24)) (.cells #[.string n,.int .i64 v] 24 (0,0))
  rwa [show (W.alloc (.cells #[] 24)).heap.size=w.heap.size+2 by simp;omega] at h
 have hnb':=hid_of hnb
 clear hnb
 go_wp2_with (first
  | (at_builtin;refine wpList_append_own_none rfl _ _ 29 rfl (w.heap.size+1) 24 i0 2 Tryz.underlying29 hi (.slice (some ⟨w.heap.size+1,0,none⟩) 0 0) 0 [] rfl e0.out rfl ?_)
  | (at_builtin;refine wpList_append_lies _ rfl _ _ 29 rfl (w.heap.size+1) 24 i0 (.agg #[.string ⟨#[]⟩,.int .i64 0]) 2 24 Tryz.underlying29 hi hz0 hz1 hz2 rfl (by decide) (.slice (some ⟨w.heap.size+1,0,none⟩) 0 0) 0 [] rfl (e0.out.alloc _) ⟨w.heap.size+2,0,none⟩ 1 1 [.string n,.int .i64 v] rfl rfl (World.news_of_block hnb'.out) (by intro u hu;simp at hu;rcases hu with rfl | rfl<;>rfl) (by decide) (by unfold maxLen;omega) (by omega) (by simp;omega) (w.heap.size+3) (by simp;omega) ?_
     intro g cap w9 hown9 hgrow9 hat9 hlt9)
  | (at_builtin;refine wpList_append_own_none rfl _ _ 29 rfl (w.heap.size+1) 24 i0 2 Tryz.underlying29 hi (.slice (some ⟨g,0,none⟩) (0+1) cap) (0+1) _ rfl hown9 rfl ?_))
 go_ret
 have hown:w9.ownsRow (w.heap.size+1) 24 2 (.slice (some ⟨g,0,none⟩) 1 cap) [((n,v):Ky)].length ([((n,v):Ky)].flatMap kcells):=by simpa [kcells] using hown9
 obtain⟨g',cap',e,h1,h2,hks⟩:=KsOk.of_row hown (by simp)
 simp at e
 obtain⟨rfl,rfl⟩:=e
 refine⟨_,cap,rfl,hks,?_⟩
 exact(((hWb.alloc (by omega) _).alloc (by simp;omega) _).grown hgrow9 (by simp;omega) (fun g' hg'=>by simp only[Value.ownBlock,Option.some.injEq] at hg';omega))
end Go.Proofs.YtfhjhnofkaiceaaGreatDoor
