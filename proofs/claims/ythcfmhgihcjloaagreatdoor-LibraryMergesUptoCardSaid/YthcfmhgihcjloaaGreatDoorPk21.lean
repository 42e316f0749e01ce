import Derived.Defers
import Derived.Recover
import Derived.WalkLawsBesides
import Derived.Test.YthcfmhgihcjloaaGreatDoorPk20
namespace Go.Proofs.YthcfmhgihcjloaaGreatDoor
open Go Go.RowKit Tryz
set_option maxRecDepth 100000
set_option maxHeartbeats 16000000
variable {w:World} {p1:Addr} {xs:List Int} {q1:Option Addr} {l1 c1 m1 e1:Nat}
theorem Nt (p q:Addr) (w:World):
  CallsD prog 137 #[.pointer<|some p,.pointer<|some q] .returning w λe b w'=>e=.returned (.tuple #[])/\b=.returning/\w'=w:=by
 refine callsD_of_wpS func137 rfl λa cs hu=>?_;apply wpS_seq;apply wpS_region;simp[wpOpsS,go_sem,recoverD,hu,ntmps137,Exit.thenS];refine wpS_of_wp ?_;have d:∀w:World,(binOp BinOp.eql 20 .nilIface .nilIface).run prog w=.ok (.bool true) w:=λ_=>by kernel_rfl
 go_wp2_with fail;cases a;simp_all [bodyPostS,results]
theorem Nu (B E:Nat) (y:Int) (i:List PanicEntry) (w:World) (b0:Bool) (a:Int) (h:B≠E) (b:w.1[B]?=some (.cells #[.bool b0] 4 (0,0))) (d:w.1[E]?=some (.cells #[.int .i64 a] 23 (0,0))):
  CallsD prog 137 #[.pointer<|some ⟨B,0,none⟩,.pointer<|some ⟨E,0,none⟩] (.panicking ({ v:=.iface 189<|.agg #[.int .i64 y],recovered:=false }::i)) w λe o w'=>
   e=.returned (.tuple #[])/\o=.panicking ({ v:=.iface 189<|.agg #[.int .i64 y],recovered:=true }::i)/\w'.cell? ⟨B,0,none⟩=some (.bool false)/\w'.cell? ⟨E,0,none⟩=some (.int .i64 y)/\∀N,N<=B->N<=E->Below N w w':=by
 refine callsD_of_wpS func137 rfl λq cs hu=>?_;apply wpS_seq;apply wpS_region;simp[wpOpsS,go_sem,recoverD,hu,ntmps137,Exit.thenS];refine wpS_of_wp ?_;simp only[nO,nP,pB,nW,mL,mZ,List.setIfInBounds_toArray,List.set_cons_zero,sr];have A:∀w:World,(binOp BinOp.eql 20 (.iface 189<|.agg #[.int .i64 y]) .nilIface).run prog w=.ok (.bool false) w:=λ_=>by kernel_rfl
 have C:∀w:World,(Instr.typeAssert (.iface 189<|.agg #[.int .i64 y]) 20 189 true).run prog w=.ok (.tuple #[.agg #[.int .i64 y],.bool true]) w:=λ_=>by kernel_rfl
 have m:w.cell? ⟨B,0,none⟩=some (.bool b0):=by simp[World.cell?,b]
 have n:w.cell? ⟨E,0,none⟩=some (.int .i64 a):=by simp[World.cell?,d]
 have s:w.frozen? ⟨B,0,none⟩=false:=by simp[World.frozen?,b]
 have t:w.frozen? ⟨E,0,none⟩=false:=by simp[World.frozen?,d]
 have f:B<w.1.size:=(kG.1 b).1;have g:E<w.1.size:=(kG.1 d).1;have nB:w.1.size≠B:=by omega
 have F:w.1.size≠E:=by omega
 have D:B≠w.1.size:=by omega
 have G:E≠w.1.size:=by omega
 have x:(w.alloc<|.cells #[.int .i64 y] 189).cell? ⟨B,0,none⟩=some (.bool b0):=((ml<|mW _ _ _ f)).trans m;have z:(w.alloc<|.cells #[.int .i64 y] 189).cell? ⟨E,0,none⟩=some (.int .i64 a):=((ml<|mW _ _ _ g)).trans n;have k:(w.alloc<|.cells #[.int .i64 y] 189).1[B]?=some (.cells #[.bool b0] 4 (0,0)):=(mW _ _ _ f).trans b;have l:(w.alloc<|.cells #[.int .i64 y] 189).1[E]?=some (.cells #[.int .i64 a] 23 (0,0)):=(mW _ _ _ g).trans d;have f2:(w.alloc<|.cells #[.int .i64 y] 189).frozen? ⟨B,0,none⟩=false:=by simp[World.frozen?,k]
 have r:(w.alloc<|.cells #[.int .i64 y] 189).frozen? ⟨E,0,none⟩=false:=by simp[World.frozen?,l]
 go_wp2_with fail
 go_region
 go_wp2_with fail;refine⟨rfl,_,rfl,_,results_none rfl _ _ _,rfl,rfl,?_,?_,λN h1 h2=>?_⟩
 .have h1:=zF (cs:=[.bool b0]) b (j:=0) (u:=.bool false);have h2:=(mr (w.setCell ⟨B,0,none⟩<|.bool false) ⟨E,0,none⟩ (.int .i64 y) B<|by exact h).trans h1;have h3:=(mW ((w.setCell ⟨B,0,none⟩<|.bool false).setCell ⟨E,0,none⟩<|.int .i64 y) (.cells #[.int .i64 y] 189) B<|by simp;exact f).trans h2;have h4:((((w.setCell ⟨B,0,none⟩<|.bool false).setCell ⟨E,0,none⟩<|.int .i64 y).alloc<|.cells #[.int .i64 y] 189).drew).1[B]?=_:=h3;simp[World.cell?,h4]
 .have h1:=(mr w ⟨B,0,none⟩ (.bool false) E<|by exact λe=>h e.symm).trans d;have h2:=zF (cs:=[.int .i64 a]) h1 (j:=0) (u:=.int .i64 y);have h3:=(mW ((w.setCell ⟨B,0,none⟩<|.bool false).setCell ⟨E,0,none⟩<|.int .i64 y) (.cells #[.int .i64 y] 189) E<|by simp;exact g).trans h2;have h4:((((w.setCell ⟨B,0,none⟩<|.bool false).setCell ⟨E,0,none⟩<|.int .i64 y).alloc<|.cells #[.int .i64 y] 189).drew).1[E]?=_:=h3;simp[World.cell?,h4]
 exact(((((kE N w).setCell (p:=⟨B,0,none⟩) h1 _).setCell (p:=⟨E,0,none⟩) h2 _).alloc (by simp;omega) _)).drew
theorem SO {b:Bool}
  (h:CA w 128 #[.pointer<|some p1] (.bool b)):
  bF w 96 #[.func (.func 128) #[] #[.pointer<|some p1]] (.tuple #[.bool b,.int .i64 0]):=by
 have t:∀(fn:Fn) (first cap:Array Value) (w:World),(Instr.makeFunc fn first cap).run prog w=.ok (.func fn first cap) w:=λ_ _ _ _=>rfl;have i:Below w.1.size w ((w.alloc<|.cells #[.bool false] 4).alloc<|.cells #[.int .i64 0] 23):=dF w _ _;have x:((w.alloc<|.cells #[.bool false] 4).alloc<|.cells #[.int .i64 0] 23).1.size=w.1.size+2:=by simp
 have k:((w.alloc<|.cells #[.bool false] 4).alloc<|.cells #[.int .i64 0] 23).1[w.1.size]?=some (.cells #[.bool false] 4 (0,0)):=by have h1:=lK w<|.cells #[.bool false] 4 (0,0);exact(mW _ _ _<|by simp).trans h1
 have l:((w.alloc<|.cells #[.bool false] 4).alloc<|.cells #[.int .i64 0] 23).1[w.1.size+1]?=some (.cells #[.int .i64 0] 23 (0,0)):=by
  have h1:=lK (w.alloc<|.cells #[.bool false] 4)<|.cells #[.int .i64 0] 23 (0,0)
  rwa [show (w.alloc<|.cells #[.bool false] 4).1.size=w.1.size+1 by simp] at h1
 have n:=h _ i
 go_enter_defers func96,ntmps96
 go_wp2_with (go_at_call 128;refine jR n λw5 g=>?_
              have a:w5.1[w.1.size]?=some (.cells #[.bool false] 4 (0,0)):=(g.block _<|by omega).trans k;have d:w5.1[w.1.size+1]?=some (.cells #[.int .i64 0] 23 (0,0)):=(g.block _<|by omega).trans l;have o:w5.cell? ⟨w.1.size,0,none⟩=some (.bool false):=(by simp[World.cell?,a]);have q:w5.cell? ⟨w.1.size+1,0,none⟩=some (.int .i64 0):=(by simp[World.cell?,d]);have r:w5.frozen? ⟨w.1.size,0,none⟩=false:=by simp[World.frozen?,a]
              have s:w5.frozen? ⟨w.1.size+1,0,none⟩=false:=by simp[World.frozen?,d])
 have q1:((w5.setCell ⟨w.1.size,0,none⟩<|.bool b).setCell ⟨w.1.size+1,0,none⟩<|.int .i64 0).1[w.1.size]?=some (.cells #[.bool b] 4 (0,0)):=(mr _ ⟨w.1.size+1,0,none⟩ _ w.1.size<|by show w.1.size≠w.1.size+1;omega).trans<|zF (cs:=[.bool false]) a (j:=0) (u:=.bool b);have q2:((w5.setCell ⟨w.1.size,0,none⟩<|.bool b).setCell ⟨w.1.size+1,0,none⟩<|.int .i64 0).1[w.1.size+1]?=some (.cells #[.int .i64 0] 23 (0,0)):=zF (cs:=[.int .i64 0]) ((mr w5 ⟨w.1.size,0,none⟩ (.bool b) (w.1.size+1)<|by show w.1.size+1≠w.1.size;omega).trans d) (j:=0) (u:=.int .i64 0);have m:Below w.1.size w ((w5.setCell ⟨w.1.size,0,none⟩<|.bool b).setCell ⟨w.1.size+1,0,none⟩<|.int .i64 0):=((cV i g).setCell (p:=⟨w.1.size,0,none⟩) (kF _) _).setCell (p:=⟨w.1.size+1,0,none⟩) (by exact rt _) _;generalize ((w5.setCell ⟨w.1.size,0,none⟩<|.bool b).setCell ⟨w.1.size+1,0,none⟩<|.int .i64 0)=W at*;have c1:W.cell? ⟨w.1.size,0,none⟩=some (.bool b):=by simp[World.cell?,q1]
 have c2:W.cell? ⟨w.1.size+1,0,none⟩=some (.int .i64 0):=by simp[World.cell?,q2]
 refine sX (f:=137) (args:=#[.pointer<|some ⟨w.1.size,0,none⟩,.pointer<|some ⟨w.1.size+1,0,none⟩]) (by simp) (by simp[go_sem]) ?_;refine(Nt ⟨w.1.size,0,none⟩ ⟨w.1.size+1,0,none⟩ _).mono ?_;rintro e y z ⟨rfl,rfl,rfl⟩;refine⟨.tuple #[.bool b,.int .i64 0],?_,rfl,m⟩;simp[results,go_sem,c1,c2]
theorem SP {y:Int}
  (h:∀z,Below w.1.size w z->cN 128 #[.pointer<|some p1] z λe w'=>e=.panicked [{ v:=.iface 189<|.agg #[.int .i64 y],recovered:=false }]/\Below z.1.size z w'):
  bF w 96 #[.func (.func 128) #[] #[.pointer<|some p1]] (.tuple #[.bool false,.int .i64 y]):=by
 have n:∀(fn:Fn) (first cap:Array Value) (w:World),(Instr.makeFunc fn first cap).run prog w=.ok (.func fn first cap) w:=λ_ _ _ _=>rfl;have b:Below w.1.size w ((w.alloc<|.cells #[.bool false] 4).alloc<|.cells #[.int .i64 0] 23):=dF w _ _;have o:((w.alloc<|.cells #[.bool false] 4).alloc<|.cells #[.int .i64 0] 23).1.size=w.1.size+2:=by simp
 have i:((w.alloc<|.cells #[.bool false] 4).alloc<|.cells #[.int .i64 0] 23).1[w.1.size]?=some (.cells #[.bool false] 4 (0,0)):=by have h1:=lK w<|.cells #[.bool false] 4 (0,0);exact(mW _ _ _<|by simp).trans h1
 have j:((w.alloc<|.cells #[.bool false] 4).alloc<|.cells #[.int .i64 0] 23).1[w.1.size+1]?=some (.cells #[.int .i64 0] 23 (0,0)):=by
  have h1:=lK (w.alloc<|.cells #[.bool false] 4)<|.cells #[.int .i64 0] 23 (0,0)
  rwa [show (w.alloc<|.cells #[.bool false] 4).1.size=w.1.size+1 by simp] at h1
 have m:=h _ b
 go_enter_defers func96,ntmps96
 go_wp2_with (go_at_call 128;refine m.mono ?_;rintro _ w5 ⟨rfl,a⟩);have d:w5.1[w.1.size]?=some (.cells #[.bool false] 4 (0,0)):=(a.block _<|by omega).trans i;have g:w5.1[w.1.size+1]?=some (.cells #[.int .i64 0] 23 (0,0)):=(a.block _<|by omega).trans j;have l:Below w.1.size w w5:=cV b a;refine sX (f:=137) (args:=#[.pointer<|some ⟨w.1.size,0,none⟩,.pointer<|some ⟨w.1.size+1,0,none⟩]) (by simp) (by simp[go_sem]) ?_;refine(Nu w.1.size (w.1.size+1) y [] w5 false 0 (by omega) d g).mono ?_;rintro e q r ⟨rfl,rfl,c1,c2,k⟩;have h7:=k w.1.size (kF _)<|rt _;refine⟨.tuple #[.bool false,.int .i64 y],?_,rfl,l.trans h7⟩;simp[results,go_sem,c1,c2]
theorem SQ {p2:Addr} {b:Bool}
  (h:CA w 97 #[.pointer<|some p1,.pointer<|some p2] (.bool b)):
  bF w 96 #[.func (.func 97) #[] #[.pointer<|some p1,.pointer<|some p2]] (.tuple #[.bool b,.int .i64 0]):=by
 have t:∀(fn:Fn) (first cap:Array Value) (w:World),(Instr.makeFunc fn first cap).run prog w=.ok (.func fn first cap) w:=λ_ _ _ _=>rfl;have i:Below w.1.size w ((w.alloc<|.cells #[.bool false] 4).alloc<|.cells #[.int .i64 0] 23):=dF w _ _;have x:((w.alloc<|.cells #[.bool false] 4).alloc<|.cells #[.int .i64 0] 23).1.size=w.1.size+2:=by simp
 have k:((w.alloc<|.cells #[.bool false] 4).alloc<|.cells #[.int .i64 0] 23).1[w.1.size]?=some (.cells #[.bool false] 4 (0,0)):=by have h1:=lK w<|.cells #[.bool false] 4 (0,0);exact(mW _ _ _<|by simp).trans h1
 have l:((w.alloc<|.cells #[.bool false] 4).alloc<|.cells #[.int .i64 0] 23).1[w.1.size+1]?=some (.cells #[.int .i64 0] 23 (0,0)):=by
  have h1:=lK (w.alloc<|.cells #[.bool false] 4)<|.cells #[.int .i64 0] 23 (0,0)
  rwa [show (w.alloc<|.cells #[.bool false] 4).1.size=w.1.size+1 by simp] at h1
 have n:=h _ i
 go_enter_defers func96,ntmps96
 go_wp2_with (go_at_call 97;refine jR n λw5 g=>?_
              have a:w5.1[w.1.size]?=some (.cells #[.bool false] 4 (0,0)):=(g.block _<|by omega).trans k;have d:w5.1[w.1.size+1]?=some (.cells #[.int .i64 0] 23 (0,0)):=(g.block _<|by omega).trans l;have o:w5.cell? ⟨w.1.size,0,none⟩=some (.bool false):=(by simp[World.cell?,a]);have q:w5.cell? ⟨w.1.size+1,0,none⟩=some (.int .i64 0):=(by simp[World.cell?,d]);have r:w5.frozen? ⟨w.1.size,0,none⟩=false:=by simp[World.frozen?,a]
              have s:w5.frozen? ⟨w.1.size+1,0,none⟩=false:=by simp[World.frozen?,d])
 have q1:((w5.setCell ⟨w.1.size,0,none⟩<|.bool b).setCell ⟨w.1.size+1,0,none⟩<|.int .i64 0).1[w.1.size]?=some (.cells #[.bool b] 4 (0,0)):=(mr _ ⟨w.1.size+1,0,none⟩ _ w.1.size<|by show w.1.size≠w.1.size+1;omega).trans<|zF (cs:=[.bool false]) a (j:=0) (u:=.bool b);have q2:((w5.setCell ⟨w.1.size,0,none⟩<|.bool b).setCell ⟨w.1.size+1,0,none⟩<|.int .i64 0).1[w.1.size+1]?=some (.cells #[.int .i64 0] 23 (0,0)):=zF (cs:=[.int .i64 0]) ((mr w5 ⟨w.1.size,0,none⟩ (.bool b) (w.1.size+1)<|by show w.1.size+1≠w.1.size;omega).trans d) (j:=0) (u:=.int .i64 0);have m:Below w.1.size w ((w5.setCell ⟨w.1.size,0,none⟩<|.bool b).setCell ⟨w.1.size+1,0,none⟩<|.int .i64 0):=((cV i g).setCell (p:=⟨w.1.size,0,none⟩) (kF _) _).setCell (p:=⟨w.1.size+1,0,none⟩) (by exact rt _) _;generalize ((w5.setCell ⟨w.1.size,0,none⟩<|.bool b).setCell ⟨w.1.size+1,0,none⟩<|.int .i64 0)=W at*;have c1:W.cell? ⟨w.1.size,0,none⟩=some (.bool b):=by simp[World.cell?,q1]
 have c2:W.cell? ⟨w.1.size+1,0,none⟩=some (.int .i64 0):=by simp[World.cell?,q2]
 refine sX (f:=137) (args:=#[.pointer<|some ⟨w.1.size,0,none⟩,.pointer<|some ⟨w.1.size+1,0,none⟩]) (by simp) (by simp[go_sem]) ?_;refine(Nt ⟨w.1.size,0,none⟩ ⟨w.1.size+1,0,none⟩ _).mono ?_;rintro e y z ⟨rfl,rfl,rfl⟩;refine⟨.tuple #[.bool b,.int .i64 0],?_,rfl,m⟩;simp[results,go_sem,c1,c2]
theorem Nw {p2:Addr} {y:Int}
  (h:∀z,Below w.1.size w z->cN 97 #[.pointer<|some p1,.pointer<|some p2] z λe w'=>e=.panicked [{ v:=.iface 189<|.agg #[.int .i64 y],recovered:=false }]/\Below z.1.size z w'):
  bF w 96 #[.func (.func 97) #[] #[.pointer<|some p1,.pointer<|some p2]] (.tuple #[.bool false,.int .i64 y]):=by
 have n:∀(fn:Fn) (first cap:Array Value) (w:World),(Instr.makeFunc fn first cap).run prog w=.ok (.func fn first cap) w:=λ_ _ _ _=>rfl;have b:Below w.1.size w ((w.alloc<|.cells #[.bool false] 4).alloc<|.cells #[.int .i64 0] 23):=dF w _ _;have o:((w.alloc<|.cells #[.bool false] 4).alloc<|.cells #[.int .i64 0] 23).1.size=w.1.size+2:=by simp
 have i:((w.alloc<|.cells #[.bool false] 4).alloc<|.cells #[.int .i64 0] 23).1[w.1.size]?=some (.cells #[.bool false] 4 (0,0)):=by have h1:=lK w<|.cells #[.bool false] 4 (0,0);exact(mW _ _ _<|by simp).trans h1
 have j:((w.alloc<|.cells #[.bool false] 4).alloc<|.cells #[.int .i64 0] 23).1[w.1.size+1]?=some (.cells #[.int .i64 0] 23 (0,0)):=by
  have h1:=lK (w.alloc<|.cells #[.bool false] 4)<|.cells #[.int .i64 0] 23 (0,0)
  rwa [show (w.alloc<|.cells #[.bool false] 4).1.size=w.1.size+1 by simp] at h1
 have m:=h _ b
 go_enter_defers func96,ntmps96
 go_wp2_with (go_at_call 97;refine m.mono ?_;rintro _ w5 ⟨rfl,a⟩);have d:w5.1[w.1.size]?=some (.cells #[.bool false] 4 (0,0)):=(a.block _<|by omega).trans i;have g:w5.1[w.1.size+1]?=some (.cells #[.int .i64 0] 23 (0,0)):=(a.block _<|by omega).trans j;have l:Below w.1.size w w5:=cV b a;refine sX (f:=137) (args:=#[.pointer<|some ⟨w.1.size,0,none⟩,.pointer<|some ⟨w.1.size+1,0,none⟩]) (by simp) (by simp[go_sem]) ?_;refine(Nu w.1.size (w.1.size+1) y [] w5 false 0 (by omega) d g).mono ?_;rintro e q r ⟨rfl,rfl,c1,c2,k⟩;have h7:=k w.1.size (kF _)<|rt _;refine⟨.tuple #[.bool false,.int .i64 y],?_,rfl,l.trans h7⟩;simp[results,go_sem,c1,c2]
theorem SR (w:World):cN 173 #[.int .i64 1] w λe w'=>e=.panicked [{ v:=.iface 189<|.agg #[.int .i64 1],recovered:=false }]/\w'=w:=by go_enter func173,ntmps173;go_wp2_with fail;exact⟨rfl,rfl,rfl⟩
theorem Sl.len_eq {q:Option Addr} {n c:Nat} (h:Sl w (.slice q n c) xs):n=xs.length:=by obtain⟨_,_,q',cap,e,_⟩:=h;cases e;rfl
theorem J7 {g:Bool} {p1:Option Addr} {nu de:List Int} (h1:Sl w (.slice q1 l1 c1) nu) (h2:Sl w (.slice p1 m1 e1) de) (ln:nu.length<=274877906000) (ld:de.length<=274877906000) (z:Tb w) (m:large (val nu) (val de)=false):
  cN 138 #[.agg<|qA g q1 l1 c1 p1 m1 e1] w λe w'=>∃f,e=.returned f/\FAt w' f (cI g (val nu)<|bB<|val de) (db (val nu)<|bB<|val de) (dg (val nu)<|bB<|val de)/\Below w.1.size w w':=by
 obtain rfl:=h1.len_eq;obtain rfl:=h2.len_eq;have j:=dF w (Obj.cells (qA g q1 nu.length c1 p1 de.length e1) 30)<|Obj.cells zC 147
 have l:Hid (FNew ((w.alloc<|Obj.cells (qA g q1 nu.length c1 p1 de.length e1) 30).alloc<|Obj.cells zC 147)<|w.1.size+1):=by
  have:=FNew.made<|w.alloc<|Obj.cells (qA g q1 nu.length c1 p1 de.length e1) 30;have e:(w.alloc<|Obj.cells (qA g q1 nu.length c1 p1 de.length e1) 30).1.size=w.1.size+1:=by simp
  rw[e] at this;exact this
 have X:((w.alloc<|Obj.cells (qA g q1 nu.length c1 p1 de.length e1) 30).alloc<|Obj.cells zC 147).1.size=w.1.size+2:=by simp
 have o:=FN (g:=g) (h1.below j) (h2.below j) ln ld<|z.below j;rw[m] at o;obtain⟨J,hu,K⟩:=uQ;have H:Hid (Below w.1.size w<|(w.alloc<|Obj.cells (qA g q1 nu.length c1 p1 de.length e1) 30).alloc<|Obj.cells zC 147):=j;have V:=bC m;clear h1 h2 z j m;go_enter func138,ntmps138
 go_wp2_with (go_at_call 167;refine o.mono ?_;rintro e i ⟨f,U,Y,R,rfl,M,L,h⟩
              obtain⟨rfl,rfl,rfl⟩:=L rfl;obtain⟨S,T,d,b,rfl,u,B,C,x,D,E,F,G⟩:=M;obtain⟨t,r,rfl⟩:=u.form;obtain⟨s,q,rfl⟩:=x.form;have N:Hid (Sl i (.slice t d.length r) d/\bD d/\val d=db (val nu) (bB<|val de)/\Sl i (.slice s b.length q) b/\bD b/\val b=dg (val nu) (bB<|val de)/\d.length<=274877906000/\b.length<=274877906000):=⟨u,B,C,x,D,E,F,G⟩;have W:=bC h;have P:=l.out.below h;have s3:w.1.size+2<=i.1.size:=(by have:=h.size;omega);have n:=h.trans<|(cU i<|.cells #[.bool<|cI g (val nu)<|bB<|val de,.slice t d.length r,.slice s b.length q] 147).mono h.size;have k:=l.out.below n;have c0:=k.c0;have Q:=k.c1;have c2:=k.c2;have fr:=k.fr;have O:Hid _:=n;have Z:i.1.size≠w.1.size+1:=by omega
              clear u B C x D E F G o P h k n)
 have a:=N.out;have y:=cU i<|.cells #[.bool<|cI g (val nu)<|bB<|val de,.slice t d.length r,.slice s b.length q] 147;obtain⟨A,I⟩:=Cc (g:=cI g (val nu)<|bB<|val de) (rt w.1.size) l.out H.out O.out (a.1.below y) a.2.1 a.2.2.1 (a.2.2.2.1.below y) a.2.2.2.2.1 a.2.2.2.2.2.1 a.2.2.2.2.2.2.1 a.2.2.2.2.2.2.2;refine lJ (jP rfl _ _ (w.1.size+1) _ J rfl I hu K Cb) rfl ?_;exact⟨_,rfl,A.out.1,A.out.2⟩
theorem Nx {g:Bool} {p1:Option Addr} {nu de:List Int} (h1:Sl w (.slice q1 l1 c1) nu) (h2:Sl w (.slice p1 m1 e1) de) (ln:nu.length<=274877906000) (ld:de.length<=274877906000) (j:Tb w) (i:large (val nu) (val de)=true):
  cN 138 #[.agg<|qA g q1 l1 c1 p1 m1 e1] w λe w'=>e=.panicked [{ v:=.iface 189<|.agg #[.int .i64 1],recovered:=false }]/\Below w.1.size w w':=by
 obtain rfl:=h1.len_eq;obtain rfl:=h2.len_eq;have a:=dF w (Obj.cells (qA g q1 nu.length c1 p1 de.length e1) 30)<|Obj.cells zC 147;have d:=FN (g:=g) (h1.below a) (h2.below a) ln ld<|j.below a;rw[i] at d;have h:Hid (Below w.1.size w<|(w.alloc<|Obj.cells (qA g q1 nu.length c1 p1 de.length e1) 30).alloc<|Obj.cells zC 147):=a;clear h1 h2 j a i;go_enter func138,ntmps138
 go_wp2_with (first
  | (go_at_call 167;refine d.mono ?_;rintro e k ⟨f,q,I,F,rfl,r,_,b⟩
     obtain⟨G,H,u,o,rfl,l,z,A,m,B,C,D,E⟩:=r;obtain⟨y,t,rfl⟩:=l.form;obtain⟨x,s,rfl⟩:=m.form;have n:Hid (Below w.1.size w<|k.alloc<|.cells (qA q y u.length t x o.length s) 147):=(cV h.out b).trans<|(cU k _).mono<|kJ h.out.size b.size
     clear l z A m B C D E d b)
  | (go_at_call 173;refine(SR _).mono ?_;rintro e w5 ⟨rfl,rfl⟩))
 exact⟨rfl,rfl,n.out⟩
theorem SS (b o cap d l D:Nat) (xs ys:List Int) (w:World) (g:xs.length=ys.length) (r:cB xs) (t:cB ys) (L:xs.length<=1099511627776)
  (G:∀i,i<xs.length->w.cell? ⟨b,o+i,none⟩=some (.int .u32<|xs.getD i 0)) (H:∀i,i<ys.length->w.cell? ⟨d,l+i,none⟩=some (.int .u32<|ys.getD i 0)) (E:b<w.1.size) (F:d<w.1.size):
  cN 141 #[.slice (some ⟨b,o,none⟩) xs.length cap,.slice (some ⟨d,l,none⟩) xs.length D] w λe w'=>∃c:Int,e=.returned (.int .i64 c)/\(c<0↔val xs<val ys)/\(c=0↔xs=ys)/\(-1<=c/\c<=1)/\Below w.1.size w w':=by
 have s:Hid (cB xs):=r;have u:Hid (cB ys):=t;clear r t;go_enter func141,ntmps141;go_wp2
 go_loopw [5] (λi wr=>∃k:Nat,k<=xs.length/\i=.int .i64 ((k:Int) - 1)/\(∀j,k<=j->j<xs.length->xs.getD j 0=ys.getD j 0)/\Below w.1.size w wr) (λi _=>(intOf i+1).toNat)
 case atStart=>exact⟨xs.length,kF _,by simp[g],λj h1 h2=>by omega,kE _ _⟩
 case round=>
  obtain⟨k,n,rfl,A,f⟩:=hrel;have a:=bC A;clear A
  match k,n,a with
  | 0,n,a=>go_wp2;go_ret;have e:=Fe g λj I=>a.out j (kL _) I;exact⟨0,rfl,by simp[e],by simp[e],by decide,f⟩
  | k+1,n,a=>
   have e1:((k+1:Nat):Int) - 1=(k:Int):=(by omega);rw[e1];have c1:wr.cell? ⟨b,o+k,none⟩=some (.int .u32<|xs.getD k 0):=fg f E (G k<|by omega);have c2:wr.cell? ⟨d,l+k,none⟩=some (.int .u32<|ys.getD k 0):=fg f F (H k<|by omega);generalize y:xs.getD k 0=X at c1;generalize z:ys.getD k 0=Y at c2;have K:(k:Int)<(xs.length:Int):=(by omega);go_wp2
   go_quiet (fail)
   have m:Below w.1.size w (wr.drewN nq):=ee f _;have B:(wr.drewN nq).cell? ⟨b,o+k,none⟩=some (.int .u32 X):=c1;have C:(wr.drewN nq).cell? ⟨d,l+k,none⟩=some (.int .u32 Y):=c2;generalize wr.drewN nq=J at m B C ⊢;clear c1 c2;go_wp2
   .go_ret;have q:X<Y:=(by assumption);have e:=Ae (xs:=xs) (ys:=ys) (j:=k) (by omega);exact⟨-1,rfl,⟨λ_=>G7 g s.out u.out (by omega) (by rw[y,z];exact q) a.out,λ_=>by decide⟩,by simp[e],by decide,m⟩
   go_quiet (fail)
   have x:Below w.1.size w (J.drewN nq):=ee m _;go_wp2
   .go_ret;have q:X > Y:=(by assumption);have e:=Ae (xs:=xs) (ys:=ys) (j:=k) (by omega);have hv:=G7 g.symm u.out s.out (k:=k) (by omega) (by rw[y,z];exact q) λj h1 h2=>(a.out j h1<|by omega).symm;exact⟨1,rfl,⟨λh=>absurd h<|by decide,λh=>by omega⟩,by simp[e],by decide,x⟩
   go_roundw
   case rel=>
    refine⟨k,by omega,by go_num,λj h1 h2=>?_,x⟩
    rcases kS k j with h | h
    .exact a.out j h h2
    have:j=k:=(by omega);subst this;omega
   case measure=>simp[intOf]
theorem ST {v u:Value} {ys:List Int} (s:Sl w v xs) (t:Sl w u ys) (k:bD xs) (l:bD ys):
  cN 141 #[v,u] w λe w'=>∃c:Int,e=.returned (.int .i64 c)/\(c<0↔val xs<val ys)/\(c=0↔xs=ys)/\(-1<=c/\c<=1)/\Below w.1.size w w':=by
 obtain⟨f,z,q,cap,rfl,A,x⟩:=s;obtain⟨g,B,q',cap',rfl,C,y⟩:=t
 rcases qE xs.length ys.length with a | a | a
 .refine(MV q q' xs.length ys.length cap cap' w a).mono ?_;rintro e w' ⟨rfl,rfl⟩;exact⟨-1,rfl,⟨λ_=>FJ f g l a,λ_=>by decide⟩,⟨λh=>absurd h<|by decide,λh=>by rw[h] at a;omega⟩,by decide,kE _ _⟩
 .by_cases hx0:xs=[]
  .subst hx0;have d:ys=[]:=kM a.symm;subst d;refine(MU q q' cap cap' w).mono ?_;rintro e w' ⟨rfl,rfl⟩;exact⟨0,rfl,by simp,by simp,by decide,kE _ _⟩
  have d:ys≠[]:=λh=>hx0<|kM<|by rw[a,h];rfl
  rcases x with h | ⟨b,o,rfl,r,m⟩
  .exact absurd h hx0
  rcases y with h | ⟨j,o',rfl,i,n⟩
  .exact absurd h d
  rw[<-a];exact SS b o cap j o' cap' xs ys w a f g (by omega) m n r i
 refine(MW q q' xs.length ys.length cap cap' w a).mono ?_;rintro e w' ⟨rfl,rfl⟩;have:=FJ g f k a;exact⟨1,rfl,⟨λh=>absurd h<|by decide,λh=>by omega⟩,⟨λh=>absurd h<|by decide,λh=>by rw[h] at a;omega⟩,by decide,kE _ _⟩
def zJ (g:Bool) (n:Int):Int:=if n=0 then 0 else if g then -1 else 1
def oZ (x y:Int):Int:=if x<y then -1 else if x=y then 0 else 1
def nv (g1:Bool) (n1 d1:Int) (g2:Bool) (n2 d2:Int):Int:=
 if zJ g1 n1=zJ g2 n2 then(if g1 then - oZ (n1*d2) (n2*d1) else oZ (n1*d2)<|n2*d1) else if zJ g1 n1<zJ g2 n2 then -1 else 1
theorem Ch (g:Bool) (n:Int):-1<=zJ g n/\zJ g n<=1:=by
 unfold zJ;split
 .omega
 split<;>omega
theorem DE (x y:Int):-1<=oZ x y/\oZ x y<=1:=by
 unfold oZ;split
 .omega
 split<;>omega
theorem Ny {a b:Value} {ys:List Int} (r:Sl w a xs) (t:Sl w b ys) (_A:bD xs) (_B:bD ys) (C:xs.length<=274877906000) (D:ys.length<=274877906000):
  cN 140 #[a,b] w λe w'=>∃u zs,e=.returned u/\Sl w' u zs/\bD zs/\val zs=val xs*val ys/\zs.length<=549755813000/\Below w.1.size w w':=by
 obtain⟨i,_,q,cap,rfl,_,s⟩:=r;obtain⟨j,_,q',cap',rfl,_,x⟩:=t;by_cases h0:xs.length=0\/ys.length=0
 .refine(SM h0).mono ?_;rintro e w' ⟨rfl,rfl⟩
  have hv:val xs*val ys=0:=by
   rcases h0 with h | h
   .rw[kM h];simp[val]
   rw[kM h];simp[val]
  exact⟨_,[],rfl,Sl.nil _,zH,by rw[hv];rfl,by simp,kE _ _⟩
 rcases s with h | ⟨f,y,rfl,l,n⟩
 .exact absurd (.inl<|by rw[h];rfl) h0
 rcases x with h | ⟨g,z,rfl,m,o⟩
 .exact absurd (.inr<|by rw[h];rfl) h0
 refine(SN f y cap g z cap' _ xs ys w rfl (by omega) (by omega) (by omega) i j n o l m).mono ?_;rintro e w' ⟨u,os,d,rfl,hu,k⟩;refine⟨u,bE os,rfl,hu,jH os,?_,?_,k⟩
 .rw[ji,d.eq,lQ]
 have h1:=fp os os.length;have h2:=d.len;rw[ed];omega
abbrev yL (w:World) (g1:Bool) (q1:Option Addr) (l1:Nat) (c1:Nat) (p1:Option Addr) (m1:Nat) (e1:Nat) (g2:Bool) (q2:Option Addr) (l2:Nat) (c2:Nat) (p2:Option Addr) (m2:Nat) (e2:Nat):World->Prop:=λz=>z.cell? ⟨w.1.size,0,none⟩=some (.bool g1)/\z.cell? ⟨w.1.size,1,none⟩=some (.slice q1 l1 c1)/\z.cell? ⟨w.1.size,2,none⟩=some (.slice p1 m1 e1)/\z.cell? ⟨(w.1.size+1),0,none⟩=some (.bool g2)/\z.cell? ⟨(w.1.size+1),1,none⟩=some (.slice q2 l2 c2)/\z.cell? ⟨(w.1.size+1),2,none⟩=some (.slice p2 m2 e2)
theorem SU {g1 g2:Bool} {p1 q2 p2:Option Addr} {l2 c2 m2 e2:Nat} {s1 s2 c:Int}
  (ad:CA w 139 #[.agg<|qA g1 q1 l1 c1 p1 m1 e1] (.int .i64 s1))
  (ae:CA w 139 #[.agg<|qA g2 q2 l2 c2 p2 m2 e2] (.int .i64 s2))
  (hm:∀z,Below w.1.size w z->cN 140 #[.slice q1 l1 c1,.slice p2 m2 e2] z λe w'=>∃Y X U,e=.returned (.slice Y X U)/\Below z.1.size z w'/\∀Q,Below w'.1.size w' Q->cN 140 #[.slice q2 l2 c2,.slice p1 m1 e1] Q λe af=>∃Z lb cb,e=.returned (.slice Z lb cb)/\Below Q.1.size Q af/\bF af 141 #[.slice Y X U,.slice Z lb cb] (.int .i64 c))
  (hc:-1<=c/\c<=1) (_am:-1<=s1/\s1<=1) (_an:-1<=s2/\s2<=1):
  bF w 99 #[.agg<|qA g1 q1 l1 c1 p1 m1 e1,.agg<|qA g2 q2 l2 c2 p2 m2 e2] (.int .i64 (if s1=s2 then(if g1 then -c else c) else if s1<s2 then -1 else 1)):=by
 have ac:Hid (Below w.1.size w<|(w.alloc<|.cells (qA g1 q1 l1 c1 p1 m1 e1) 147).alloc<|.cells (qA g2 q2 l2 c2 p2 m2 e2) 147):=dF w _ _;have h1:=bC ad;have h2:=bC ae;have aj:Hid _:=hm;have t:(yL w g1 q1 l1 c1 p1 m1 e1 g2 q2 l2 c2 p2 m2 e2) ((w.alloc<|.cells (qA g1 q1 l1 c1 p1 m1 e1) 147).alloc<|.cells (qA g2 q2 l2 c2 p2 m2 e2) 147):=⟨by simp,by simp,by simp,by simp,by simp,by simp⟩;have al:w.1.size+1<((w.alloc<|.cells (qA g1 q1 l1 c1 p1 m1 e1) 147).alloc<|.cells (qA g2 q2 l2 c2 p2 m2 e2) 147).1.size:=by simp
 have ak:Hid (-1<=c/\c<=1):=hc;clear ad ae hm hc
 obtain⟨R,A⟩:∃R:Int,Hid ((if s1=s2 then(if g1 then -c else c) else if s1<s2 then -1 else 1)=R):=⟨_,rfl⟩
 rw[A.out];go_enter func99,ntmps99;go_upto_region 1 with fail;generalize ((w.alloc<|.cells (qA g1 q1 l1 c1 p1 m1 e1) 147).alloc<|.cells (qA g2 q2 l2 c2 p2 m2 e2) 147)=T at*;have jj:w.1.size<T.1.size:=by omega
 have H:w.1.size+1<T.drew.1.size:=al;have J:w.1.size<T.drew.1.size:=jj;refine kN (S:=(yL w g1 q1 l1 c1 p1 m1 e1 g2 q2 l2 c2 p2 m2 e2)) (by kernel_rfl) t λf=>?_;refine tk 0 _ rfl f ?_;refine tk 2 _ rfl f ?_;refine dy 1 rfl (λK a=>?_);go_simp;refine jR (h1.out _ ac.out.drew) λw5 k=>?_;have x:(yL w g1 q1 l1 c1 p1 m1 e1 g2 q2 l2 c2 p2 m2 e2) w5:=⟨fg k J t.1,fg k J t.2.1,fg k J t.2.2.1,fg k H t.2.2.2.1,fg k H t.2.2.2.2.1,fg k H t.2.2.2.2.2⟩;have N:w.1.size<w5.1.size:=kw J k.size;have O:w.1.size+1<w5.1.size:=kw H k.size;have W5:Hid (Below w.1.size w w5):=cV ac.out.drew k;refine a.out _ _ x λbT=>?_;clear a K f;refine dy 3 rfl (λK a=>?_);go_simp;refine jR (h2.out _ W5.out) λu l=>?_;have g:(yL w g1 q1 l1 c1 p1 m1 e1 g2 q2 l2 c2 p2 m2 e2) u:=⟨fg l N x.1,fg l N x.2.1,fg l N x.2.2.1,fg l O x.2.2.2.1,fg l O x.2.2.2.2.1,fg l O x.2.2.2.2.2⟩;have s6:w.1.size<u.1.size:=kw N l.size;have t6:w.1.size+1<u.1.size:=kw O l.size;have E:Hid (Below w.1.size w u):=cV W5.out l;refine a.out _ _ g λdD=>?_;clear a K bT;refine tk 4 _ rfl dD ?_;refine kV (by kernel_rfl) ?_ _;clear dD;have x0:=g.1;by_cases L:s1=s2
 .have W:(s1 != s2)=false:=by simp[L]
  have B:Hid (R=if g1 then -c else c):=by show R=_;rw[<-A.out,kU L]
  rw[W];clear h1 h2 t A;go_upto_region 5 with fail;have m:w.1.size<u.drew.1.size:=s6;have o:w.1.size+1<u.drew.1.size:=t6;refine kN (S:=(yL w g1 q1 l1 c1 p1 m1 e1 g2 q2 l2 c2 p2 m2 e2)) (by kernel_rfl) g λf=>?_;refine tk 0 _ rfl f ?_;refine tk 1 _ rfl f ?_;refine tk 2 _ rfl f ?_;refine tk 3 _ rfl f ?_;refine tk 5 _ rfl f ?_;refine tk 6 _ rfl f ?_;refine tk 7 _ rfl f ?_;refine tk 8 _ rfl f ?_;refine dy 4 rfl (λK a=>?_);go_simp;refine(aj.out _ E.out.drew).mono ?_;rintro e r ⟨Y,X,U,rfl,b,ag⟩;have h:(yL w g1 q1 l1 c1 p1 m1 e1 g2 q2 l2 c2 p2 m2 e2) r:=⟨fg b m g.1,fg b m g.2.1,fg b m g.2.2.1,fg b o g.2.2.2.1,fg b o g.2.2.2.2.1,fg b o g.2.2.2.2.2⟩;have n:w.1.size<r.1.size:=kw m b.size;have q:w.1.size+1<r.1.size:=kw o b.size;have F:Hid (Below w.1.size w r):=cV E.out.drew b;refine a.out _ _ h λV=>?_;clear a K f;refine dy 9 rfl (λK a=>?_);go_simp;refine(ag _<|kE _ _).mono ?_;rintro e s ⟨Z,lb,cb,rfl,d,ah⟩;have i:(yL w g1 q1 l1 c1 p1 m1 e1 g2 q2 l2 c2 p2 m2 e2) s:=⟨fg d n h.1,fg d n h.2.1,fg d n h.2.2.1,fg d q h.2.2.2.1,fg d q h.2.2.2.2.1,fg d q h.2.2.2.2.2⟩;have C:w.1.size<s.1.size:=kw n d.size;have D:w.1.size+1<s.1.size:=kw q d.size;have G:Hid (Below w.1.size w s):=cV F.out d;refine a.out _ _ i λI=>?_;clear a K V;refine dy 10 rfl (λK a=>?_);go_simp;refine jR ah λP j=>?_;have aa:(yL w g1 q1 l1 c1 p1 m1 e1 g2 q2 l2 c2 p2 m2 e2) P:=⟨fg j C i.1,fg j C i.2.1,fg j C i.2.2.1,fg j D i.2.2.2.1,fg j D i.2.2.2.2.1,fg j D i.2.2.2.2.2⟩;have ap:w.1.size<P.1.size:=kw C j.size;have aq:w.1.size+1<P.1.size:=kw D j.size;have ab:Hid (Below w.1.size w P):=cV G.out j;refine a.out _ _ aa λdX=>?_;clear a K I;refine tk 11 _ rfl dX ?_;refine kV (by kernel_rfl) ?_ _;clear dX;have y0:=aa.1;have ao:=ak.out
  cases g1 with
  | false=>have y:R=c:=B.out;subst y;go_wp2_with fail;go_ret;exact⟨rfl,ab.out⟩
  | true=>have y:R=-c:=B.out;subst y;go_wp2_with fail;go_ret;exact⟨rfl,ab.out⟩
 have W:(s1 != s2)=true:=by simp[L]
 have B:Hid (R=if s1<s2 then -1 else 1):=by show R=_;rw[<-A.out,kZ L]
 rw[W];clear A;go_upto_region 2 with fail;have m:w.1.size<u.drew.1.size:=s6;have o:w.1.size+1<u.drew.1.size:=t6;refine kN (S:=(yL w g1 q1 l1 c1 p1 m1 e1 g2 q2 l2 c2 p2 m2 e2)) (by kernel_rfl) g λf=>?_;refine tk 0 _ rfl f ?_;refine tk 2 _ rfl f ?_;refine dy 1 rfl (λK a=>?_);go_simp;refine jR (h1.out _ E.out.drew) λr b=>?_;have h:(yL w g1 q1 l1 c1 p1 m1 e1 g2 q2 l2 c2 p2 m2 e2) r:=⟨fg b m g.1,fg b m g.2.1,fg b m g.2.2.1,fg b o g.2.2.2.1,fg b o g.2.2.2.2.1,fg b o g.2.2.2.2.2⟩;have n:w.1.size<r.1.size:=kw m b.size;have q:w.1.size+1<r.1.size:=kw o b.size;have F:Hid (Below w.1.size w r):=cV E.out.drew b;refine a.out _ _ h λV=>?_;clear a K f;refine dy 3 rfl (λK a=>?_);go_simp;refine jR (h2.out _ F.out) λs d=>?_;have i:(yL w g1 q1 l1 c1 p1 m1 e1 g2 q2 l2 c2 p2 m2 e2) s:=⟨fg d n h.1,fg d n h.2.1,fg d n h.2.2.1,fg d q h.2.2.2.1,fg d q h.2.2.2.2.1,fg d q h.2.2.2.2.2⟩;have C:w.1.size<s.1.size:=kw n d.size;have D:w.1.size+1<s.1.size:=kw q d.size;have G:Hid (Below w.1.size w s):=cV F.out d;refine a.out _ _ i λI=>?_;clear a K V;refine tk 4 _ rfl I ?_;refine kV (by kernel_rfl) ?_ _;clear I;by_cases M:s1<s2
 .have y:R=-1:=(by rw[B.out,kU M]);subst y;rw[lh M];go_wp2_with fail;go_ret;exact⟨rfl,G.out⟩
 have y:R=1:=(by rw[B.out,kZ M]);subst y;rw[kQ M];go_wp2_with fail;go_ret;exact⟨rfl,G.out⟩
theorem Hj {v u:Value} {g1 g2:Bool} {n1 d1 n2 d2:Int} (h1:FAt w v g1 n1 d1) (h2:FAt w u g2 n2 d2):
  bF w 99 #[v,u] (.int .i64<|nv g1 n1 d1 g2 n2 d2):=by
 have x:=h1;have y:=h2;obtain⟨a,b,Y,T,rfl,q,r,L,s,M,N,O,P⟩:=h1;obtain⟨Q,R,Z,U,rfl,n,F,G,o,H,I,J,K⟩:=h2;obtain⟨q1,c1,rfl⟩:=q.form;obtain⟨p1,e1,rfl⟩:=s.form;obtain⟨q2,c2,rfl⟩:=n.form;obtain⟨p2,e2,rfl⟩:=o.form;refine SU (s1:=zJ g1 n1) (s2:=zJ g2 n2) (c:=oZ (n1*d2)<|n2*d1) (λz d=>Ha<|x.below d) (λz d=>Ha<|y.below d) (λz d=>?_) (DE _ _) (Ch _ _)<|Ch _ _;refine(Ny (q.below d) (o.below d) r H O K).mono ?_;rintro e w' ⟨u,zs,rfl,k1,k2,D,W,g⟩;obtain⟨qa,S,rfl⟩:=k1.form;refine⟨_,_,_,rfl,g,λr k=>?_⟩;have l:=(cV d g).trans<|k.mono<|kJ d.size g.size;refine(Ny (n.below l) (s.below l) F M J P).mono ?_;rintro e aa ⟨u2,t,rfl,m1,m2,E,X,j⟩;obtain⟨qb,cb,rfl⟩:=m1.form;refine⟨_,_,_,rfl,j,?_⟩;have m:=(k1.below k).below j;refine(ST m m1 k2 m2).mono ?_;rintro e w3 ⟨c,rfl,i,f,V,A⟩;refine⟨?_,A⟩;have C:zs=t↔val zs=val t:=⟨λh=>by rw[h],λh=>C1 m.1 m1.1 k2 m2 h⟩;rw[C] at f;rw[D,E,L,N,G,I] at i f
 have B:c=oZ (n1*d2) (n2*d1):=by
  unfold oZ;split
  .rename_i h;have:=i.2 h;omega
  rename_i h;split
  .rename_i h2;exact f.2 h2
  rename_i h2;have h3:¬c<0:=λh4=>h<|i.1 h4;have h5:¬c=0:=λh4=>h2<|f.1 h4;omega
 rw[B]
