import Derived.Test.YthcfmhgihcjloaaGreatDoorCards
import Derived.Test.YthcfmhgihcjloaaGreatDoorAw
import Derived.Test.YthcfmhgihcjloaaGreatDoorAf
import Derived.Test.YthcfmhgihcjloaaGreatDoorPk34
import Derived.Deep.DeepHandedRow
namespace Go.Proofs.YthcfmhgihcjloaaGreatDoor
open Go Go.Proofs.YthcfmhgihcjloaaGreatDoor.Gx Go.ChangeShapes Go.WideShapes Go.ChangeAt Go.RowKit
theorem EC:(Tryz.prog.funcs.toList.map λg=>(Tryz.prog.leadsTo g).length+1).sum=2621:=by kernel_rfl
theorem KA:laidOutB Tryz.prog=true:=by kernel_rfl
theorem ED:mapsRowed Tryz.prog=true:=by kernel_rfl
theorem HD:(Tryz.prog.funcs.toList.all λfn=>!Func.goes fn)=true:=by kernel_rfl
theorem own:ownKnob Tryz.prog.godebug=none:=by kernel_rfl
theorem vt:(Tryz.prog.globals[0]?).map (·.type)=some 402:=by kernel_rfl
theorem HH:Tryz.prog.underlying 402=some (.array 32 5):=by kernel_rfl
theorem EE:Tryz.prog.underlying 5=some (.int .u8):=by kernel_rfl
theorem EG:Tryz.prog.underlying 4=some .bool:=by kernel_rfl
theorem HJ:Tryz.prog.cellsOf 402=32:=by kernel_rfl
theorem EH:Tryz.prog.cellsOf 5=1:=by kernel_rfl
theorem vX {H:Type}:∀es:List (DataW H),es.length<=Rows.uptoBulkAll es
 | []=>kL _
 | e::r=>by
  have h:=vX r
  have h1:1<=Rows.uptoBulk e:=by
   cases e with
   | lit l=>cases l<;>simp[Rows.uptoBulk]
   | _=>simp[Rows.uptoBulk]
  simp only[Rows.uptoBulkAll,lF];omega
theorem HN {H:Type}:∀(es:List (DataW H)) (e:DataW H),e∈es->Rows.uptoBulk e<=Rows.uptoBulkAll es
 | [],e,h=>by cases h
 | x::r,e,h=>by
  simp only[Rows.uptoBulkAll]
  rcases lO.1 h with rfl | h
  .omega
  have:=HN r e h;omega
theorem KB (H:Type):Bk (Rows.uptoBulk (H:=H)) where
 el es rest e h:=by have:=HN es e h;simp only[Rows.uptoBulk];omega
 len es rest:=by have:=vX es;simp only[Rows.uptoBulk];omega
 ag ps p h:=by have:=HN ps p h;simp only[Rows.uptoBulk];omega
theorem Oh {w a:World} (h:Lib.TabIs Tryz.prog w "math/bits.deBruijn32tab" .u8 oL) (b:Below w.1.size w a):Lib.TabIs Tryz.prog a "math/bits.deBruijn32tab" .u8 oL:=by
 unfold Lib.TabIs World.var? at h ⊢;rw[wm] at h ⊢
 have h0:0<w.1.size:=by
  rcases mX w.1.size with h0 | h0
  .simp[h0] at h
  exact h0
 simp only[Option.bind_some] at h ⊢;rw[b.block 0 h0];exact h
theorem EI {w:World} (h:Lib.TabIs Tryz.prog w "math/bits.deBruijn32tab" .u8 oL):Tb w:=by
 refine⟨?_,λj a=>?_⟩
 .unfold Lib.TabIs World.var? at h;rw[wm] at h
  rcases mX w.1.size with h0 | h0
  .simp[h0] at h
  exact h0
 have h1:=h.cell wm j (by simp[oL];omega);have h2:∀k:Fin 32,oL.getD k.val 0=((Lib.deBruijn32tab.getD k.val 0:Nat):Int):=by decide
 have h3:=h2 ⟨j,a⟩;simp only at h3;rw[<-h3];exact h1
def HU (vs:Array Value):Obj->Obj
 | .cells _ t frozen=>.cells vs t frozen
 | o=>o
noncomputable def i9 (os:Os):World:=
 { World.holding Tryz.prog os ⟨#[],#[],[]⟩ with heap:=(((World.holding Tryz.prog os ⟨#[],#[],[]⟩).1.modify 0<|HU #[.int .u8 0,.int .u8 1,.int .u8 28,.int .u8 2,.int .u8 29,.int .u8 14,.int .u8 24,.int .u8 3,.int .u8 30,.int .u8 22,.int .u8 20,.int .u8 15,.int .u8 25,.int .u8 17,.int .u8 4,.int .u8 8,.int .u8 31,.int .u8 27,.int .u8 13,.int .u8 23,.int .u8 21,.int .u8 19,.int .u8 16,.int .u8 7,.int .u8 26,.int .u8 12,.int .u8 18,.int .u8 6,.int .u8 11,.int .u8 5,.int .u8 10,.int .u8 9]).modify 1<|HU #[.int .u64 1,.int .u64 10,.int .u64 100,.int .u64 1000,.int .u64 10000,.int .u64 100000,.int .u64 1000000,.int .u64 10000000,.int .u64 100000000,.int .u64 1000000000,.int .u64 10000000000,.int .u64 100000000000,.int .u64 1000000000000,.int .u64 10000000000000,.int .u64 100000000000000,.int .u64 1000000000000000,.int .u64 10000000000000000,.int .u64 100000000000000000,.int .u64 1000000000000000000,.int .u64 10000000000000000000]).modify 2 (HU #[.int .u8 0,.int .u8 1,.int .u8 56,.int .u8 2,.int .u8 57,.int .u8 49,.int .u8 28,.int .u8 3,.int .u8 61,.int .u8 58,.int .u8 42,.int .u8 50,.int .u8 38,.int .u8 29,.int .u8 17,.int .u8 4,.int .u8 62,.int .u8 47,.int .u8 59,.int .u8 36,.int .u8 45,.int .u8 43,.int .u8 51,.int .u8 22,.int .u8 53,.int .u8 39,.int .u8 33,.int .u8 30,.int .u8 24,.int .u8 18,.int .u8 12,.int .u8 5,.int .u8 63,.int .u8 55,.int .u8 48,.int .u8 27,.int .u8 60,.int .u8 41,.int .u8 37,.int .u8 16,.int .u8 46,.int .u8 35,.int .u8 44,.int .u8 21,.int .u8 52,.int .u8 32,.int .u8 23,.int .u8 11,.int .u8 54,.int .u8 26,.int .u8 40,.int .u8 15,.int .u8 34,.int .u8 20,.int .u8 31,.int .u8 10,.int .u8 25,.int .u8 14,.int .u8 19,.int .u8 9,.int .u8 13,.int .u8 8,.int .u8 7,.int .u8 6]) }
