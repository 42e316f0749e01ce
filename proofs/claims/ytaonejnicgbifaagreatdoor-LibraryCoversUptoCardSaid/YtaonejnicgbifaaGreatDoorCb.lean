import Derived.Test.YtaonejnicgbifaaGreatDoorCards
import Derived.Test.YtaonejnicgbifaaGreatDoorCw
import Derived.Test.YtaonejnicgbifaaGreatDoorCf
import Derived.Test.YtaonejnicgbifaaGreatDoorQk36
import Derived.Deep.DeepHandedRow
namespace Go.Proofs.YtaonejnicgbifaaGreatDoor
open Go Go.Proofs.YtaonejnicgbifaaGreatDoor.Gx Go.ChangeShapes Go.WideShapes Go.ChangeAt Go.RowKit
theorem closN:(Tryz.prog.funcs.toList.map fun g=>(Tryz.prog.leadsTo g).length+1).sum=2554:=by kernel_rfl
theorem zlh:laidOutB Tryz.prog=true:=by kernel_rfl
theorem rowed:mapsRowed Tryz.prog=true:=by kernel_rfl
theorem noGo:(Tryz.prog.funcs.toList.all fun fn=>!Func.goes fn)=true:=by kernel_rfl
theorem own:ownKnob Tryz.prog.godebug=none:=by kernel_rfl
theorem gTabType:(Tryz.prog.globals[0]?).map (·.type)=some 245:=by kernel_rfl
theorem uTab:Tryz.prog.underlying 245=some (.array 32 5):=by kernel_rfl
theorem uByte:Tryz.prog.underlying 5=some (.int .u8):=by kernel_rfl
theorem uBool:Tryz.prog.underlying 4=some .bool:=by kernel_rfl
theorem cTab:Tryz.prog.cellsOf 245=32:=by kernel_rfl
theorem cell8:Tryz.prog.cellsOf 5=1:=by kernel_rfl
theorem len_le {H:Type}:∀es:List (DataW H),es.length<=Rows.uptoBulkAll es
 | []=>Nat.zero_le _
 | e::r=>by
  have h:=len_le r
  have h1:1<=Rows.uptoBulk e:=by
   cases e with
   | lit l=>cases l<;>simp[Rows.uptoBulk]
   | _=>simp[Rows.uptoBulk]
  simp only[Rows.uptoBulkAll,List.length_cons]
  omega
theorem zli {H:Type}:∀(es:List (DataW H)) (e:DataW H),e∈es->Rows.uptoBulk e<=Rows.uptoBulkAll es
 | [],e,h=>by cases h
 | x::r,e,h=>by
  simp only[Rows.uptoBulkAll]
  rcases List.mem_cons.1 h with rfl | h
  ·omega
  ·have:=zli r e h
   omega
theorem bulk_bk (H:Type):Bk (Rows.uptoBulk (H:=H)) where
 el es rest e h:=by
  have:=zli es e h
  simp only[Rows.uptoBulk]
  omega
 len es rest:=by
  have:=len_le es
  simp only[Rows.uptoBulk]
  omega
 ag ps p h:=by
  have:=zli ps p h
  simp only[Rows.uptoBulk]
  omega
theorem zlj {w w1:World} (h:Lib.TabIs Tryz.prog w "math/bits.deBruijn32tab" .u8 zs32) (hb:Below w.heap.size w w1):Lib.TabIs Tryz.prog w1 "math/bits.deBruijn32tab" .u8 zs32:=by
 unfold Lib.TabIs World.var? at h ⊢
 rw[gTab] at h ⊢
 have h0:0<w.heap.size:=by
  rcases Nat.eq_zero_or_pos w.heap.size with h0 | h0
  ·simp[h0] at h
  ·exact h0
 simp only[Option.bind_some] at h ⊢
 rw[hb.block 0 h0]
 exact h
theorem tb_of {w:World} (h:Lib.TabIs Tryz.prog w "math/bits.deBruijn32tab" .u8 zs32):Tb w:=by
 refine⟨?_,fun j hj=>?_⟩
 ·unfold Lib.TabIs World.var? at h
  rw[gTab] at h
  rcases Nat.eq_zero_or_pos w.heap.size with h0 | h0
  ·simp[h0] at h
  ·exact h0
 ·have h1:=h.cell gTab j (by simp[zs32];omega)
  have h2:∀k:Fin 32,zs32.getD k.val 0=((Lib.deBruijn32tab.getD k.val 0:Nat):Int):=by decide
  have h3:=h2 ⟨j,hj⟩
  simp only at h3
  rw[<-h3]
  exact h1
def lay (vs:Array Value):Obj->Obj
 | .cells _ t frozen=>.cells vs t frozen
 | o=>o
noncomputable def laidWorld (os:Os):World:=
 { World.holding Tryz.prog os ⟨#[],#[],[]⟩ with heap:=(((World.holding Tryz.prog os ⟨#[],#[],[]⟩).heap.modify 0 (lay #[.int .u8 0,.int .u8 1,.int .u8 28,.int .u8 2,.int .u8 29,.int .u8 14,.int .u8 24,.int .u8 3,.int .u8 30,.int .u8 22,.int .u8 20,.int .u8 15,.int .u8 25,.int .u8 17,.int .u8 4,.int .u8 8,.int .u8 31,.int .u8 27,.int .u8 13,.int .u8 23,.int .u8 21,.int .u8 19,.int .u8 16,.int .u8 7,.int .u8 26,.int .u8 12,.int .u8 18,.int .u8 6,.int .u8 11,.int .u8 5,.int .u8 10,.int .u8 9])).modify 1 (lay #[.int .u64 1,.int .u64 10,.int .u64 100,.int .u64 1000,.int .u64 10000,.int .u64 100000,.int .u64 1000000,.int .u64 10000000,.int .u64 100000000,.int .u64 1000000000,.int .u64 10000000000,.int .u64 100000000000,.int .u64 1000000000000,.int .u64 10000000000000,.int .u64 100000000000000,.int .u64 1000000000000000,.int .u64 10000000000000000,.int .u64 100000000000000000,.int .u64 1000000000000000000,.int .u64 10000000000000000000])).modify 2 (lay #[.int .u8 0,.int .u8 1,.int .u8 56,.int .u8 2,.int .u8 57,.int .u8 49,.int .u8 28,.int .u8 3,.int .u8 61,.int .u8 58,.int .u8 42,.int .u8 50,.int .u8 38,.int .u8 29,.int .u8 17,.int .u8 4,.int .u8 62,.int .u8 47,.int .u8 59,.int .u8 36,.int .u8 45,.int .u8 43,.int .u8 51,.int .u8 22,.int .u8 53,.int .u8 39,.int .u8 33,.int .u8 30,.int .u8 24,.int .u8 18,.int .u8 12,.int .u8 5,.int .u8 63,.int .u8 55,.int .u8 48,.int .u8 27,.int .u8 60,.int .u8 41,.int .u8 37,.int .u8 16,.int .u8 46,.int .u8 35,.int .u8 44,.int .u8 21,.int .u8 52,.int .u8 32,.int .u8 23,.int .u8 11,.int .u8 54,.int .u8 26,.int .u8 40,.int .u8 15,.int .u8 34,.int .u8 20,.int .u8 31,.int .u8 10,.int .u8 25,.int .u8 14,.int .u8 19,.int .u8 9,.int .u8 13,.int .u8 8,.int .u8 7,.int .u8 6]) }
end Go.Proofs.YtaonejnicgbifaaGreatDoor
