import Derived.Test.YtnnhofmknilopaaGreatDoorCards
import Derived.Test.YtnnhofmknilopaaGreatDoorAw
import Derived.Test.YtnnhofmknilopaaGreatDoorAf
import Derived.Test.YtnnhofmknilopaaGreatDoorPk33
import Derived.Deep.DeepHandedRow
namespace Go.Proofs.YtnnhofmknilopaaGreatDoor
open Go Go.Proofs.YtnnhofmknilopaaGreatDoor.Gx Go.ChangeShapes Go.WideShapes Go.ChangeAt Go.RowKit
theorem closN:(Tryz.prog.funcs.toList.map fun g=>(Tryz.prog.leadsTo g).length+1).sum=2588:=by kernel_rfl
theorem zlh:laidOutB Tryz.prog=true:=by kernel_rfl
theorem rowed:mapsRowed Tryz.prog=true:=by kernel_rfl
theorem noGo:(Tryz.prog.funcs.toList.all fun fn=>!Func.goes fn)=true:=by kernel_rfl
theorem own:ownKnob Tryz.prog.godebug=none:=by kernel_rfl
theorem gTabType:(Tryz.prog.globals[2]?).map (·.type)=some 479:=by kernel_rfl
theorem uTab:Tryz.prog.underlying 479=some (.array 32 5):=by kernel_rfl
theorem uByte:Tryz.prog.underlying 5=some (.int .u8):=by kernel_rfl
theorem uBool:Tryz.prog.underlying 4=some .bool:=by kernel_rfl
theorem cTab:Tryz.prog.cellsOf 479=32:=by kernel_rfl
theorem cell8:Tryz.prog.cellsOf 5=1:=by kernel_rfl
theorem len_le {H:Type}:∀es:List (DataW H),es.length<=Rows.uptoBulkAll es
 | []=>Nat.zero_le _
 | e::r=>by
  have h:=len_le r
  have h1:1<=Rows.uptoBulk e:=by
   cases e with
   | lit l=>cases l<;>simp[Rows.uptoBulk]
   | _=>simp[Rows.uptoBulk]
  simp only[Rows.uptoBulkAll,List.length_cons]
  omega
theorem zli {H:Type}:∀(es:List (DataW H)) (e:DataW H),e∈es->Rows.uptoBulk e<=Rows.uptoBulkAll es
 | [],e,h=>by cases h
 | x::r,e,h=>by
  simp only[Rows.uptoBulkAll]
  rcases List.mem_cons.1 h with rfl | h
  ·omega
  ·have:=zli r e h
   omega
theorem bulk_bk (H:Type):Bk (Rows.uptoBulk (H:=H)) where
 el es rest e h:=by
  have:=zli es e h
  simp only[Rows.uptoBulk]
  omega
 len es rest:=by
  have:=len_le es
  simp only[Rows.uptoBulk]
  omega
 ag ps p h:=by
  have:=zli ps p h
  simp only[Rows.uptoBulk]
  omega
theorem zlj {w w1:World} (h:Lib.TabIs Tryz.prog w "math/bits.deBruijn32tab" .u8 zs32) (hb:Below w.heap.size w w1):Lib.TabIs Tryz.prog w1 "math/bits.deBruijn32tab" .u8 zs32:=by
 unfold Lib.TabIs World.var? at h ⊢
 rw[gTab] at h ⊢
 have h0:2<w.heap.size:=by
  rcases Nat.lt_or_ge 2 w.heap.size with h0 | h0
  ·exact h0
  ·simp only[Option.bind_some] at h;rw[Array.getElem?_eq_none (by omega)] at h;cases h
 simp only[Option.bind_some] at h ⊢
 rw[hb.block 2 h0]
 exact h
theorem tb_of {w:World} (h:Lib.TabIs Tryz.prog w "math/bits.deBruijn32tab" .u8 zs32):Tb w:=by
 refine⟨?_,fun j hj=>?_⟩
 ·unfold Lib.TabIs World.var? at h
  rw[gTab] at h
  rcases Nat.lt_or_ge 2 w.heap.size with h0 | h0
  ·exact h0
  ·simp only[Option.bind_some] at h;rw[Array.getElem?_eq_none (by omega)] at h;cases h
 ·have h1:=h.cell gTab j (by simp[zs32];omega)
  have h2:∀k:Fin 32,zs32.getD k.val 0=((Lib.deBruijn32tab.getD k.val 0:Nat):Int):=by decide
  have h3:=h2 ⟨j,hj⟩
  simp only at h3
  rw[<-h3]
  exact h1
theorem zlk {P:Program} {x:String × DataW Unit} {r:List (String × DataW Unit)} {w:World} (h:laidMet P (x::r) w):laidMet P r w:=by
 obtain⟨ps,⟨g,t,cs,f,p,q,_,_,_,_,hr,rfl⟩,hn,ha⟩:=h
 exact⟨q,hr,(List.nodup_append.1 hn).2.1,fun b o hb=>ha b o (List.mem_append_right _ hb)⟩
theorem gPow:Tryz.prog.globalNamed "internal/strconv.uint64pow10"=some 0:=by kernel_rfl
theorem gPowType:(Tryz.prog.globals[0]?).map (·.type)=some 433:=by kernel_rfl
theorem uPow:Tryz.prog.underlying 433=some (.array 20 121):=by kernel_rfl
theorem uWord:Tryz.prog.underlying 121=some (.int .u64):=by kernel_rfl
theorem cPow:Tryz.prog.cellsOf 433=20:=by kernel_rfl
theorem cell64:Tryz.prog.cellsOf 121=1:=by kernel_rfl
theorem step_of {H:Type} {enc:TypeId × Value->H} {W:World} {v:Value} {d:DataW H} {p:List MemPlace} (hs:Rows.uptoBulk d<=1048576) (h:DataW.Trod enc Tryz.prog W 0 (fun _=>true) true 32 v d p):
  ∃(X:St) (D:Sd),v=D.val/\StOk W X D/\X.wfT:=by
 obtain⟨fuel,hf⟩:=h
 obtain⟨X,D,hc,hok,hwf⟩:=zj3 (bulk_bk H) fuel _ (d,p) hs hf
 refine⟨X,D,?_,hok,hwf⟩
 cases v with
 | agg cs=>
  simp only[Value.cells] at hc
  unfold Sd.val
  rw[<-hc]
 | _=>simp[Value.cells,Sd.cells] at hc
def lay (vs:Array Value):Obj->Obj
 | .cells _ t frozen=>.cells vs t frozen
 | o=>o
noncomputable def laidWorld (os:Os):World:=
 { World.holding Tryz.prog os ⟨#[],#[],[]⟩ with heap:=((((World.holding Tryz.prog os ⟨#[],#[],[]⟩).heap.modify 0 (lay #[.int .u64 1,.int .u64 10,.int .u64 100,.int .u64 1000,.int .u64 10000,.int .u64 100000,.int .u64 1000000,.int .u64 10000000,.int .u64 100000000,.int .u64 1000000000,.int .u64 10000000000,.int .u64 100000000000,.int .u64 1000000000000,.int .u64 10000000000000,.int .u64 100000000000000,.int .u64 1000000000000000,.int .u64 10000000000000000,.int .u64 100000000000000000,.int .u64 1000000000000000000,.int .u64 10000000000000000000])).modify 2 (lay #[.int .u8 0,.int .u8 1,.int .u8 28,.int .u8 2,.int .u8 29,.int .u8 14,.int .u8 24,.int .u8 3,.int .u8 30,.int .u8 22,.int .u8 20,.int .u8 15,.int .u8 25,.int .u8 17,.int .u8 4,.int .u8 8,.int .u8 31,.int .u8 27,.int .u8 13,.int .u8 23,.int .u8 21,.int .u8 19,.int .u8 16,.int .u8 7,.int .u8 26,.int .u8 12,.int .u8 18,.int .u8 6,.int .u8 11,.int .u8 5,.int .u8 10,.int .u8 9])).modify 3 (lay #[.int .u8 0,.int .u8 1,.int .u8 56,.int .u8 2,.int .u8 57,.int .u8 49,.int .u8 28,.int .u8 3,.int .u8 61,.int .u8 58,.int .u8 42,.int .u8 50,.int .u8 38,.int .u8 29,.int .u8 17,.int .u8 4,.int .u8 62,.int .u8 47,.int .u8 59,.int .u8 36,.int .u8 45,.int .u8 43,.int .u8 51,.int .u8 22,.int .u8 53,.int .u8 39,.int .u8 33,.int .u8 30,.int .u8 24,.int .u8 18,.int .u8 12,.int .u8 5,.int .u8 63,.int .u8 55,.int .u8 48,.int .u8 27,.int .u8 60,.int .u8 41,.int .u8 37,.int .u8 16,.int .u8 46,.int .u8 35,.int .u8 44,.int .u8 21,.int .u8 52,.int .u8 32,.int .u8 23,.int .u8 11,.int .u8 54,.int .u8 26,.int .u8 40,.int .u8 15,.int .u8 34,.int .u8 20,.int .u8 31,.int .u8 10,.int .u8 25,.int .u8 14,.int .u8 19,.int .u8 9,.int .u8 13,.int .u8 8,.int .u8 7,.int .u8 6])) }
end Go.Proofs.YtnnhofmknilopaaGreatDoor
