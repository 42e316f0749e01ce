import Derived.Test.YthcfmhgihcjloaaGreatDoorTabA1
import Derived.Test.YthcfmhgihcjloaaGreatDoorTabA2
import Derived.Test.YthcfmhgihcjloaaGreatDoorTabA3
import Derived.Test.YthcfmhgihcjloaaGreatDoorTabA4
import Derived.Test.YthcfmhgihcjloaaGreatDoorPk01
import Derived.Test.YthcfmhgihcjloaaGreatDoorGxF
import Derived.Lib.LaidTab
import Derived.LaidSub
import Derived.MakeChecks
import Derived.ChangeMaps5
namespace Go.Proofs.YthcfmhgihcjloaaGreatDoor
open Go Go.Proofs.YthcfmhgihcjloaaGreatDoor.Gx Go.RowKit Go.ChangeShapes
theorem mixed:Tryz.prog.follows .mixedOrders=true:=by kernel_rfl
theorem noNum:fT Tryz.prog:=by
 have h:(Tryz.prog.funcs.toList.all λfn=>!fn.body.isSome||!(fn.name == "runtime.NumGoroutine"))=true:=by kernel_rfl
 intro f fn b a;have d:fn∈Tryz.prog.funcs.toList:=by rw[tl];exact qJ b
 have:=lj.1 h fn d;simp only[a,Bool.not_true,qO,pN] at this;exact this
theorem Ow:TabOk P0 G0 Kr:=TabOk.nil _ _
theorem Ox:TabOk P0 G0 Ks:=TabOk.chk Ow noNum mixed Kv
theorem Oy:TabOk P0 G0 Kt:=TabOk.chk Ox noNum mixed Kw
theorem Oz:TabOk P0 G0 tw3:=TabOk.chk Oy noNum mixed Kx
theorem OA:TabOk P0 G0 Uv:=TabOk.chk Oz noNum mixed Kz
theorem OB:SealOk (jg P0 G0 (λ_=>true) []) 7 [] (.ret<|.bool true):=OA (7,[],.bool true)<|mP _<|by unfold Ku;simp
def oL:List Int:=[0,1,28,2,29,14,24,3,30,22,20,15,25,17,4,8,31,27,13,23,21,19,16,7,26,12,18,6,11,5,10,9]
theorem wm:Tryz.prog.globalNamed "math/bits.deBruijn32tab"=some 0:=by kernel_rfl
theorem Ir {w:World} (ht:Lib.TabIs Tryz.prog w "math/bits.deBruijn32tab" .u8 oL):∀g cs,G0 g=some cs->VRel (λ_=>False) w cP (.iptr cs) (.pointer<|some ⟨g,0,none⟩):=by
 intro g cs a;have h0:=Ac ht wm (by simp[oL]);unfold G0 at a;split at a
 .simp only[mc] at a;subst a;exact h0
 cases a
theorem OC {w:World} (ht:Lib.TabIs Tryz.prog w "math/bits.deBruijn32tab" .u8 oL):bF w 7 #[] (.bool true):=
 (OB.true_calls (Ir ht) .nil).mono λ_e _w' a=>⟨a.1,a.2.below⟩
