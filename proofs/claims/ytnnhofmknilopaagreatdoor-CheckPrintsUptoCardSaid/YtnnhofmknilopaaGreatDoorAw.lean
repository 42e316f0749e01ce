import Derived.Test.YtnnhofmknilopaaGreatDoorTabA1
import Derived.Test.YtnnhofmknilopaaGreatDoorTabA2
import Derived.Test.YtnnhofmknilopaaGreatDoorTabA3
import Derived.Test.YtnnhofmknilopaaGreatDoorTabA4
import Derived.Test.YtnnhofmknilopaaGreatDoorGxF
import Derived.Lib.LaidTab
import Derived.LaidSub
import Derived.MakeChecks
import Derived.ChangeMaps5
namespace Go.Proofs.YtnnhofmknilopaaGreatDoor
open Go Go.Proofs.YtnnhofmknilopaaGreatDoor.Gx Go.RowKit Go.ChangeShapes
theorem mixed:Tryz.prog.follows .mixedOrders=true:=by kernel_rfl
theorem noNum:NoNum Tryz.prog:=by
 have h:(Tryz.prog.funcs.toList.all fun fn=>!fn.body.isSome||!(fn.name == "runtime.NumGoroutine"))=true:=by kernel_rfl
 intro f fn hf hb
 have hm:fn∈Tryz.prog.funcs.toList:=by
  rw[Array.mem_toList_iff];exact Array.mem_of_getElem? hf
 have:=List.all_eq_true.1 h fn hm
 simp only[hb,Bool.not_true,Bool.false_or,Bool.not_eq_true'] at this
 exact this
theorem noX:XOk P0 X0:=fun f k h=>by cases h
theorem ok0:TabOk P0 G0 tw0:=TabOk.nil _ _
theorem ok1:TabOk P0 G0 tw1:=TabOk.chk ok0 noNum mixed noX chk1
theorem ok2:TabOk P0 G0 tw2:=TabOk.chk ok1 noNum mixed noX chk2
theorem ok3:TabOk P0 G0 tw3:=TabOk.chk ok2 noNum mixed noX chk3
theorem ok4:TabOk P0 G0 tw4:=TabOk.chk ok3 noNum mixed noX chk4
theorem ok5:TabOk P0 G0 tw5:=TabOk.chk ok4 noNum mixed noX chk5
theorem ok6:TabOk P0 G0 tw6:=TabOk.chk ok5 noNum mixed noX chk6
theorem ok7:TabOk P0 G0 tw7:=TabOk.chk ok6 noNum mixed noX chk7
theorem ok8:TabOk P0 G0 tw8:=TabOk.chk ok7 noNum mixed noX chk8
theorem zj6:SealOk (tenv P0 G0 (fun _=>none) (fun _=>true) []) 6 [] (.ret (.bool true)):=ok8 (6,[],.bool true) (List.mem_append_left _ (by unfold dw8;simp))
def zs32:List Int:=[0,1,28,2,29,14,24,3,30,22,20,15,25,17,4,8,31,27,13,23,21,19,16,7,26,12,18,6,11,5,10,9]
theorem gTab:Tryz.prog.globalNamed "math/bits.deBruijn32tab"=some 2:=by kernel_rfl
theorem tabs {w:World} (ht:Lib.TabIs Tryz.prog w "math/bits.deBruijn32tab" .u8 zs32):∀g cs,G0 g=some cs->VRel (fun _=>False) w phi0 (.iptr cs) (.pointer (some ⟨g,0,none⟩)):=by
 intro g cs hg
 have h0:=tab_rel ht gTab (by simp[zs32])
 unfold G0 at hg
 split at hg
 ·simp only[Option.some.injEq] at hg;subst hg;exact h0
 ·cases hg
theorem zih {w:World} (ht:Lib.TabIs Tryz.prog w "math/bits.deBruijn32tab" .u8 zs32):Calls Tryz.prog 6 #[] w fun e w'=>e=.returned (.bool true)/\Below w.heap.size w w':=
 (zj6.true_calls (tabs ht) .nil).mono fun _e _w' he=>⟨he.1,he.2.below⟩
end Go.Proofs.YtnnhofmknilopaaGreatDoor
