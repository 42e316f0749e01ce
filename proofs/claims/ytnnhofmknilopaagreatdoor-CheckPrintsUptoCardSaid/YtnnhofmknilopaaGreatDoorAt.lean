import Derived.Test.YtnnhofmknilopaaGreatDoorRows
import Derived.LaidByTextLater
import Derived.SevenTiedAt
import Derived.LaidSub
import Derived.LaidOnce
namespace Go.Proofs.YtnnhofmknilopaaGreatDoor
open Go
set_option maxRecDepth 100000
def laid3:List (String × DataW Unit):=[("math/bits.deBruijn32tab",Rows.laid_math_bits_deBruijn32tab),("internal/strconv.uint64pow10",Rows.laid_internal_strconv_uint64pow10),("math/bits.deBruijn64tab",Rows.laid_math_bits_deBruijn64tab)]
theorem tie1:Tryz.prog.worded (varsWordLater true)=true:=by kernel_rfl
theorem tie2:Tryz.prog.worded (varsWordLater !true)=false:=by kernel_rfl
theorem tie3:Tryz.prog.worded rootWordLater=true:=by kernel_rfl
theorem tie4:laid3.map (fun x=>Tryz.prog.kindOfLater x.1)=[LaidKind.data,.data,.data].map some:=by kernel_rfl
theorem tie5:(Tryz.prog.funcNamed "gosem.cut.vars").isSome=true:=by kernel_rfl
theorem tie6:varsNamedLaterB Tryz.prog (varsId Tryz.prog) laid3=true:=by kernel_rfl
theorem tie7:∀os tape,doorLeaves Tryz.prog 24 8 65 laid3 os tape=some (laid3.filter fun x=>x.2.handleName?.isNone,(funcsListed laid3).map (·.2.funcsOut)):=fun _ _=>by kernel_rfl
theorem tieAll:Tryz.prog.laidByTextLater laid3 [.data,.data,.data] true:=Program.laidByTextLater_by_one 24 8 65 tie1 tie2 tie3 tie4 tie5 tie6 tie7
theorem noUnsafe:Tryz.pinned.checked.prog.headLifts.contains "ownunsafe"=false:=by kernel_rfl
end Go.Proofs.YtnnhofmknilopaaGreatDoor
