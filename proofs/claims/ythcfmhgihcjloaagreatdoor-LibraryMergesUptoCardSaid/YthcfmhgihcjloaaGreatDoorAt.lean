import Derived.Test.YthcfmhgihcjloaaGreatDoorRows
import Derived.LaidByTextLater
import Derived.SevenTiedAt
import Derived.LaidSub
import Derived.LaidOnce
namespace Go.Proofs.YthcfmhgihcjloaaGreatDoor
open Go
set_option maxRecDepth 100000
def oo:List (String × DataW Unit):=[("math/bits.deBruijn32tab",Rows.laid_math_bits_deBruijn32tab),("math/bits.deBruijn64tab",Rows.laid_math_bits_deBruijn64tab),("internal/strconv.uint64pow10",Rows.laid_internal_strconv_uint64pow10)]
theorem Ij:Tryz.prog.worded (varsWordLater true)=true:=by kernel_rfl
theorem Ik:Tryz.prog.worded (varsWordLater !true)=false:=by kernel_rfl
theorem Il:Tryz.prog.worded rootWordLater=true:=by kernel_rfl
theorem Im:oo.map (λx=>Tryz.prog.kindOfLater x.1)=[LaidKind.data,.data,.data].map some:=by kernel_rfl
theorem Io:(Tryz.prog.funcNamed "gosem.cut.vars").isSome=true:=by kernel_rfl
theorem Ip:varsNamedLaterB Tryz.prog (varsId Tryz.prog) oo=true:=by kernel_rfl
theorem Iq:∀os tape,doorLeaves Tryz.prog 24 8 65 oo os tape=some (oo.filter λx=>x.2.handleName?.isNone,(funcsListed oo).map (·.2.funcsOut)):=λ_ _=>by kernel_rfl
theorem Cs:Tryz.prog.laidByTextLater oo [.data,.data,.data] true:=Program.laidByTextLater_by_one 24 8 65 Ij Ik Il Im Io Ip Iq
theorem wj:Tryz.pinned.checked.prog.headLifts.contains "ownunsafe"=false:=by kernel_rfl
