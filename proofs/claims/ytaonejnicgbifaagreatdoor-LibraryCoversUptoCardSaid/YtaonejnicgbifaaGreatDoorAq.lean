import Derived.Test.YtaonejnicgbifaaGreatDoorAp
import Derived.Test.YtaonejnicgbifaaGreatDoorCt
namespace Go.Proofs.YtaonejnicgbifaaGreatDoor
open Go Go.Proofs.YtaonejnicgbifaaGreatDoor.Gx
theorem rowTie3:Rows.libraryCoversUptoRow.laidByTextAt .later Tryz.pinned [.data,.data,.data] true:=
 OpenClaim.laidByTextAt_later rfl rfl tieAll noUnsafe
theorem name3:Tryz.prog.funcNamed "inequality/inequalitylaw09.LibraryCovers"=some 3:=by kernel_rfl
theorem look3:Tryz.prog.looks []=true:=by kernel_rfl
theorem zki:Tryz.prog.wantsStandIn 22=false:=by kernel_rfl
theorem zkj:Tryz.prog.wantsStandIn 24=false:=by kernel_rfl
theorem zkk:Tryz.prog.wantsStandIn 34=false:=by kernel_rfl
theorem goes3:Rows.libraryCoversUptoRow.goesBy Tryz.prog=false:=by
 show(Program.goesFrom Tryz.prog "inequality/inequalitylaw09.LibraryCovers"||false)=false
 rw[Bool.or_false,Program.goesFrom,name3,Option.any_some]
 exact goes_none noGo _
set_option maxRecDepth 100000 in
theorem plain3 (f:FuncId) (fn:Func) (hf:Tryz.pinned.checked.prog.funcNamed Rows.libraryCoversUptoRow.func=some f) (hfn:Tryz.pinned.checked.prog.funcs[f]?=some fn):
  true=Tryz.pinned.checked.prog.looks []/\∀(j:Nat) t,fn.params[j]?=some t->Tryz.pinned.checked.prog.wantsStandIn t=false:=by
 obtain rfl:f=3:=Option.some.inj (name3.symm.trans hf) |>.symm
 obtain rfl:fn=Tryz.f3:=(Option.some.inj (fn3.symm.trans hfn)).symm
 refine⟨look3.symm,fun j t ht=>?_⟩
 rw[ps3] at ht
 have hm:t∈#[22,24,34]:=Array.mem_of_getElem? ht
 have:t=22\/t=24\/t=34:=by simpa using hm
 rcases this with rfl | rfl | rfl
 ·exact zki
 ·exact zkj
 ·exact zkk
theorem main3:Tryz.prog.mainIs=some (true,Rows.libraryCoversUptoCard.stood.harness.2.toList):=by kernel_rfl
theorem wf3:Rows.libraryCoversUptoRow.wfByText (Rows.OpenSpec.upto Rows.libraryCoversSpec)=true:=by kernel_rfl
set_option maxRecDepth 100000 in
theorem coversCard:Rows.LibraryCoversUptoCardSaid:=
 Claim7.holds_tied_plain_at .later [] _ _ _ _ said3 (fun _ h=>by cases h) wf3 (fun _ h=>by cases h) rowTie3 rfl ⟨rfl,rfl⟩ main3 rfl plain3 goes3.symm
end Go.Proofs.YtaonejnicgbifaaGreatDoor
