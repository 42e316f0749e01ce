import Derived.Test.YtnnhofmknilopaaGreatDoorAp
import Derived.Test.YtnnhofmknilopaaGreatDoorAt
namespace Go.Proofs.YtnnhofmknilopaaGreatDoor
open Go Go.Proofs.YtnnhofmknilopaaGreatDoor.Gx
theorem uTie:Rows.checkPrintsUptoRow.laidByTextAt .later Tryz.pinned [.data,.data,.data] true:=
 OpenClaim.laidByTextAt_later rfl rfl tieAll noUnsafe
theorem uName:Tryz.prog.funcNamed "inequality/inequalitylaw07.CheckPrints"=some 3:=by kernel_rfl
theorem uLook:Tryz.prog.looks []=true:=by kernel_rfl
theorem uAlone32:Tryz.prog.wantsStandIn 32=false:=by kernel_rfl
theorem uGoes:Rows.checkPrintsUptoRow.goesBy Tryz.prog=false:=by
 show(Program.goesFrom Tryz.prog "inequality/inequalitylaw07.CheckPrints"||false)=false
 rw[Bool.or_false,Program.goesFrom,uName,Option.any_some]
 exact goes_none noGo _
set_option maxRecDepth 100000 in
theorem uPlain (f:FuncId) (fn:Func) (hf:Tryz.pinned.checked.prog.funcNamed Rows.checkPrintsUptoRow.func=some f) (hfn:Tryz.pinned.checked.prog.funcs[f]?=some fn):
  true=Tryz.pinned.checked.prog.looks []/\∀(j:Nat) t,fn.params[j]?=some t->Tryz.pinned.checked.prog.wantsStandIn t=false:=by
 obtain rfl:f=3:=Option.some.inj (uName.symm.trans hf) |>.symm
 obtain rfl:fn=Tryz.f3:=(Option.some.inj (fn3.symm.trans hfn)).symm
 refine⟨uLook.symm,fun j t ht=>?_⟩
 rw[ps3] at ht
 have hm:t∈#[32]:=Array.mem_of_getElem? ht
 obtain rfl:t=32:=by simpa using hm
 exact uAlone32
theorem uMainIs:Tryz.prog.mainIs=some (true,Rows.checkPrintsUptoCard.stood.harness.2.toList):=by kernel_rfl
theorem uWfText:Rows.checkPrintsUptoRow.wfByText (Rows.OpenSpec.upto Rows.checkPrintsSpec)=true:=by kernel_rfl
set_option maxRecDepth 100000 in
theorem printsCard:Rows.CheckPrintsUptoCardSaid:=
 Claim7.holds_tied_plain_at .later [] _ _ _ _ uSaid (fun _ h=>by cases h) uWfText (fun _ h=>by cases h) uTie rfl ⟨rfl,rfl⟩ uMainIs rfl uPlain uGoes.symm
end Go.Proofs.YtnnhofmknilopaaGreatDoor
