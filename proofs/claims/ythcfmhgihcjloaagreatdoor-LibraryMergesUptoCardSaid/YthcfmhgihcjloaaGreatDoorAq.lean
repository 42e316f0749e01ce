/-
  LibraryMerges returns true for any two lists of entries whose data are of bulk at most 1048576, whatever the tape; its input reads behind the call as it read before. The package tables that it comes to hold what their literals say.
-/
import Derived.Test.YthcfmhgihcjloaaGreatDoorAp
import Derived.Test.YthcfmhgihcjloaaGreatDoorAt
namespace Go.Proofs.YthcfmhgihcjloaaGreatDoor
open Go Go.Proofs.YthcfmhgihcjloaaGreatDoor.Gx
theorem zM:Rows.libraryMergesUptoRow.laidByTextAt .later Tryz.pinned [.data,.data,.data] true:=
 OpenClaim.laidByTextAt_later rfl rfl Cs wj
theorem Bo:Tryz.prog.funcNamed "inequality/inequalitylaw09.LibraryMerges"=some 3:=by kernel_rfl
theorem EN:Tryz.prog.looks []=true:=by kernel_rfl
theorem Ou:Tryz.prog.wantsStandIn 22=false:=by kernel_rfl
theorem EP:Rows.libraryMergesUptoRow.goesBy Tryz.prog=false:=by show(Program.goesFrom Tryz.prog "inequality/inequalitylaw09.LibraryMerges"||false)=false;rw[Bool.or_false,Program.goesFrom,Bo,Option.any_some];exact PS HD _
set_option maxRecDepth 100000 in
theorem Cr (f:FuncId) (fn:Func) (a:Tryz.pinned.checked.prog.funcNamed Rows.libraryMergesUptoRow.func=some f) (b:Tryz.pinned.checked.prog.funcs[f]?=some fn):
  true=Tryz.pinned.checked.prog.looks []/\∀(j:Nat) t,fn.params[j]?=some t->Tryz.pinned.checked.prog.wantsStandIn t=false:=by
 obtain rfl:f=3:=pD (Bo.symm.trans a) |>.symm
 obtain rfl:fn=Tryz.f3:=(pD<|H'.symm.trans b).symm;refine⟨EN.symm,λj t ht=>?_⟩;rw[DM] at ht;have d:t∈#[22,22]:=qJ ht;have:t=22:=by simpa using d
 subst this;exact Ou
theorem EQ:Tryz.prog.mainIs=some (true,Rows.libraryMergesUptoCard.stood.harness.2.toList):=by kernel_rfl
theorem Ov:Rows.libraryMergesUptoRow.wfByText (Rows.OpenSpec.upto Rows.libraryMergesSpec)=true:=by kernel_rfl
set_option maxRecDepth 100000 in
theorem mergesCard:Rows.LibraryMergesUptoCardSaid:=
 Claim7.holds_tied_plain_at .later [] _ _ _ _ EM (λ_ h=>by cases h) Ov (λ_ h=>by cases h) zM rfl ⟨rfl,rfl⟩ EQ rfl Cr EP.symm
