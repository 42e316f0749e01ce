import Derived.Test.YtnnhofmknilopaaGreatDoorGxE
namespace Go.Proofs.YtnnhofmknilopaaGreatDoor.Gx
open Go Go.RowKit
theorem Grew.of_below {w w':World} (h:Below w.heap.size w w'):Grew w w':=⟨h.size,h.block,h.tape,h.os,h.output⟩
theorem SealOk.use {E:Env} {f:FuncId} {args:List AV} {v:AV} (h:SealOk E f args (.ret v)) {F:Nat->Prop} {w:World} {us:Array Value} (hS:Sess E F phi0 [] w)
  (hA:LRel (Bd F phi0 []) w phi0 args us.toList) {w1:World} (hg:Below w.heap.size w w1):
  Calls E.P f us w1 fun e w2=>(∃u,e=.returned u/\VRel F w2 phi0 v u)/\Below w1.heap.size w1 w2:=by
 obtain⟨h1,h2⟩:=hS.grew (Grew.of_below hg)
 exact(h.calls h1 (h2.list hA)).mono fun e w2 he=>⟨he.1,he.2.below⟩
section
variable {B:Nat->Prop} {w:World} {φ:Phi}
theorem VRel.agg_inv {cs:List AV} {u:Value} (h:VRel B w φ (.agg cs) u):∃vs:Array Value,u=.agg vs/\LRel B w φ cs vs.toList:=by
 cases h with
 | agg hl hv=>exact⟨_,rfl,by simpa using hl,fun j x v hx hv'=>hv j x v hx (by simpa using hv')⟩
theorem VRel.tup_inv {cs:List AV} {u:Value} (h:VRel B w φ (.tup cs) u):∃vs:Array Value,u=.tuple vs/\LRel B w φ cs vs.toList:=by
 cases h with
 | tup hl hv=>exact⟨_,rfl,by simpa using hl,fun j x v hx hv'=>hv j x v hx (by simpa using hv')⟩
theorem VRel.agg_mk {cs:List AV} {vs:Array Value} (h:LRel B w φ cs vs.toList):VRel B w φ (.agg cs) (.agg vs):=
 .agg (by simpa using h.1) (fun j x v hx hv=>h.2 j x v hx (by simpa using hv))
theorem VRel.int_inv {k:IntKind} {n:Int} {u:Value} (h:VRel B w φ (.int k n) u):u=.int k n:=by cases h;rfl
theorem VRel.bool_inv {b:Bool} {u:Value} (h:VRel B w φ (.bool b) u):u=.bool b:=by cases h;rfl
theorem VRel.str_inv {l:List UInt8} {u:Value} (h:VRel B w φ (.str l) u):u=.string ⟨l.toArray⟩:=by cases h;rfl
theorem VRel.nilsl_inv {u:Value} (h:VRel B w φ .nilsl u):u=.slice none 0 0:=by cases h;rfl
theorem arr_of_list {α:Type} {a:Array α} {l:List α} (h:a.toList=l):a=l.toArray:=by cases a;simp_all
end
end Go.Proofs.YtnnhofmknilopaaGreatDoor.Gx
