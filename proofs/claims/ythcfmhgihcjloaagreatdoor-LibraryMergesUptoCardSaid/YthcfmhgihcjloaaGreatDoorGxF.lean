import Derived.Test.YthcfmhgihcjloaaGreatDoorGxE
namespace Go.Proofs.YthcfmhgihcjloaaGreatDoor.Gx
open Go Go.RowKit
theorem Grew.of_below {w w':World} (h:Below w.1.size w w'):Grew w w':=⟨h.size,h.block,h.tape,h.os,h.output⟩
theorem SealOk.use {E:Env} {f:FuncId} {args:List AV} {v:AV} (h:SealOk E f args (.ret v)) {F:Nat->Prop} {w:World} {us:Array Value} (i:Sess E F cP [] w)
  (g:LRel (Bd F cP []) w cP args us.toList) {a:World} (j:Below w.1.size w a):
  Calls E.P f us a λe b=>(∃u,e=.returned u/\VRel F b cP v u)/\Below a.1.size a b:=by
 obtain⟨h1,h2⟩:=i.grew<|Grew.of_below j;exact(h.calls h1<|h2.list g).mono λe b d=>⟨d.1,d.2.below⟩
section
variable {B:Nat->Prop} {w:World} {φ:cO}
theorem VRel.agg_inv {cs:List AV} {u:Value} (h:VRel B w φ (.agg cs) u):∃vs:Array Value,u=.agg vs/\LRel B w φ cs vs.toList:=by
 cases h with
 | agg hl hv=>exact⟨_,rfl,by simpa using hl,λj x v b a=>hv j x v b<|by simpa using a⟩
theorem VRel.tup_inv {cs:List AV} {u:Value} (h:VRel B w φ (.tup cs) u):∃vs:Array Value,u=.tuple vs/\LRel B w φ cs vs.toList:=by
 cases h with
 | tup hl hv=>exact⟨_,rfl,by simpa using hl,λj x v b a=>hv j x v b<|by simpa using a⟩
theorem VRel.agg_mk {cs:List AV} {vs:Array Value} (h:LRel B w φ cs vs.toList):VRel B w φ (.agg cs) (.agg vs):=
 .agg (by simpa using h.1) (λj x v a hv=>h.2 j x v a<|by simpa using hv)
theorem VRel.int_inv {k:IntKind} {n:Int} {u:Value} (h:VRel B w φ (.int k n) u):u=.int k n:=by cases h;rfl
theorem VRel.bool_inv {b:Bool} {u:Value} (h:VRel B w φ (.bool b) u):u=.bool b:=by cases h;rfl
theorem VRel.str_inv {l:List UInt8} {u:Value} (h:VRel B w φ (.str l) u):u=.string ⟨l.toArray⟩:=by cases h;rfl
theorem VRel.nilsl_inv {u:Value} (h:VRel B w φ .nilsl u):u=.slice none 0 0:=by cases h;rfl
theorem PT {α:Type} {a:Array α} {l:List α} (h:a.toList=l):a=l.toArray:=by cases a;simp_all
end
