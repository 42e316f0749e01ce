import Derived.Test.YtfhjhnofkaiceaaGreatDoorLbA
import Derived.Test.YtfhjhnofkaiceaaGreatDoorDvU
namespace Go.Proofs.YtfhjhnofkaiceaaGreatDoor
open Go Go.RowKit
theorem c55:Tryz.prog.cellsOf 55=33:=by kernel_rfl
theorem c48:Tryz.prog.cellsOf 48=10:=by kernel_rfl
theorem c45:Tryz.prog.cellsOf 45=1:=by kernel_rfl
theorem c46:Tryz.prog.cellsOf 46=1:=by kernel_rfl
section
variable {H:Type} {enc:TypeId × Value->H} {w:World} {spare:Nat->Bool} {held:Bool} {B:DataW H->Nat}
theorem open_key {fuel:Nat} {cs:List Value} {x:DataW H × List MemPlace} (h:DataW.trod enc Tryz.prog w 0 spare held fuel 24 cs=some x):∃k:ByteArray × Int,cs=kcells k/\KyOk k:=by
 obtain⟨xs,n,hn,rfl,hl,hxl0,hf⟩:=DataW.trod_struct Tryz.underlying24 h
 have hxl:xs.length=2:=hxl0
 clear hxl0
 have hl:cs.length=2:=by rw[hl];kernel_rfl
 obtain⟨a0,cs0r,rfl,hl0⟩:=list_cons (n:=1) hl
 obtain⟨a1,cs1r,rfl,hl1⟩:=list_cons (n:=0) hl0
 obtain rfl:=List.length_eq_zero_iff.1 hl1
 obtain⟨y0,xs0r,rfl,hxl'0⟩:=list_cons (n:=1) hxl
 obtain⟨y1,xs1r,rfl,hxl'1⟩:=list_cons (n:=0) hxl'0
 obtain rfl:=List.length_eq_zero_iff.1 hxl'1
 have h0:DataW.trod enc Tryz.prog w 0 spare held n 9 [a0]=some y0:=by have:=hf 0 _ rfl;simpa [c9] using this
 have h1:DataW.trod enc Tryz.prog w 0 spare held n 3 [a1]=some y1:=by have:=hf 1 _ rfl;simpa [c3] using this
 obtain⟨s,e0,_,w0⟩:=DataW.trod_string Tryz.underlying9 h0
 obtain⟨v,e1,_,w1⟩:=DataW.trod_int Tryz.underlying3 h1
 simp only[List.cons.injEq,and_true] at e0 e1
 subst e0 e1
 exact⟨(s,v),rfl,w0,w1⟩
set_option maxRecDepth 100000 in
theorem agg22 {W:World} {base:Nat} {cs:Array Value} (hv:Value.okWide Tryz.prog W .any base 22 (.agg cs)):False:=by
 simp[Value.okWide,Cell.okWide,Cell.ok] at hv
set_option maxRecDepth 100000 in
theorem zdv {base:Nat} {v:Value} {q:Option Addr} {n c:Nat} (hv:Value.okWide Tryz.prog w .any base 22 v) (h:v.cells.toList=[.slice q n c]):v=.slice q n c:=by
 cases v with
 | agg cs=>exact(agg22 hv).elim
 | _=>clear hv;simp_all [Value.cells]
set_option maxRecDepth 100000 in
theorem zfq {v:Value} {k:ByteArray × Int} (h:v.cells.toList=kcells k):v=.agg #[.string k.1,.int .i64 k.2]:=by
 cases v with
 | agg cs=>
  simp only[Value.cells] at h
  rw[show cs=#[.string k.1,.int .i64 k.2] from Array.toList_inj.1 h]
 | _=>simp[Value.cells,kcells] at h
instance:Inhabited En:=⟨⟨(⟨#[]⟩,0),[]⟩⟩
end
end Go.Proofs.YtfhjhnofkaiceaaGreatDoor
