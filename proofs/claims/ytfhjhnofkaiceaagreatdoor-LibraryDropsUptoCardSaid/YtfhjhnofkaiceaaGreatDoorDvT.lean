import Derived.Test.YtfhjhnofkaiceaaGreatDoorDvS
import Derived.Shelf.SlSortCmp.NoneTotal
namespace Go.Proofs.YtfhjhnofkaiceaaGreatDoor
open Go Go.Shelf
def sortKeys_ren:Go.Shelf.Ren:=⟨fun | 6=>55 | 15=>75 | 14=>74 | 28=>101 | 29=>102 | 20=>93 | 21=>94 | 22=>95 | 23=>96 | 24=>97 | 25=>98 | 26=>99 | 27=>100 | 46=>128 | 47=>129 | 48=>130 | 49=>131 | 50=>132 | 57=>160 | n=>n,fun | 22=>29 | 24=>24 | 25=>78 | 3=>3 | 39=>123 | 0=>0 | 53=>137 | 55=>120 | 4=>4 | 46=>143 | 45=>142 | 50=>25 | 5=>5 | 9=>9 | 66=>178 | 70=>182 | 76=>217 | 77=>218 | n=>n,fun | n=>n⟩
theorem zed:Go.Proofs.SlLaysF0.n6 Tryz.prog sortKeys_ren:={
 mixed:=by kernel_rfl
 f6:=⟨Tryz.f55.name,by decide,Tryz.func55.trans (congrArg some (by kernel_rfl))⟩
 f14:=⟨Tryz.f74.name,by decide,Tryz.func74.trans (congrArg some (by kernel_rfl))⟩
 f15:=Tryz.func75.trans (congrArg some (by kernel_rfl))
 f20:=⟨Tryz.f93.name,by decide,Tryz.func93.trans (congrArg some (by kernel_rfl))⟩
 f21:=⟨Tryz.f94.name,by decide,Tryz.func94.trans (congrArg some (by kernel_rfl))⟩
 f22:=⟨Tryz.f95.name,by decide,Tryz.func95.trans (congrArg some (by kernel_rfl))⟩
 f23:=⟨Tryz.f96.name,by decide,Tryz.func96.trans (congrArg some (by kernel_rfl))⟩
 f24:=⟨Tryz.f97.name,by decide,Tryz.func97.trans (congrArg some (by kernel_rfl))⟩
 f25:=⟨Tryz.f98.name,by decide,Tryz.func98.trans (congrArg some (by kernel_rfl))⟩
 f26:=⟨Tryz.f99.name,by decide,Tryz.func99.trans (congrArg some (by kernel_rfl))⟩
 f27:=⟨Tryz.f100.name,by decide,Tryz.func100.trans (congrArg some (by kernel_rfl))⟩
 f28:=Tryz.func101.trans (congrArg some (by kernel_rfl))
 f29:=Tryz.func102.trans (congrArg some (by kernel_rfl))
 f46:=⟨Tryz.f128.name,by decide,Tryz.func128.trans (congrArg some (by kernel_rfl))⟩
 f47:=Tryz.func129.trans (congrArg some (by kernel_rfl))
 f48:=Tryz.func130.trans (congrArg some (by kernel_rfl))
 f49:=⟨Tryz.f131.name,by decide,Tryz.func131.trans (congrArg some (by kernel_rfl))⟩
 f50:=⟨Tryz.f132.name,by decide,Tryz.func132.trans (congrArg some (by kernel_rfl))⟩
 f57:=⟨Tryz.f160.name,by decide,Tryz.func160.trans (congrArg some (by kernel_rfl))⟩
 t0:=Tryz.underlying0
 a0:=Tryz.isAgg0
 z0:=Tryz.sizeOf0
 v0:=Tryz.zeroValue0
 t3:=Tryz.underlying3
 a3:=Tryz.isAgg3
 z3:=Tryz.sizeOf3
 v3:=Tryz.zeroValue3
 t4:=Tryz.underlying4
 a4:=Tryz.isAgg4
 z4:=Tryz.sizeOf4
 v4:=Tryz.zeroValue4
 t5:=Tryz.underlying5
 a5:=Tryz.isAgg5
 z5:=Tryz.sizeOf5
 v5:=Tryz.zeroValue5
 t9:=Tryz.underlying9
 a9:=Tryz.isAgg9
 z9:=Tryz.sizeOf9
 v9:=Tryz.zeroValue9
 t22:=Tryz.underlying29
 a22:=Tryz.isAgg29
 z22:=Tryz.sizeOf29
 v22:=Tryz.zeroValue29
 t25:=Tryz.underlying78
 a25:=Tryz.isAgg78
 z25:=Tryz.sizeOf78
 v25:=Tryz.zeroValue78
 t39:=Tryz.underlying123
 a39:=Tryz.isAgg123
 z39:=Tryz.sizeOf123
 v39:=Tryz.zeroValue123
 t45:=Tryz.underlying142
 a45:=Tryz.isAgg142
 z45:=Tryz.sizeOf142
 v45:=Tryz.zeroValue142
 t46:=Tryz.underlying143
 a46:=Tryz.isAgg143
 z46:=Tryz.sizeOf143
 v46:=Tryz.zeroValue143
 t50:=Tryz.underlying25
 a50:=Tryz.isAgg25
 z50:=Tryz.sizeOf25
 v50:=Tryz.zeroValue25
 t53:=Tryz.underlying137
 a53:=Tryz.isAgg137
 z53:=Tryz.sizeOf137
 v53:=Tryz.zeroValue137
 t55:=Tryz.underlying120
 a55:=Tryz.isAgg120
 z55:=Tryz.sizeOf120
 v55:=Tryz.zeroValue120
 t66:=Tryz.underlying178
 a66:=Tryz.isAgg178
 z66:=Tryz.sizeOf178
 v66:=Tryz.zeroValue178
 t70:=Tryz.underlying182
 a70:=Tryz.isAgg182
 z70:=Tryz.sizeOf182
 v70:=Tryz.zeroValue182
 t76:=Tryz.underlying217
 a76:=Tryz.isAgg217
 z76:=Tryz.sizeOf217
 v76:=Tryz.zeroValue217
 t77:=Tryz.underlying218
 a77:=Tryz.isAgg218
 z77:=Tryz.sizeOf218
 v77:=Tryz.zeroValue218 }
end Go.Proofs.YtfhjhnofkaiceaaGreatDoor
namespace Go.Proofs.YtfhjhnofkaiceaaGreatDoor
open Go Go.RowKit Go.Shelf Go.Sort
def Row (w:World) (g:Nat) (L:List Ky):Prop:=∀i k,L[i]?=some k->w.rangeAt g (0+i*2) (kcells k)/\∀c,c<2->w.frozen? ⟨g,0+i*2+c,none⟩=false
theorem Row.holds {w:World} {g:Nat} {L:List Ky} (h:Row w g L):HoldsK kcells 2 w g 0 L.toArray:=by
 intro j hj
 have hj':j<L.length*2:=by simpa using hj
 have hq:j / 2<L.length:=by omega
 have hk:=h (j / 2) (L[j / 2]) (List.getElem?_eq_getElem hq)
 have he:0+j / 2*2+j % 2=0+j:=by omega
 have hm:j % 2<2:=by omega
 have h1:=hk.1 (j % 2) ((kcells L[j / 2])[j % 2]'(by rw[zaf];exact hm)) (List.getElem?_eq_getElem _)
 have h2:=hk.2 (j % 2) hm
 rw[he] at h1 h2
 refine⟨?_,h2⟩
 rw[h1,get_flatK _ _ _ _ (by simpa using hj')]
 have e1:L.toArray[j / 2]! =L[j / 2]:=by simp[hq]
 rw[e1]
 simp only[id_eq,List.getElem!_eq_getElem?_getD]
 rw[List.getElem?_eq_getElem (by rw[zaf];exact hm)]
 rfl
theorem Row.of_holds {w:World} {g:Nat} {L:List Ky} (h:HoldsK kcells 2 w g 0 L.toArray):Row w g L:=by
 intro i k hk
 have hi:i<L.length:=(List.getElem?_eq_some_iff.1 hk).1
 have hk':L.toArray[i]! =k:=by
  rw[List.getElem?_eq_getElem hi] at hk
  simp only[Option.some.injEq] at hk
  simp[hi,hk]
 refine⟨fun c u hu=>?_,fun c hc=>?_⟩
 ·have hc:c<2:=by
   have:=(List.getElem?_eq_some_iff.1 hu).1
   rwa [zaf] at this
  have h1:=(HoldsK.cell h (i:=i) (c:=c) (by simpa using hi) hc).1
  rw[hk'] at h1
  rw[h1]
  have:(kcells k)[c]! =u:=by
   rw[List.getElem?_eq_getElem (by rw[zaf];exact hc)] at hu
   simp only[Option.some.injEq] at hu
   rw[List.getElem!_eq_getElem?_getD,List.getElem?_eq_getElem (by rw[zaf];exact hc)]
   exact hu
  rw[this]
 ·exact(HoldsK.cell h (i:=i) (c:=c) (by simpa using hi) hc).2
theorem zaw (x y:Ky):ltOf cmpK x y=decide (ltK x y):=by
 unfold ltOf
 exact decide_eq_decide.2 (cmpK_lt x y)
theorem swoK:SWO (ltOf cmpK) where
 irrefl x:=by rw[zaw];exact decide_eq_false (zba x)
 trans x y z h1 h2:=by
  rw[zaw] at*
  exact decide_eq_true (za4 (of_decide_eq_true h1) (of_decide_eq_true h2))
 ntrans x y z h1 h2:=by
  rw[zaw] at*
  have g1:=of_decide_eq_false h1
  have g2:=of_decide_eq_false h2
  refine decide_eq_false fun h=>?_
  rcases za5 x y with e | e | e
  ·exact g1 e
  ·subst e;exact g2 h
  ·exact g2 (za4 e h)
theorem totK (x y:Ky) (h1:ltOf cmpK x y=false) (h2:ltOf cmpK y x=false):x=y:=by
 rw[zaw] at h1 h2
 rcases za5 x y with e | e | e
 ·exact absurd e (of_decide_eq_false h1)
 ·exact e
 ·exact absurd e (of_decide_eq_false h2)
def sortK (L:List Ky):List Ky:=L.mergeSort fun x y=>!(ltOf cmpK) y x
theorem zbt (L:List Ky):(sortK L).Perm L:=List.mergeSort_perm _ _
theorem zf6 (L:List Ky):(sortK L).Pairwise (fun a b=>¬ltK b a):=by
 have h:(sortK L).Pairwise (fun a b=>(!(ltOf cmpK) b a)=true):=List.pairwise_mergeSort (fun a b c h1 h2=>by
  simp only[Bool.not_eq_true',zaw,decide_eq_false_iff_not] at*
  have:=swoK.ntrans c b a (by rw[zaw];exact decide_eq_false h2) (by rw[zaw];exact decide_eq_false h1)
  rw[zaw] at this
  exact of_decide_eq_false this) (fun a b=>by
  simp only[zaw]
  by_cases h:ltK b a
  ·have:=zda h
   simp[h,this]
  ·simp[h]) L
 refine h.imp ?_
 intro a b h
 rw[zaw] at h
 simpa using h
theorem ze3 (blk off size:Nat) (w:World):CmpLays Tryz.prog 56 #[] kcells 2 cmpK blk off size w:=by
 intro m os dk _ x y
 refine(byKey_ok x y _).mono ?_
 rintro e w' ⟨rfl,o3,rfl⟩
 have e1:∀(W:World) (a b:Obj),((W.alloc a).alloc b).drew=grow (W.drewN 1) (#[a]++#[b]):=fun W a b=>by
  rw[alloc_eq_grow,alloc_eq_grow,grow_grow]
  rfl
 exact⟨rfl,1,_,by rw[e1,alloc_eq_grow,grow_grow]⟩
theorem sort_ok {w:World} {g cap:Nat} {L:List Ky} (h:Row w g L) (hg:g<w.heap.size) (hn:L.length<=1048576):
  Calls Tryz.prog 55 #[.slice (some ⟨g,0,none⟩) L.length cap,.func (.func 56) #[] #[]] w fun e w'=>e=.returned (.tuple #[])/\Row w' g (sortK L)/\w.grownBy w' (some g):=by
 have eg:∀args w,(callFunc 56 args).run Tryz.prog w=.ok (.enter 56 args) w:=enters_of Tryz.func56 (by kernel_rfl) rfl
 have hcon:=Go.Proofs.AnyQ.slices_SortFunc_total zed 2 Tryz.isAgg24 Tryz.sizeOf24 kcells zaf (fun x v hv=>by simp only[kcells,List.mem_cons,List.not_mem_nil,or_false] at hv;rcases hv with rfl | rfl<;>rfl) cmpK swoK 56 #[] g 0 cap L.toArray w eg (ze3 g 0 L.toArray.size w) h.holds hg (by simp;omega) totK
 change Calls Tryz.prog 55 _ _ _ at hcon
 have hs:L.toArray.size=L.length:=by simp
 rw[hs] at hcon
 refine hcon.mono ?_
 rintro e w' ⟨rfl,n,os,rfl⟩
 have hz:(sortK L).toArray.size=L.toArray.size:=by simpa using (zbt L).length_eq
 refine⟨rfl,Row.of_holds (holdsK_sortWorldK_c kcells 2 w g 0 L.toArray (sortK L).toArray n os h.holds hg hz),?_⟩
 refine⟨rfl,rfl,rfl,size_sortWorldK_c kcells 2 w g 0 n _ os,fun k hk hne=>?_⟩
 unfold sortWorldK putRowK
 rw[heap_grow_old _ _ (by simpa using hk)]
 have:g≠k:=fun e=>hne (by rw[e])
 simp[putRow,mapBlock,Sort.ahead,Array.getElem?_modify,this]
end Go.Proofs.YtfhjhnofkaiceaaGreatDoor
namespace Go.Proofs.YtfhjhnofkaiceaaGreatDoor
open Go Go.RowKit
theorem zbu (b:Ky):∀(l:List Ky) (a:Ky),compK (l++[b,a])=if a=b then compK (l++[b]) else compK (l++[b])++[a]
 | [],a=>by
  simp only[List.nil_append,compK]
  split
  ·rename_i h;rw[h]
  ·rfl
 | [c],a=>by
  have h:=zbu b [] a
  simp only[List.nil_append] at h
  simp only[List.cons_append,List.nil_append]
  rw[compK,h]
  simp only[compK]
  by_cases h1:b=c
  ·simp only[h1,if_true]
  ·simp only[h1,if_false]
   split<;>simp
 | c::c'::l,a=>by
  have h:=zbu b (c'::l) a
  simp only[List.cons_append] at h ⊢
  rw[compK,compK,h]
  split
  ·rfl
  ·split<;>simp
theorem zdi:∀l:List Ky,(compK l).length<=l.length
 | []=>Nat.le_refl _
 | [a]=>Nat.le_refl _
 | a::b::l=>by
  have:=zdi (b::l)
  unfold compK
  split
  ·simp only[List.length_cons] at *;omega
  ·simp only[List.length_cons] at *;omega
theorem zbv {L:List Ky} {j:Nat} {a b:Ky} (ha:L[j+1]?=some a) (hb:L[j]?=some b):compK (L.take (j+2))=if a=b then compK (L.take (j+1)) else compK (L.take (j+1))++[a]:=by
 have h1:L.take (j+1)=L.take j++[b]:=by rw[List.take_add_one,hb];rfl
 have h2:L.take (j+2)=L.take j++[b,a]:=by
  rw[show j+2=(j+1)+1 from rfl,List.take_add_one,ha,h1]
  simp
 rw[h1,h2,zbu]
theorem Row.set {w:World} {g:Nat} {M:List Ky} {i:Nat} {k:Ky} (h:Row w g M) (hi:i<M.length):Row (w.setCells g (i*2) (kcells k)) g (M.set i k):=by
 intro j x hx
 have hf:∀c,c<2->(w.setCells g (i*2) (kcells k)).frozen? ⟨g,0+j*2+c,none⟩=w.frozen? ⟨g,0+j*2+c,none⟩:=fun c _=>World.frozen?_setCells _ _ _ _ _
 by_cases e:j=i
 ·subst e
  rw[List.getElem?_set_self hi] at hx
  cases hx
  obtain⟨h1,h2⟩:=h j _ (List.getElem?_eq_getElem hi)
  refine⟨?_,fun c hc=>by rw[hf c hc];exact h2 c hc⟩
  rw[Nat.zero_add] at h1 h2 ⊢
  refine World.rangeAt_setCells_same w g (j*2) (kcells k) (fun c hc=>⟨?_,h2 c hc⟩)
  rw[h1 c ((kcells M[j])[c]'hc) (List.getElem?_eq_getElem (by rw[zaf];exact hc))]
  rfl
 ·rw[List.getElem?_set_ne (fun e'=>e e'.symm)] at hx
  obtain⟨h1,h2⟩:=h j x hx
  refine⟨World.rangeAt_setCells_apart h1 g (i*2) (kcells k) (.inr ?_),fun c hc=>by rw[hf c hc];exact h2 c hc⟩
  rw[zaf,zaf]
  omega
theorem Row.there {w:World} {g:Nat} {M:List Ky} {i:Nat} (h:Row w g M) (hi:i<M.length):w.there g (i*2) 2:=by
 obtain⟨h1,h2⟩:=h i _ (List.getElem?_eq_getElem hi)
 rw[Nat.zero_add] at h1 h2
 intro c hc
 refine⟨?_,h2 c hc⟩
 rw[h1 c ((kcells M[i])[c]'hc) (List.getElem?_eq_getElem hc)]
 rfl
theorem Row.cell0 {w:World} {g:Nat} {M:List Ky} {i:Nat} {k:Ky} (h:Row w g M) (hi:M[i]?=some k):w.cell? ⟨g,i*2,none⟩=some (.string k.1):=by
 have:=(h i k hi).1 0 _ rfl
 simpa using this
theorem Row.cell1 {w:World} {g:Nat} {M:List Ky} {i:Nat} {k:Ky} (h:Row w g M) (hi:M[i]?=some k):w.cell? ⟨g,i*2+1,none⟩=some (.int .i64 k.2):=by
 have:=(h i k hi).1 1 _ rfl
 simpa using this
theorem zbf {w w':World} {g:Nat} (h:w.grownBy w' (some g)):∀(vs:List Value) (o:Nat),w.grownBy (w'.setCells g o vs) (some g):=by
 intro vs
 induction vs generalizing w' with
 | nil=>exact fun o=>h
 | cons v vs ih=>
  intro o
  refine ih (w':=w'.setCell ⟨g,o,none⟩ v) ⟨h.os,h.tape,h.output,by simpa using h.size,fun k hk hne=>?_⟩ (o+1)
  rw[Below.heap_setCell _ _ _ _ (fun e=>hne (by rw[e]))]
  exact h.block k hk hne
theorem za0 {w w':World} {r:Option Nat} (h:w.grownBy w' r) (n:Nat):w.grownBy (w'.drewN n) r:=⟨h.os,h.tape,h.output,h.size,h.block⟩
theorem zbn {P:Program} (w:World) (t e ty:TypeId) (z:Value) (ht:P.underlying t=some (.slice e)) (hv:∀w,(zeroValue e).run P w=.ok z w) (b o n c:Nat) (hn:0<n)
  (hc:∀j,j<(Builtin.zeroCells z.cells n).toList.length->(w.cell? ⟨b,o+j,none⟩).isSome=true) (hf:∀j,j<(Builtin.zeroCells z.cells n).toList.length->w.frozen? ⟨b,o+j,none⟩=false)
  (h1:∀v∈(Builtin.zeroCells z.cells n).toList,v.oneCell'=true):
  (Builtin.clear_ #[t] ty #[.slice (some ⟨b,o,none⟩) n c]).run P w=.ok (.tuple #[]) (w.setCells b o (Builtin.zeroCells z.cells n).toList):=by
 have hst:=run_storeCells_cells (P:=P) b o (Builtin.zeroCells z.cells n).toList 0 w (by simpa using hc) (by simpa using hf) h1
 simp only[Nat.add_zero] at hst
 obtain⟨m,rfl⟩:∃m,n=m+1:=⟨n - 1,by omega⟩
 simp[Builtin.clear_,run_underlying ht,hv,hst]
set_option maxRecDepth 100000 in
theorem zbo {w:World} (q:Option Addr) (n cap:Nat) (hn:n<2):Calls Tryz.prog 57 #[.slice q n cap] w fun e w'=>e=.returned (.slice q n cap)/\w'=w:=by
 have h:(n:Int)<2:=by omega
 go_enter Tryz.func57,Tryz.ntmps57
 go_wp2_with fail
 go_ret
 exact⟨rfl,rfl⟩
end Go.Proofs.YtfhjhnofkaiceaaGreatDoor
namespace Go.Proofs.YtfhjhnofkaiceaaGreatDoor
open Go Go.RowKit
def KeysAt (w:World) (g:Nat) (L:List Ky):Prop:=∀i k,L[i]?=some k->w.rangeAt g (0+i*2) (kcells k)
theorem zcx {C L:List Ky} {i kk:Nat} (hC:C.length=kk) (hi:kk<=i):(C++L.drop kk)[i]?=L[i]?:=by
 rw[List.getElem?_append_right (by omega),List.getElem?_drop,hC]
 congr 1
 omega
theorem set_at {C L:List Ky} {kk:Nat} {a:Ky} (hC:C.length=kk) (hk:kk<L.length):(C++L.drop kk).set kk a=(C++[a])++L.drop (kk+1):=by
 subst hC
 rw[List.set_append_right _ _ (Nat.le_refl _),Nat.sub_self,List.drop_eq_getElem_cons hk,List.set_cons_zero]
 simp
theorem ze4 (n:Nat):∀v∈(Builtin.zeroCells (Value.agg #[.string ⟨#[]⟩,.int .i64 0]).cells n).toList,v.oneCell'=true:=by
 intro v hv
 simp only[Builtin.zeroCells,Value.cells,Array.toList_map,List.mem_map] at hv
 obtain⟨i,_,rfl⟩:=hv
 show(#[Value.string ⟨#[]⟩,Value.int .i64 0][i % 2]!).oneCell'=true
 have h2:i % 2=0\/i % 2=1:=by omega
 rcases h2 with h | h
 ·rw[h];rfl
 ·rw[h];rfl
theorem zcc (n:Nat):(Builtin.zeroCells (Value.agg #[.string ⟨#[]⟩,.int .i64 0]).cells n).toList.length=n*2:=by
 simp[Builtin.zeroCells,Value.cells]
theorem key_row:∃d,Tryz.prog.underlying 24=some d/\d.isRow=true:=⟨_,Tryz.underlying24,rfl⟩
theorem key_size:(Tryz.prog.info? 24).map (·.size)=some 2:=by kernel_rfl
set_option maxRecDepth 100000 in
set_option maxHeartbeats 2000000 in
theorem zdj {w:World} {g n cap:Nat} {L:List Ky} (hL:L.length=n) (hn2:2<=n) (hn:n<=1048576) (hnc:n<=cap) (_hcm:cap<=maxLen) (h:Row w g L):
  Calls Tryz.prog 57 #[.slice (some ⟨g,0,none⟩) n cap] w fun e w'=>e=.returned (.slice (some ⟨g,0,none⟩) (compK L).length cap)/\KeysAt w' g (compK L)/\w.grownBy w' (some g):=by
 have hn2':¬(n:Int)<2:=by omega
 have h':Hid (Row w g L):=h
 clear h
 go_enter Tryz.func57,Tryz.ntmps57
 go_wp2_with fail
 go_loopw [3] (fun i wr=>∃m:Nat,m+1<=n/\i=.int .i64 ((m:Int)+1)/\compK (L.take (m+1))=L.take (m+1)/\Row wr g L/\w.grownBy wr (some g)) (fun i _=>n - (intOf i).toNat)
 case atStart=>
  refine⟨0,by omega,rfl,?_,h'.out,⟨rfl,rfl,rfl,Nat.le_refl _,fun _ _ _=>rfl⟩⟩
  obtain⟨a,ha⟩:∃a,L[0]?=some a:=⟨_,List.getElem?_eq_getElem (by omega)⟩
  rw[List.take_add_one,ha]
  rfl
 case round=>
  obtain⟨m,hm,rfl,hcomp,hrow,hgr⟩:=hrel
  have hcomp':Hid (compK (L.take (m+1))=L.take (m+1)):=hcomp
  have hrow':Hid (Row wr g L):=hrow
  clear hcomp
  by_cases hk:m+1<n
  ·have hk':(m:Int)+1<(n:Int):=by omega
   obtain⟨a,ha⟩:∃a,L[m+1]?=some a:=⟨_,List.getElem?_eq_getElem (by omega)⟩
   obtain⟨b,hb⟩:∃b,L[m]?=some b:=⟨_,List.getElem?_eq_getElem (by omega)⟩
   have d0:=hrow.cell0 ha
   have d1:=hrow.cell1 ha
   have d2:=hrow.cell0 hb
   have d3:=hrow.cell1 hb
   clear hrow
   have ha':Hid (L[m+1]?=some a):=ha
   have hb':Hid (L[m]?=some b):=hb
   clear ha hb
   obtain⟨an,av⟩:=a
   obtain⟨bn,bv⟩:=b
   simp only at d0 d1 d2 d3
   by_cases he:an.toList=bn.toList/\av=bv
   ·obtain⟨he1,rfl⟩:=he
    have heb:(an.toList==bn.toList)=true:=by simpa using he1
    have hab:((an,av):Ky)=(bn,av):=by rw[zaz he1]
    have hck:compK (L.take (m+1+0+1))=L.take (m+1):=by
     rw[show m+1+0+1=m+2 by omega,zbv ha'.out hb'.out,if_pos hab,hcomp'.out]
    have hcap:¬cap=m+1:=by omega
    have hmc:(m:Int)+1<=(cap:Int):=by omega
    obtain⟨ddk,huk,hdk⟩:=key_row
    have hHk:Hid (Tryz.prog.underlying 24=some ddk):=huk
    have hck':Hid (compK (L.take (m+1+0+1))=L.take (m+1)):=hck
    clear huk hck he1 hcomp'
    go_wp2_with fail
    go_quiet (fail)
    go_wp2_with fail
    obtain⟨N2,hN2⟩:∃N2,N2=n - (m+1):=⟨_,rfl⟩
    obtain⟨C2,hC2⟩:∃C2,C2=cap - (m+1):=⟨_,rfl⟩
    rw[<-hN2,<-hC2]
    have hN:m+1+N2=n:=by omega
    clear hN2 hC2
    have hN':Hid (m+1+N2=n):=hN
    clear hN
    go_loopw [3,5] (fun i i2 wq=>∃p kk:Nat,m+1+p+1<=n/\i=.int .i64 kk/\i2=.int .i64 ((p:Int)+1)/\(compK (L.take (m+1+p+1))).length=kk/\kk<=m+1+p/\Row wq g (compK (L.take (m+1+p+1))++L.drop kk)/\w.grownBy wq (some g)) (fun _ i2 _=>n - (intOf i2).toNat)
    case atStart=>
     refine⟨0,m+1,by omega,by simp,rfl,?_,by omega,?_,za0 hgr _⟩
     ·rw[hck'.out,List.length_take]
      omega
     ·rw[hck'.out,List.take_append_drop]
      exact hrow'.out
    case round=>
     clear hgr hck'
     obtain⟨p,kk,hp,rfl,rfl,hlen,hkk,hrw,hgq⟩:=hrel
     have hrw':Hid (Row wr g (compK (L.take (m+1+p+1))++L.drop kk)):=hrw
     have hlen':Hid ((compK (L.take (m+1+p+1))).length=kk):=hlen
     clear hrw hlen
     have hkc:(kk:Int)<=(cap:Int):=by omega
     have hkn:(kk:Int)<(n:Int):=by omega
     by_cases hq:m+1+p+1<n
     ·have hq0:p+1<N2:=by have:=hN'.out;omega
      have hq':(p:Int)+1<(N2:Int):=by omega
      obtain⟨a2,ha2⟩:∃a,L[m+1+p+1]?=some a:=⟨_,List.getElem?_eq_getElem (by omega)⟩
      obtain⟨b2,hb2⟩:∃b,L[m+1+p]?=some b:=⟨_,List.getElem?_eq_getElem (by omega)⟩
      have e0:=hrw'.out.cell0 ((zcx hlen'.out (by omega)).trans ha2)
      have e1:=hrw'.out.cell1 ((zcx hlen'.out (by omega)).trans ha2)
      have e2:=hrw'.out.cell0 ((zcx hlen'.out (by omega)).trans hb2)
      have e3:=hrw'.out.cell1 ((zcx hlen'.out (by omega)).trans hb2)
      rw[show (m+1+p+1)*2=(m+1)*2+(p+1)*2 by omega] at e0 e1
      rw[show (m+1+p)*2=(m+1)*2+p*2 by omega] at e2 e3
      have hstep:Hid (compK (L.take (m+1+(p+1)+1))=if a2=b2 then compK (L.take (m+1+p+1)) else compK (L.take (m+1+p+1))++[a2]):=by
       show compK (L.take (m+1+(p+1)+1))=_
       rw[show m+1+(p+1)+1=m+1+p+2 by omega]
       exact zbv ha2 hb2
      clear ha2 hb2
      obtain⟨an2,av2⟩:=a2
      obtain⟨bn2,bv2⟩:=b2
      simp only at e0 e1 e2 e3
      by_cases he2:an2.toList=bn2.toList/\av2=bv2
      ·obtain⟨he3,rfl⟩:=he2
       have heb2:(an2.toList==bn2.toList)=true:=by simpa using he3
       have hab2:((an2,av2):Ky)=(bn2,av2):=by rw[zaz he3]
       clear he3
       go_wp2_with fail
       go_quiet (fail)
       go_wp2_with fail
       go_roundw
       case rel=>
        have hs:=hstep.out
        rw[if_pos hab2] at hs
        refine⟨p+1,kk,by omega,rfl,by go_num,by rw[hs];exact hlen'.out,by omega,by rw[hs];exact hrw'.out,za0 hgq _⟩
       case measure=>simp[intOf];omega
      ·have hne2:¬((an2,av2):Ky)=(bn2,bv2):=fun e=>by cases e;exact he2 ⟨rfl,rfl⟩
       have hd2:(an2.toList==bn2.toList)=false\/((an2.toList==bn2.toList)=true/\¬av2=bv2):=by
        by_cases h1:an2.toList=bn2.toList
        ·exact .inr ⟨by simpa using h1,fun h2=>he2 ⟨h1,h2⟩⟩
        ·exact .inl (by simpa using h1)
       clear he2
       have hml:kk<(compK (L.take (m+1+p+1))++L.drop kk).length:=by
        rw[List.length_append,hlen'.out,List.length_drop]
        omega
       rcases hd2 with heb2 | ⟨heb2,hav2⟩
       all_goals
        go_wp2_with fail
        go_quiet (fail)
        have hth:∀q,(wr.drewN q).there g (kk*2) 2:=fun q=>hrw'.out.there hml
        go_wp2_with (first
         | (with_reducible refine wpList_store_mid ?_ 24 (.tmp 51) (.tmp 50) ?_ g (kk*2) #[.string an2,.int .i64 av2] ?_ ?_ ?_ ?_ ?_ ?_
            rotate_left 1
            ·with_reducible rfl
            ·kernel_rfl
            ·kernel_rfl
            ·exact hth _
            ·exact key_size
            ·exact all_oneCell_toArray (zcn an2 av2)
            rotate_left 1
            ·rfl))
        go_roundw
        case rel=>
         have hs:=hstep.out
         rw[if_neg hne2] at hs
         refine⟨p+1,kk+1,by omega,by go_num,by go_num,by rw[hs,List.length_append,hlen'.out];rfl,by omega,?_,zbf (za0 hgq _) _ _⟩
         rw[hs,<-set_at hlen'.out (by omega)]
         exact Row.set (k:=(an2,av2)) hrw'.out hml
        case measure=>simp[intOf];omega
     ·have hpn:m+1+p+1=n:=by omega
      have hq':¬(p:Int)+1<(N2:Int):=by have:=hN'.out;omega
      have hcap2:¬cap=kk:=by omega
      have hzl:=zcc (n - kk)
      have hclr:∀ty,(Builtin.clear_ #[29] ty #[.slice (some ⟨g,kk*2,none⟩) (n - kk) (cap - kk)]).run Tryz.prog wr=.ok (.tuple #[]) (wr.setCells g (kk*2) (Builtin.zeroCells (Value.agg #[.string ⟨#[]⟩,.int .i64 0]).cells (n - kk)).toList):=fun ty=>by
       have hcell:∀j,j<(n - kk)*2->(wr.cell? ⟨g,kk*2+j,none⟩).isSome=true/\wr.frozen? ⟨g,kk*2+j,none⟩=false:=fun j hj=>by
        have hi:kk+j / 2<(compK (L.take (m+1+p+1))++L.drop kk).length:=by
         rw[List.length_append,hlen'.out,List.length_drop]
         omega
        have h1:=hrw'.out.there hi (j % 2) (by omega)
        rwa [show (kk+j / 2)*2+j % 2=kk*2+j by omega] at h1
       exact zbn wr 29 24 ty _ Tryz.underlying29 Tryz.zeroValue24 g (kk*2) (n - kk) (cap - kk) (by omega) (fun j hj=>(hcell j (by rwa [hzl] at hj)).1) (fun j hj=>(hcell j (by rwa [hzl] at hj)).2) (ze4 _)
      generalize (Builtin.zeroCells (Value.agg #[.string ⟨#[]⟩,.int .i64 0]).cells (n - kk)).toList=zs at*
      go_wp2_with fail
      go_ret
      have hc:compK (L.take (m+1+p+1))=compK L:=by rw[List.take_of_length_le (by omega)]
      have hl:=hlen'.out
      rw[hc] at hl
      rw[hl]
      refine⟨rfl,fun i k hi=>?_,zbf hgq _ _⟩
      have hr:=hrw'.out
      rw[hc] at hr
      have hik:i<kk:=by rw[<-hl];exact(List.getElem?_eq_some_iff.1 hi).1
      refine World.rangeAt_setCells_apart (hr i k (by rw[List.getElem?_append_left (by omega)];exact hi)).1 g (kk*2) zs (.inr (.inl ?_))
      rw[zaf]
      omega
   ·have hne:¬((an,av):Ky)=(bn,bv):=fun e=>by cases e;exact he ⟨rfl,rfl⟩
    have hd:(an.toList==bn.toList)=false\/((an.toList==bn.toList)=true/\¬av=bv):=by
     by_cases h1:an.toList=bn.toList
     ·exact .inr ⟨by simpa using h1,fun h2=>he ⟨h1,h2⟩⟩
     ·exact .inl (by simpa using h1)
    clear he
    rcases hd with heb | ⟨heb,hav⟩
    all_goals
     go_wp2_with fail
     go_quiet (fail)
     go_wp2_with fail
     go_roundw
     case rel=>
      refine⟨m+1,by omega,by go_num,?_,hrow'.out,za0 hgr _⟩
      rw[zbv ha'.out hb'.out,if_neg hne,hcomp'.out]
      rw[show m+1+1=(m+1)+1 from rfl,List.take_add_one (i:=m+1),ha'.out]
      rfl
     case measure=>simp[intOf];omega
  ·have hkn:m+1=n:=by omega
   have hk':¬(m:Int)+1<(n:Int):=by omega
   go_wp2_with fail
   go_ret
   have hc:compK L=L:=by have h1:=hcomp'.out;rwa [List.take_of_length_le (by omega)] at h1
   rw[hc,hL]
   exact⟨rfl,fun i k hi=>(hrow'.out i k hi).1,hgr⟩
end Go.Proofs.YtfhjhnofkaiceaaGreatDoor
