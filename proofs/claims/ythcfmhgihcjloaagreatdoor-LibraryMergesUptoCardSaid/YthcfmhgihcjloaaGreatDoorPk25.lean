import Derived.Shelf.SlIter.Nil
import Derived.Shelf.SortM.Plain
import Derived.Shelf.SortM.SortNone
import Derived.Test.YthcfmhgihcjloaaGreatDoorPk24
namespace Go.Proofs.YthcfmhgihcjloaaGreatDoor
open Go Go.RowKit Go.Maps Go.Sort Go.Shelf Tryz
set_option maxRecDepth 100000
set_option maxHeartbeats 16000000
variable {n n₀:Nat} {A B w:World} {q:Option Addr}
def nE:Go.Shelf.Ren:=⟨λ| 7=>132 | 10=>172 | n=>n,λ| 23=>176 | 26=>9 | 3=>4 | 28=>181 | 0=>0 | 27=>180 | 33=>72 | 4=>4 | n=>n,λ| n=>n⟩
theorem yQ:Go.Proofs.SlLaysZ.n7 prog nE:={
 mixed:=by kernel_rfl
 f7:=⟨f132.name,by decide,func132.trans<|mn some<|by kernel_rfl⟩
 f10:=⟨f172.name,by decide,func172.trans<|mn some<|by kernel_rfl⟩
 t0:=underlying0
 a0:=isAgg0
 z0:=sizeOf0
 v0:=zeroValue0
 t4:=underlying4
 a4:=isAgg4
 z4:=sizeOf4
 v4:=zeroValue4
 t23:=underlying176
 a23:=isAgg176
 z23:=sizeOf176
 v23:=zeroValue176
 t26:=underlying9
 a26:=isAgg9
 z26:=sizeOf9
 v26:=zeroValue9
 t27:=underlying180
 a27:=isAgg180
 z27:=sizeOf180
 v27:=zeroValue180
 t28:=underlying181
 a28:=isAgg181
 z28:=sizeOf181
 v28:=zeroValue181
 t33:=underlying72
 a33:=isAgg72
 z33:=sizeOf72
 v33:=zeroValue72 }
def i6:Go.Shelf.Ren:=⟨λ| 6=>131 | 8=>170 | 9=>171 | 11=>190 | 13=>192 | 12=>191 | 23=>229 | 24=>230 | 14=>220 | 15=>221 | 16=>222 | 17=>223 | 18=>224 | 19=>225 | 20=>226 | 21=>227 | 22=>228 | 25=>289 | 26=>290 | 27=>291 | 28=>292 | 29=>293 | 30=>294 | 31=>364 | n=>n,λ| 26=>9 | 28=>181 | 24=>139 | 0=>0 | 3=>3 | 37=>154 | 48=>120 | 50=>113 | 4=>4 | 40=>241 | 39=>240 | 45=>55 | 5=>5 | 9=>9 | 51=>312 | 55=>316 | 57=>403 | 58=>368 | 33=>72 | n=>n,λ| n=>n⟩
theorem yR:Go.Proofs.SlLaysZ.n6 prog i6:={
 mixed:=by kernel_rfl
 f6:=⟨f131.name,by decide,func131.trans<|mn some<|by kernel_rfl⟩
 f8:=⟨f170.name,by decide,func170.trans<|mn some<|by kernel_rfl⟩
 f11:=⟨f190.name,by decide,func190.trans<|mn some<|by kernel_rfl⟩
 t0:=underlying0
 a0:=isAgg0
 z0:=sizeOf0
 v0:=zeroValue0
 t24:=underlying139
 a24:=isAgg139
 z24:=sizeOf139
 v24:=zeroValue139
 t26:=underlying9
 a26:=isAgg9
 z26:=sizeOf9
 v26:=zeroValue9
 t28:=underlying181
 a28:=isAgg181
 z28:=sizeOf181
 v28:=zeroValue181
 i26:=by kernel_rfl }
def rr:Go.Shelf.Ren:=⟨λ| 6=>171 | 8=>192 | 9=>191 | 19=>229 | 20=>230 | 21=>220 | 22=>221 | 23=>222 | 24=>223 | 25=>224 | 26=>225 | 27=>226 | 28=>227 | 29=>228 | 36=>289 | 31=>290 | 32=>291 | 37=>292 | 38=>293 | 39=>294 | 41=>364 | n=>n,λ| 27=>139 | 29=>9 | 3=>3 | 32=>154 | 26=>139 | 0=>0 | 44=>120 | 46=>113 | 4=>4 | 36=>241 | 35=>240 | 41=>55 | 5=>5 | 9=>9 | 53=>312 | 57=>316 | 63=>403 | 64=>368 | n=>n,λ| n=>n⟩
theorem NH:Go.Proofs.SlLaysM.n6 prog rr:={
 mixed:=by kernel_rfl
 f6:=⟨f171.name,by decide,func171.trans<|mn some<|by kernel_rfl⟩
 f8:=func192.trans<|mn some<|by kernel_rfl
 f9:=⟨f191.name,by decide,func191.trans<|mn some<|by kernel_rfl⟩
 f19:=func229.trans<|mn some<|by kernel_rfl
 f20:=func230.trans<|mn some<|by kernel_rfl
 f21:=⟨f220.name,by decide,func220.trans<|mn some<|by kernel_rfl⟩
 f22:=⟨f221.name,by decide,func221.trans<|mn some<|by kernel_rfl⟩
 f23:=⟨f222.name,by decide,func222.trans<|mn some<|by kernel_rfl⟩
 f24:=⟨f223.name,by decide,func223.trans<|mn some<|by kernel_rfl⟩
 f25:=⟨f224.name,by decide,func224.trans<|mn some<|by kernel_rfl⟩
 f26:=⟨f225.name,by decide,func225.trans<|mn some<|by kernel_rfl⟩
 f27:=⟨f226.name,by decide,func226.trans<|mn some<|by kernel_rfl⟩
 f28:=⟨f227.name,by decide,func227.trans<|mn some<|by kernel_rfl⟩
 f29:=⟨f228.name,by decide,func228.trans<|mn some<|by kernel_rfl⟩
 f31:=func290.trans<|mn some<|by kernel_rfl
 f32:=func291.trans<|mn some<|by kernel_rfl
 f36:=⟨f289.name,by decide,func289.trans<|mn some<|by kernel_rfl⟩
 f37:=⟨f292.name,by decide,func292.trans<|mn some<|by kernel_rfl⟩
 f38:=⟨f293.name,by decide,func293.trans<|mn some<|by kernel_rfl⟩
 f39:=⟨f294.name,by decide,func294.trans<|mn some<|by kernel_rfl⟩
 f41:=⟨f364.name,by decide,func364.trans<|mn some<|by kernel_rfl⟩
 t0:=underlying0
 a0:=isAgg0
 z0:=sizeOf0
 v0:=zeroValue0
 t3:=underlying3
 a3:=isAgg3
 z3:=sizeOf3
 v3:=zeroValue3
 t4:=underlying4
 a4:=isAgg4
 z4:=sizeOf4
 v4:=zeroValue4
 t5:=underlying5
 a5:=isAgg5
 z5:=sizeOf5
 v5:=zeroValue5
 t9:=underlying9
 a9:=isAgg9
 z9:=sizeOf9
 v9:=zeroValue9
 t26:=underlying139
 a26:=isAgg139
 z26:=sizeOf139
 v26:=zeroValue139
 t27:=underlying139
 a27:=isAgg139
 z27:=sizeOf139
 v27:=zeroValue139
 t29:=underlying9
 a29:=isAgg9
 z29:=sizeOf9
 v29:=zeroValue9
 t32:=underlying154
 a32:=isAgg154
 z32:=sizeOf154
 v32:=zeroValue154
 t35:=underlying240
 a35:=isAgg240
 z35:=sizeOf240
 v35:=zeroValue240
 t36:=underlying241
 a36:=isAgg241
 z36:=sizeOf241
 v36:=zeroValue241
 t41:=underlying55
 a41:=isAgg55
 z41:=sizeOf55
 v41:=zeroValue55
 t44:=underlying120
 a44:=isAgg120
 z44:=sizeOf120
 v44:=zeroValue120
 t46:=underlying113
 a46:=isAgg113
 z46:=sizeOf113
 v46:=zeroValue113
 t53:=underlying312
 a53:=isAgg312
 z53:=sizeOf312
 v53:=zeroValue312
 t57:=underlying316
 a57:=isAgg316
 z57:=sizeOf316
 v57:=zeroValue316
 t63:=underlying403
 a63:=isAgg403
 z63:=sizeOf403
 v63:=zeroValue403
 t64:=underlying368
 a64:=isAgg368
 z64:=sizeOf368
 v64:=zeroValue368 }
theorem AX (m:Nat):AnyZ.SortsIn prog i6 Fence.wide m:=
 ⟨λblk off cap e W b a d=>qj.2<|AnyM.slices_Sort_string NH blk off cap e W b a d,
  λp cap W=>qj.2<|AnyM.slices_Sort_string_none NH p cap W⟩
theorem Tq (a:Option Nat) (W:World):CallsIn Fence.wide 5 prog 132 #[.map a] W λe w'=>e=.returned (.func (.func 172) #[] #[.pointer<|some ⟨W.1.size,0,none⟩])/\w'=W.alloc (.cells #[.map a] 176):=
 AnyZ.keys_in yQ Fence.wide 5 trivial rfl a W
theorem Tr {H:Type} (b nn:Nat) (a:DataW H) (R:Value->Option (DataW H × List MemPlace)) (w:World) (f:w.ownsMap prog 9 R b nn a) (o:Maps.size a<=maxLen) (i:Maps.size a*16<=140737488355328):
  CallsIn Fence.wide 5 prog 131 #[.func (.func 172) #[] #[.pointer<|some ⟨w.1.size,0,none⟩]] (w.alloc<|.cells #[.map<|some b] 176) λe w'=>∃(v:Value) (d:List (List UInt8)),e=.returned v/\d.Perm (strKeys a)/\
   w'.ownsRow (w.alloc<|.cells #[.map<|some b] 176).1.size 9 1 v d.length ((d.mergeSort λx y=>decide (x<=y)).map encStr)/\(v=.slice none 0 0↔d=[])/\Below (w.alloc<|.cells #[.map<|some b] 176).1.size (w.alloc<|.cells #[.map<|some b] 176) w':=by
 have l:=f.lt
 have r:SeqGives Fence.wide 2 prog 172 #[.pointer<|some ⟨w.1.size,0,none⟩] encStr (λd=>d.Perm<|strKeys a) (Maps.size a) (w.alloc<|.cells #[.map<|some b] 176):=
  AnyZ.keys_gives (ρ:=nE) { yQ with } Fence.wide _ trivial rfl (by omega) w.1.size b nn a _ (by simp) (by simp) (by
   obtain⟨es,h,k,g,m,j⟩:=f
   exact⟨es,h,(mW _ _ b l).trans k,g,m,j⟩)
 exact AnyZ.sorted_in yR Fence.wide 5 trivial trivial trivial trivial rfl (by omega) (AX _) (enters_of func171 (by kernel_rfl) rfl) 172 #[.pointer<|some ⟨w.1.size,0,none⟩] trivial (enters_of func172 (by kernel_rfl) rfl) _ _ o i _ r
end Go.Proofs.YthcfmhgihcjloaaGreatDoor
namespace Go.Proofs.YthcfmhgihcjloaaGreatDoor
open Go Go.RowKit Go.Maps Go.Shelf Tryz
set_option maxRecDepth 100000
set_option maxHeartbeats 16000000
variable {n n₀:Nat} {A B w:World} {q:Option Addr}
attribute [local go_sem] qX
def Ex.nds:Ex->List (Int × ByteArray)
 | .non=>[]
 | .mk k _ _ _ _ m c ar=>(k,m)::(List.range c).flatMap λi=>(ar i).nds
theorem Ex.nds_mk (k f:Int) (ng:Bool) (nu de:List Int) (m:ByteArray) (c:Nat) (a:Nat->Ex):(Ex.mk k f ng nu de m c a).nds=(k,m)::(List.range c).flatMap λi=>(a i).nds:=by rw[Ex.nds]
theorem Ts {k f:Int} {ng:Bool} {X Y:Int} {m:ByteArray} (h:bX k f ng X Y m n=true):m.size<=8:=by
 unfold bX at h;rw[lL] at h;replace h:=h.2;split at h
 .simp only[lL,mB] at h;omega
 rw[lL] at h;replace h:=h.2;split at h
 .unfold dV at h;simp only[lL,mB] at h;exact h.1
 simp only[mB] at h;omega
theorem Kb {α:Type} {P:Nat->Nat->Option Nat} {L:Nat->List α} {G:Nat->Prop} (d:∀i a b,P i a=some b->b=a+(L i).length/\G i):
  ∀{c n a:Nat},dZ P c n=some a->a=n+((List.range c).flatMap L).length/\∀i,i<c->G i
 | 0,n,a,h=>by simp only[dZ,mc] at h;exact⟨by simp[h],λi hi=>by omega⟩
 | c+1,n,a,h=>by
  unfold dZ at h
  cases hq:dZ P c n with
  | none=>rw[hq] at h;cases h
  | some x=>
   rw[hq] at h;obtain⟨h1,h2⟩:=Kb d hq;obtain⟨h3,h4⟩:=d _ _ _ h;refine⟨by simp only[qw,mj,kY,nU,rK,mU];omega,λi hi=>?_⟩
   rcases kS i c with e | e
   .exact h2 i e
   obtain rfl:i=c:=(by omega);exact h4
theorem Kc:∀(x:Ex) (d n a:Nat),x.cnt d n=some a->a=n+x.nds.length/\∀p∈x.nds,p.2.size<=8:=by
 intro x
 induction x with
 | non=>intro d n a h;cases h
 | mk k f ng nu de m c e ih=>
  intro d n a h;unfold Ex.cnt at h;split at h
  .rename_i hc;obtain⟨h1,h2⟩:=Kb (L:=λi=>(e i).nds) (G:=λi=>∀p∈(e i).nds,p.2.size<=8) (λi a g h=>ih i _ _ _ h) h;refine⟨by rw[Ex.nds_mk,lF];omega,λp b=>?_⟩;rw[Ex.nds_mk] at b
   rcases lO.1 b with rfl | b
   .exact Ts hc.2.2
   obtain⟨i,hi,b⟩:=List.mem_flatMap.1 b;exact h2 i (kP.1 hi) p b
  cases h
theorem NI {α:Type} (L:Nat->List α) {j c:Nat} (h:j<c):((List.range j).flatMap L).length+(L j).length<=((List.range c).flatMap L).length:=by
 induction c with
 | zero=>omega
 | succ c b=>
  simp only[qw,mj,kY,nU,rK,mU]
  rcases kS j c with a | a
  .have:=b a;omega
  obtain rfl:j=c:=(by omega);omega
theorem Tt {F:Fence} (a:F.depth=none) (k:Nat):F.room k:=λd h=>by rw[a] at h;cases h
theorem RoundIn.anyDepth {F:Fence} (a:F.depth=none) {m b:Nat} {P:Program} {l:Nat} {f:FuncId} {tmps:Array Value} {assign body:Code} {w:World} {R:Ending->World->Prop}
 (h:RoundIn F m P l f tmps assign body w R):RoundIn F b P l f tmps assign body w R:=⟨h.1,λc cs _=>h.2 c cs<|Tt a _⟩
theorem YieldAt.anyDepth {F:Fence} (b:F.depth=none) {m:Nat} (e:Nat) {P:Program} {l:Nat} {args:Array Value} {W:World} {R:Ending->World->Prop} (h:YieldAt F m P l args W R):YieldAt F e P l args W R:=by obtain⟨fn,tmps,assign,body,d,a⟩:=h;exact⟨fn,tmps,assign,body,d,RoundIn.anyDepth b a⟩
structure KeepsCells (W W':World):Prop where
 size:W.1.size<=W'.1.size
 same:∀(k:Nat) (o:Obj),W.1[k]?=some o->o.isCells=true->W'.1[k]?=some o
theorem KeepsCells.refl (W:World):KeepsCells W W:=⟨kF _,λ_ _ h _=>h⟩
theorem KeepsCells.trans {C:World} (h:KeepsCells A B) (k:KeepsCells B C):KeepsCells A C:=⟨kJ h.size k.size,λi o hi a=>k.same i o (h.same i o hi a) a⟩
theorem KeepsCells.alloc (W:World) (o:Obj):KeepsCells W (W.alloc o):=⟨by simp,λk o' h _=>(mW _ _ _ (kG.1 h).1).trans h⟩
theorem KeepsCells.blk {W a:World} (h:KeepsCells W a) {N:Nat} {t:TypeId} {cs:Array Value} (b:BlkI W N t cs):BlkI a N t cs:=h.same _ _ b rfl
def KpN (n₀:Nat) (W W':World):Prop:=Below n₀ W W'/\KeepsCells W W'
theorem FW {C:World} (h:KpN n₀ A B) (k:KpN n₀ B C):KpN n₀ A C:=⟨h.1.trans k.1,h.2.trans k.2⟩
theorem KpN.refl (n₀:Nat) (W:World):KpN n₀ W W:=⟨kE _ _,KeepsCells.refl _⟩
theorem KpN.alloc (h:KpN n₀ A B) (a:n₀<=B.1.size) (o:Obj):KpN n₀ A (B.alloc o):=⟨h.1.alloc a o,h.2.trans<|KeepsCells.alloc _ _⟩
abbrev Nv:={ d:Nd // d.m.size<=8 }
def Nv.key (x:Nv):Int × ByteArray:=(x.1.k,x.1.m)
theorem AY (F:Fence) (hd:F.depth=none) (eY:F.fn 169) (ay:F.round=none) (l N:Nat) (w0:World) (J G:List Nv->World->Prop) (V:∀a W o,J a W->J a (W.alloc o))
  (hY:∀m a (x:Nv) W,J a W->a.length<N->YieldAt F m prog l #[x.1.val] W λe y=>
    (e=.returned (.bool true)/\J (a++[x]) y/\KpN w0.1.size W y)\/(e=.returned (.bool false)/\G (a++[x]) y)) (x:Ex):
  ∀(n:Nat) (d:Nd) (a:List Nv) (W:World),ExOk w0 x d->(∀p∈x.nds,p.2.size<=8)->Below w0.1.size w0 W->J a W->a.length+x.nds.length<=N->
   CallsIn F n prog 169 #[d.val,.func (.yield l) #[] #[]] W λe y=>
    (e=.returned (.bool true)/\(∃q:List Nv,q.map Nv.key=x.nds/\J (a++q) y)/\KpN w0.1.size W y)\/(e=.returned (.bool false)/\∃q:List Nv,G (a++q) y):=by
 induction x with
 | non=>intro n d a W h;exact h.elim
 | mk k f ng nu de m c ar ih=>
  intro n d a W O ai L hJ hN;have ab:∀k:Nat,(F.depth.isSome=true->1<=k):=λk h=>by rw[hd] at h;cases h
  have aj:(Ex.mk k f ng nu de m c ar).nds.length=1+((List.range c).flatMap λi=>(ar i).nds).length:=by rw[Ex.nds_mk,lF];omega
  have a2:=O;obtain⟨r,t,u,aq,an,ac,cq,s,cc,g,sq,sn,sc⟩:=d;unfold ExOk at O;obtain⟨⟨rfl,rfl,rfl,rfl,rfl⟩,-,-,-,-,hn,hk⟩:=O;simp only at hk hn;have aw:g.size<=8:=ai (r,g) (by rw[Ex.nds_mk];exact mq);obtain⟨X,K⟩:∃X:Nv,X=⟨⟨r,t,u,aq,an,ac,cq,s,cc,g,sq,sn,sc⟩,aw⟩:=⟨_,rfl⟩;have al:Nv.key X=(r,g):=by rw[K];rfl
  have ao:X.1.val=.agg (mA r t u aq an ac cq s cc g sq sn sc):=by rw[K];rfl
  clear K;have hW:w0.1.size<=W.1.size:=L.size;have Z:KpN w0.1.size W (W.alloc<|.cells (mA r t u aq an ac cq s cc g sq sn sc) 33):=(KpN.refl _ _).alloc hW _;have R:BlkI (W.alloc<|.cells (mA r t u aq an ac cq s cc g sq sn sc) 33) W.1.size 33 (mA r t u aq an ac cq s cc g sq sn sc):=lK _ _;have D:=hY (n - 1) a X _ (V a W (.cells (mA r t u aq an ac cq s cc g sq sn sc) 33) hJ) (by omega);rw[ao] at D
  have a1:YieldAt F (n - 1) prog l #[.agg<|mA r t u aq an ac cq s cc g sq sn sc] (W.alloc<|.cells (mA r t u aq an ac cq s cc g sq sn sc) 33) λe z=>
    (e=.returned (.bool true)/\J (a++[X]) z/\KpN w0.1.size W z/\Below w0.1.size w0 z/\z.cell? ⟨W.1.size,6,none⟩=some (.slice sq sn sc))\/(e=.returned (.bool false)/\G (a++[X]) z):=
   YieldAt.mono D λe z h=>h.elim (λ⟨he,hj,C⟩=>.inl ⟨he,hj,FW Z C,L.trans<|(FW Z C).1,(C.2.blk R).cell 6⟩) .inr
  clear D R;obtain⟨fn,tmps,assign,body,D,hR⟩:=a1;simp only[Nd.val];refine rH func169 rfl eY ?_ ay;simp only[ntmps169,nD,lF,mS,Nat.reduceAdd,Nat.reduceSub,nO,nP,pB,nW,mL,mZ]
  gi_wp2_with ((try refine⟨ab _,?_⟩);refine hR.mono ?_;clear hR;rintro e z (⟨rfl,U,C,S,c6⟩ | ⟨rfl,az⟩))
  .gi_loopw [14] (λi wr=>∃j:Nat,j<=sn/\i=.int .i64 j/\(∃q:List Nv,q.map Nv.key=((List.range j).flatMap λi=>(ar i).nds)/\J (a++[X]++q) wr)/\KpN w0.1.size W wr/\Below w0.1.size w0 wr) (λi _=>sn - (intOf i).toNat)
   case atStart=>exact⟨0,kL _,rfl,⟨[],rfl,by simpa using U⟩,C,S⟩
   case round=>
    obtain⟨j,hj,rfl,⟨q,hq,Y⟩,ag,aa⟩:=hrel;have ix:Hid (J (a++[X]++q) wr):=Y;have M:=bC hq;have T:Hid (KpN w0.1.size W wr):=ag;have I:Hid (Below w0.1.size w0 wr):=aa;clear hq Y ag aa U C S c6;by_cases E:j<sn
    .have am:(j:Int)<(sn:Int):=by omega
     rcases hk with h0 | ⟨b,o,rfl,au,H,ad⟩
     .omega
     have ah:=mn List.length M.out;rw[mM] at ah;have av:=NI (λi=>(ar i).nds) E;obtain⟨x0,x1,x2,x3,x4,x5,x6⟩:=(ad j E).1.below I.out au;have hwr:w0.1.size<=wr.1.size:=I.out.size
     have P:=ih j (n - 1) (H j) (a++[X]++q) (wr.alloc<|.cells (nA<|H j) 33) (ad j E).2
      (λp hp=>ai p<|by rw[Ex.nds_mk];exact lM _<|List.mem_flatMap.2 ⟨j,kP.2 E,hp⟩) (I.out.alloc hwr _) (V _ _ _ ix.out) (by simp only[kY,lF,mS];omega)
     simp only[Nd.val] at P;have af:Hid (KpN w0.1.size W<|wr.alloc<|.cells (nA<|H j) 33):=T.out.alloc hwr _;clear D av ah
     gi_wp2_with ((try refine⟨ab _,?_⟩);gi_at_call 169;refine P.mono ?_;clear P;rintro e W3 (⟨rfl,⟨Q,ax,ak⟩,ae⟩ | ⟨rfl,Q,a0⟩))
     .go_roundw
      case rel=>refine⟨j+1,by omega,by go_num,⟨q++Q,?_,by simpa [mJ] using ak⟩,FW af.out ae,L.trans (FW af.out ae).1⟩;rw[lN,M.out,ax,qw,mj];simp
      case measure=>simp[intOf];omega
     go_ret;exact .inr ⟨rfl,[X]++q++Q,by simpa [mJ] using a0⟩
    obtain rfl:j=sn:=(by omega);gi_wp2;go_ret;exact .inl ⟨rfl,⟨X::q,by rw[List.map_cons,al,M.out,Ex.nds_mk],by simpa using ix.out⟩,T.out⟩
  go_ret;exact .inr ⟨rfl,[X],az⟩
theorem Tu (F:Fence) (i:F.depth=none) (n:Nat) (C:F.fn 168) (z:F.fn 169) (y:F.round=none) (l s:Nat) (w0:World) (x:Ex) (d:Nd) (J g:List Nv->World->Prop) (E:∀a W o,J a W->J a (W.alloc o))
  (u:∀a (f:Nv) W,J a W->a.length<x.nds.length->YieldAt F (n - 1) prog l #[f.1.val] W λe b=>
    (e=.returned (.bool true)/\J (a++[f]) b/\KpN w0.1.size W b)\/(e=.returned (.bool false)/\g (a++[f]) b))
  (W:World) (t:BlkI W s 33 (nA d)) (r:ExOk w0 x d) (L:∀p∈x.nds,p.2.size<=8) (G:Below w0.1.size w0 W) (h0:J [] W):
  CallsIn F n prog 168 #[.func (.yield l) #[] #[],.pointer<|some ⟨s,0,none⟩] W λe b=>(∃v,e=.returned v)/\
   ((∃ys:List Nv,ys.map Nv.key=x.nds/\J ys b)\/(∃a:List Nv,True/\g a b)):=by
 have H:∀k:Nat,(F.depth.isSome=true->1<=k):=λk h=>by rw[i] at h;cases h
 have j:=AY F i z y l x.nds.length w0 J g E (λm a f W I K=>YieldAt.anyDepth i m<|u a f W I K) x (n - 1) d [] W r L G h0 (by simp);simp only[Nd.val] at j;obtain⟨N,O,P,Q,R,S,T⟩:=t.c7;clear t u;refine rH func168 rfl C ?_ y;simp only[ntmps168,nD,lF,mS,Nat.reduceAdd,Nat.reduceSub,nO,nP,pB,nW,mL,mZ]
 gi_wp2_with ((try refine⟨H _,?_⟩);gi_at_call 169;refine j.mono ?_;clear j;rintro e M (⟨rfl,⟨q,hq,D⟩,_⟩ | ⟨rfl,q,r⟩))
 .go_end0;exact⟨⟨_,rfl⟩,.inl ⟨q,hq,by simpa using D⟩⟩
 go_end0;exact⟨⟨_,rfl⟩,.inr ⟨q,trivial,by simpa using r⟩⟩
theorem yS (F:Fence) (n:Nat) (a:F.fn 130) (b:F.round=none) (d:Nd) (w:World):
  CallsIn F n prog 130 #[d.val] w λe w'=>e=.returned (.func (.func 168) #[] #[.pointer<|some ⟨w.1.size,0,none⟩])/\w'=w.alloc (.cells (nA d) 33):=by
 simp only[Nd.val];refine rH func130 rfl a ?_ b;simp only[ntmps130,nD,lF,mS,Nat.reduceAdd,Nat.reduceSub,nO,nP,pB,nW,mL,mZ];gi_wp2;go_ret;exact⟨rfl,rfl⟩
theorem Tv (F:Fence) (s:F.depth=none) (n:Nat) (h:F.fn 168) (g:F.fn 169) (u:F.round=none) (a:Nat) (w0 w:World) (x:Ex) (d:Nd)
  (i:BlkI w a 33 (nA d)) (z:ExOk w0 x d) (y:∀p∈x.nds,p.2.size<=8) (m:Below w0.1.size w0 w):
  SeqStopsK F n prog 168 #[.pointer<|some ⟨a,0,none⟩] (λD:Nv=>#[D.1.val]) (KpN w0.1.size) (λys=>ys.map Nv.key=x.nds) (λ_=>True) x.nds.length w:=λl J f W b j _ k h0=>
 Tu F s n h g u l a w0 x d J f (λC W o t=>j C W _ none t (qT W o none) λr e=>by cases e) k W (i.below b) z y (cV m b) h0
end Go.Proofs.YthcfmhgihcjloaaGreatDoor
namespace Go.Proofs.YthcfmhgihcjloaaGreatDoor
open Go Go.RowKit Tryz
set_option maxRecDepth 100000
set_option maxHeartbeats 16000000
variable {n n₀:Nat} {A B w:World} {q:Option Addr}
def dW (n:Nat) (bs:Nat->Si) (s:ByteArray):Option Nat:=(List.range n).find? λi=>decide ((bs i).m=s)
def om (o:Option Nat):Int:=match o with | some i=>i | none=>-1
theorem NJ {bs:Nat->Si} {s:ByteArray} {k:Nat} (d:k<n) (h:(bs k).m=s) (a:∀j,j<k->¬(bs j).m=s):dW n bs s=some k:=by unfold dW;rw[rU];refine⟨by simp[h],k,by simpa using d,by simp,λj b=>?_⟩;simpa using a j b
theorem NK {bs:Nat->Si} {s:ByteArray} (a:∀j,j<n->¬(bs j).m=s):dW n bs s=none:=by unfold dW;rw[rl];intro j b;simpa using a j (kP.1 b)
theorem yT (a b:ByteArray):(a.toList==b.toList)=decide (a=b):=by
 by_cases h:a=b
 .simp[h]
 rw[kQ h];rw[qR];exact λe=>h<|Fx e
theorem DF:∃d,prog.underlying 85=some d/\d.isRow=true:=⟨_,underlying85,rfl⟩
theorem NL:(prog.info? 85).map (·.size)=some 9:=by kernel_rfl
theorem Si.one' (s:Si) (d:Sv):(s.cells d).toArray.all (·.oneCell')=true:=by rw[qM,lj];exact Si.one s d
theorem AZ (s:Si) (d:Sv) (nm:ByteArray) (B:Nat) (e:B<w.1.size) (b:w.cell? ⟨B,0,none⟩=some (.string nm)):
  bF w 135 #[.agg (s.cells d).toArray,.pointer<|some ⟨B,0,none⟩] (.bool<|decide (s.m=nm)):=by
 have a:Below w.1.size w (w.alloc<|.cells (s.cells d).toArray 85):=cU w _;have j:(w.alloc<|.cells (s.cells d).toArray 85).cell? ⟨w.1.size,0,none⟩=some (.string s.m):=by have h:BlkI (w.alloc<|.cells (s.cells d).toArray 85) w.1.size 85 (s.cells d).toArray:=lK _ _;rw[h.cell];rfl
 have i:=(a.cell (p:=⟨B,0,none⟩) e).trans b;have g:=yT s.m nm;generalize decide (s.m=nm)=R at*;have f:=Si.one' s d;clear b;unfold Si.cells Si.iv at*;go_enter func135,ntmps135;go_wp2_with fail;go_ret;exact⟨rfl,a⟩
theorem Tw (q:Option Addr) (c:Nat) (f:Value):
  cN 134 #[.slice q 0 c,f] w λx w'=>x=.returned (.int .i64<|-1)/\w'=w:=by
 go_enter func134,ntmps134;go_wp2_with fail;refine my ?_;go_wp2_with fail;go_ret;exact⟨rfl,rfl⟩
theorem Tx (b o n c:Nat) (bs:Nat->Si) (a:Nat->Sv) (K:n<=1048576) (G:b<w.1.size) (f:∀i,i<n->w.rangeAt b (o+i*9) ((bs i).cells<|a i))
  (s:ByteArray) (B:Nat) (z:B<w.1.size) (r:w.cell? ⟨B,0,none⟩=some (.string s)):
  bF w 134 #[.slice (some ⟨b,o,none⟩) n c,.func (.func 135) #[] #[.pointer<|some ⟨B,0,none⟩]] (.int .i64<|om<|dW n bs s):=by
 have J:Hid (∀i,i<n->w.rangeAt b (o+i*9) ((bs i).cells<|a i)):=f;obtain⟨y,hu,D⟩:=DF;have C:=bC hu;have I:=bC r;clear f hu r;go_enter func134,ntmps134;go_wp2_with fail
 go_loopw [8] (λi wr=>∃k:Nat,k<=n/\i=.int .i64 k/\(∀j,j<k->¬(bs j).m=s)/\Below w.1.size w wr) (λi _=>n - (intOf i).toNat)
 case atStart=>exact⟨0,kL _,rfl,λj H=>by omega,kE _ _⟩
 case round=>
  obtain⟨k,r,rfl,u,d⟩:=hrel;have g:Hid (∀j,j<k->¬(bs j).m=s):=u;clear u;by_cases E:k<n
  .have am:(k:Int)<(n:Int):=(by omega);have f:=bU (J.out k E) d G;have F:=Si.len (bs k)<|a k;have L:Hid (((bs k).cells<|a k).toArray.all (·.oneCell')=true):=Si.one' _ _;have e:=AZ (w:=wr) (bs k) (a k) s B (kw z d.size)<|(d.cell (p:=⟨B,0,none⟩) z).trans I.out;obtain⟨M,l⟩:∃M,Hid ((bs k).m=M):=⟨_,rfl⟩;rw[l.out] at e;generalize (bs k).cells (a k)=x at*;by_cases hq:M=s
   .rw[lh hq] at e;have t:Hid (M=s):=hq;clear hq
    go_wp2_with (first
     | (with_reducible refine nI (op:=⟨some 15,_,_,_,_,_⟩) ?_ 85 (.tmp 14) ?_ (b) (o+k*9) ?_ x y ?_ C.out D ?_ ?_
        rotate_left 1
        .with_reducible rfl
        .kernel_rfl
        .exact f
        .rw[F];exact NL
        rotate_left 1
        rfl)
     | (go_at_call 135;refine jR e λw5 m=>?_))
    go_ret;refine⟨?_,cV d m⟩;rw[NJ E (l.out.trans t.out) g.out];rfl
   rw[kQ hq] at e;have t:Hid (¬M=s):=hq;clear hq
   go_wp2_with (first
    | (with_reducible refine nI (op:=⟨some 15,_,_,_,_,_⟩) ?_ 85 (.tmp 14) ?_ (b) (o+k*9) ?_ x y ?_ C.out D ?_ ?_
       rotate_left 1
       .with_reducible rfl
       .kernel_rfl
       .exact f
       .rw[F];exact NL
       rotate_left 1
       rfl)
    | (go_at_call 135;refine jR e λw5 m=>?_))
   go_roundw
   case rel=>
    refine⟨k+1,by omega,by go_num,λj H=>?_,cV d m⟩
    rcases kS j k with h | h
    .exact g.out j h
    obtain rfl:j=k:=(by omega);rw[l.out];exact t.out
   case measure=>simp[intOf];omega
  obtain rfl:k=n:=(by omega);go_wp2_with fail;go_ret;refine⟨?_,d⟩;rw[NK g.out];rfl
theorem yU (c:Nat) {bs:Nat->Si} (h:SisOk w q n bs) (j:n<=1048576) (s:ByteArray) (B:Nat) (d:B<w.1.size) (f:w.cell? ⟨B,0,none⟩=some (.string s)):
  bF w 134 #[.slice q n c,.func (.func 135) #[] #[.pointer<|some ⟨B,0,none⟩]] (.int .i64<|om<|dW n bs s):=by
 rcases h with rfl | ⟨b,o,rfl,g,a,e⟩
 .refine(Tw q c _).mono ?_;rintro x w' ⟨rfl,rfl⟩;exact⟨rfl,kE _ _⟩
 exact Tx b o n c bs a j g (λi hi=>(e i hi).1) s B d f
theorem A1 (c:Nat) {bs:Nat->Si} (h:SisOk w q n bs) (e:n<=1048576) (s:ByteArray):
  bF w 94 #[.slice q n c,.string s] (.int .i64<|om<|dW n bs s):=by
 have a:Below w.1.size w (w.alloc<|.cells #[.string s] 9):=fH _ _;have b:=yU c (h.below a) e s w.1.size (by simp) (by simp);generalize om (dW n bs s)=r at*;go_enter func94,ntmps94;go_wp2_with (go_at_call 134;refine jR b λw5 d=>?_);go_ret;exact⟨rfl,a.trans<|d.mono<|by simp⟩
theorem Ty (b o n c:Nat) (bs:Nat->Si) (C:n<=1048576) (t:b<w.1.size) (r:∀i,i<n->w.cell? ⟨b,o+i*9,none⟩=some (.string (bs i).m)) (s:ByteArray):
  bF w 107 #[.slice (some ⟨b,o,none⟩) n c,.string s] (.int .i64<|om<|dW n bs s):=by
 have x:Hid (∀i,i<n->w.cell? ⟨b,o+i*9,none⟩=some (.string (bs i).m)):=r;clear r;go_enter func107,ntmps107;go_wp2_with fail
 go_loopw [5] (λi wr=>∃k:Nat,k<=n/\i=.int .i64 k/\(∀j,j<k->¬(bs j).m=s)/\Below w.1.size w wr) (λi _=>n - (intOf i).toNat)
 case atStart=>exact⟨0,kL _,rfl,λj u=>by omega,kE _ _⟩
 case round=>
  obtain⟨k,z,rfl,g,a⟩:=hrel;have d:Hid (∀j,j<k->¬(bs j).m=s):=g;clear g;by_cases m:k<n
  .have am:(k:Int)<(n:Int):=(by omega);have y:=(a.cell (p:=⟨b,o+k*9,none⟩) t).trans<|x.out k m;obtain⟨M,e⟩:∃M,Hid ((bs k).m=M):=⟨_,rfl⟩;rw[e.out] at y;have l:=yT M s;by_cases hq:M=s
   .rw[lh hq] at l;have f:Hid (M=s):=hq;clear hq;go_wp2_with fail;go_ret;exact⟨by rw[NJ m (e.out.trans f.out) d.out];rfl,a⟩
   rw[kQ hq] at l;have f:Hid (¬M=s):=hq;clear hq;go_wp2_with fail;go_roundw
   case rel=>
    refine⟨k+1,by omega,by go_num,λj u=>?_,a⟩
    rcases kS j k with h | h
    .exact d.out j h
    obtain rfl:j=k:=(by omega);rw[e.out];exact f.out
   case measure=>simp[intOf];omega
  obtain rfl:k=n:=(by omega);go_wp2_with fail;go_ret;exact⟨by rw[NK d.out];rfl,a⟩
theorem Tz (q:Option Addr) (c:Nat) (s:ByteArray):
  cN 107 #[.slice q 0 c,.string s] w λx w'=>x=.returned (.int .i64<|-1)/\w'=w:=by
 go_enter func107,ntmps107;go_wp2_with fail;refine my ?_;go_wp2_with fail;go_ret;exact⟨rfl,rfl⟩
theorem TA (c:Nat) {bs:Nat->Si} (h:SisOk w q n bs) (e:n<=1048576) (s:ByteArray):
  bF w 107 #[.slice q n c,.string s] (.int .i64<|om<|dW n bs s):=by
 rcases h with rfl | ⟨b,o,rfl,d,f,a⟩
 .refine(Tz q c s).mono ?_;rintro x w' ⟨rfl,rfl⟩;exact⟨rfl,kE _ _⟩
 exact Ty b o n c bs e d (λi hi=>by simpa using (a i hi).1 0 _ rfl) s
end Go.Proofs.YthcfmhgihcjloaaGreatDoor
namespace Go.Proofs.YthcfmhgihcjloaaGreatDoor
open Go Go.RowKit Go.Maps Go.Shelf Go.Sort Tryz
set_option maxRecDepth 100000
set_option maxHeartbeats 16000000
variable {n n₀:Nat} {A B w:World} {q:Option Addr}
attribute [local go_sem] qX
def vo (xs:List Nv):DataW Unit:=xs.foldl (λD x=>if x.1.k=2 then D.put (.string x.1.m.data.toList) (.lit<|.bool true) else D)<|.map []
theorem NM (a:List Nv) (x:Nv):vo (a++[x])=if x.1.k=2 then(vo a).put (.string x.1.m.data.toList) (.lit<|.bool true) else vo a:=by simp[vo,List.foldl_append]
theorem TB (s:ByteArray) (a:s.size<=maxLen):WideAt.IsKeyLit (.string s.data.toList):=(string_keyed (P:=prog) underlying9).key<|sN underlying9 a
theorem Ke (s:List UInt8):∀(xs:List Nv) (D:DataW Unit),IsMap D->
  has (xs.foldl (λD x=>if x.1.k=2 then D.put (.string x.1.m.data.toList) (.lit<|.bool true) else D) D) (.string s)=(has D (.string s)||xs.any λx=>decide (x.1.k=2/\x.1.m.data.toList=s))
 | [],D,_=>by simp
 | x::xs,D,hD=>by
  rw[List.foldl_cons,List.any_cons];by_cases a:x.1.k=2
  .rw[kU a,Ke s xs _<|hD.put _ _];by_cases b:x.1.m.data.toList=s
   .rw[<-b,has_put_same hD<|TB _<|by have:=x.2;unfold maxLen;omega];simp[a]
   rw[has_put_other λe=>b<|by cases e;rfl];simp[a,b]
  rw[kZ a,Ke s xs D hD];simp[a]
theorem A2 (s:List UInt8) (xs:List Nv):has (vo xs) (.string s)=xs.any λx=>decide (x.1.k=2/\x.1.m.data.toList=s):=by unfold vo;rw[Ke s xs _ ⟨[],rfl⟩];simp[has]
theorem TC {es:List (Lit × DataW Unit)} (d:∀p∈es,∃x,p.1=.string x) (s:List UInt8):s∈strKeys (.map es)↔has (.map es) (.string s)=true:=by
 rw[has_eq,List.any_eq_true];show s∈es.map (λp=>strOf p.1)↔_;rw[m9];constructor
 .rintro⟨p,a,rfl⟩;obtain⟨x,b⟩:=d p a;refine⟨p,a,?_⟩;rw[b];simp[strOf,Lit.sameKey]
 rintro⟨p,a,e⟩;obtain⟨x,b⟩:=d p a;refine⟨p,a,?_⟩;rw[b] at e ⊢;have:=WideAt.sameKey_eq e;cases this;rfl
theorem yV {b:Nat} {xs:List Nv} (h:w.ownsMap prog 9 (plainElem (H:=Unit) prog 4) b n (vo xs)) (s:List UInt8):s∈strKeys (vo xs)↔∃x∈xs,x.1.k=2/\x.1.m.data.toList=s:=by obtain⟨es,a,d⟩:=h.keysOf;rw[a,TC λp e=>by obtain⟨v,hv⟩:=d p e;obtain⟨x,_,f,_⟩:=Maps.keyOf_str underlying9 hv;exact⟨x,f⟩,<-a,A2,List.any_eq_true];simp
def StrsOk (w:World) (q:Option Addr) (n:Nat) (ns:Nat->ByteArray):Prop:=n=0\/∃b o,q=some ⟨b,o,none⟩/\b<w.1.size/\∀i,i<n->w.cell? ⟨b,o+i,none⟩=some (.string<|ns i)
theorem StrsOk.below {w':World} (a:Below w.1.size w w') {q:Option Addr} {n:Nat} {f:Nat->ByteArray} (h:StrsOk w q n f):StrsOk w' q n f:=by refine h.imp id ?_;rintro⟨b,o,e,d,g⟩;exact⟨b,o,e,kw d a.size,λi hi=>(a.cell (p:=⟨b,o+i,none⟩) d).trans<|g i hi⟩
theorem TD {base:Nat} {v:Value} {a:List (List UInt8)} (h:w.ownsRow base 9 1 v a.length (a.map encStr)):∃q cap,v=.slice q a.length cap/\StrsOk w q a.length (λi=>⟨(a.getD i []).toArray⟩):=by
 obtain⟨h1,⟨rfl,h2⟩ | ⟨g,cap,b,rfl,h2,h3,h4,h5,h6,h7⟩⟩:=h
 .exact⟨none,0,by rw[h2],.inl h2⟩
 refine⟨_,cap,rfl,.inr ⟨g,0,rfl,(kG.1 h3).1,λi hi=>?_⟩⟩;have e:b[i]?=some (.string ⟨(a.getD i []).toArray⟩):=by have d:(b.toList.take<|a.length*1)[i]?=(a.map encStr)[i]?:=(by rw[h7]);rw[mD,kU<|by omega,mI,k8 hi] at d;rw[<-qH,d,ll,k8 hi];rfl
 simp[World.cell?,h3,e]
theorem FX (f:n₀<=w.1.size) (W:World) (l:Nat) (o o':Obj) (d:w.1.size<=l) (h:W.1[l]?=some o) (b:o.isCells=false) (g:o.isWalk=false):KpN n₀ W (W.putObj l o'):=
 ⟨belowK_b f W l o o' d h b g,⟨(World.grownBy.size<|grownBy_putObj' W l o'),λk i a h2=>by
  by_cases e:k=l
  .subst e;rw[h] at a;cases a;rw[b] at h2;cases h2
  exact(World.putObj_heap_other e).trans a⟩⟩
theorem TE {W f:World} {b:Nat} (a:W.grownBy f (some b)) (j:n₀<=b) (i:n₀<=W.1.size) (l:∀o,W.1[b]?=some o->o.isCells=false):KpN n₀ W f:=
 ⟨(kE _ W).grown a i λk e=>by cases e;exact j,⟨a.size,λk o d g=>by
  by_cases e:k=b
  .subst e;rw[l o d] at g;cases g
  exact(a.block k (kG.1 d).1 λh=>e<|by cases h;rfl).trans d⟩⟩
theorem TF {x:Ex} {d:Nd} {a:Nat} (hx:ExOk w x d) (hT:Tb w) (hv:x.cnt 1 0=some a):
  cN 91 #[d.val] w λe w'=>(∃q n cap ns,e=.returned (.tuple #[.slice q n cap,.int .i64 0])/\StrsOk w' q n ns/\n<=300/\∀s,(∃i,i<n/\ns i=s)↔(2,s)∈x.nds)/\Below w.1.size w w':=by
 obtain⟨aj,aw⟩:=Kc x 1 0 a hv;have a4:a<=300:=Ex.cnt_le x 1 0 a hv;have T:Below w.1.size w (w.alloc<|.cells (nA d) 33):=cU w _;have Q:=FQ (hx.below T)<|hT.below T;rw[hv] at Q;simp only[Nd.val,Option.isSome_some] at Q;simp only[Nd.val];refine(qj (n:=6)).1 ?_;have a6:=@run_makeMap prog;have ay:Fence.wide.fn 62:=trivial;have a0:Fence.wide.fn 130:=trivial;have a1:Fence.wide.fn 131:=trivial;have a2:Fence.wide.fn 132:=trivial;have a3:∀k:Nat,(Fence.wide.depth.isSome=true->1<=k):=λk h=>by cases h
 refine callsIn_of_wp_marks func91 rfl trivial ?_ rfl;simp only[ntmps91,nD,lF,mS,Nat.reduceAdd,Nat.reduceSub,nO,nP,pB,nW,mL,mZ]
 gi_wp2_with (first
  | (gi_at_call 62;refine (qj.2 Q).mono ?_;rintro _ f ⟨rfl,u⟩
     have C:w.1.size<(w.alloc<|.cells (nA d) 33).1.size:=(by simp);have y0:=(u.cell (p:=⟨w.1.size,0,none⟩) C).trans (by simp:_=some (.int .i64 d.k));have y1:=(u.cell (p:=⟨w.1.size,1,none⟩) C).trans (by simp:_=some (.int .i64 d.f));have y2:=(u.cell (p:=⟨w.1.size,2,none⟩) C).trans (by simp:_=some (.bool d.neg));have y3:=(u.cell (p:=⟨w.1.size,3,none⟩) C).trans (by simp:_=some (.slice d.aq d.an d.ac));have y4:=(u.cell (p:=⟨w.1.size,4,none⟩) C).trans (by simp:_=some (.slice d.cq d.cn d.cc));have y5:=(u.cell (p:=⟨w.1.size,5,none⟩) C).trans (by simp:_=some (.string d.m));have y6:=(u.cell (p:=⟨w.1.size,6,none⟩) C).trans (by simp:_=some (.slice d.sq d.sn d.sc));have bQ:Below w.1.size w f:=cV T u;have Z:=bQ.size;have iy:w.1.size<f.1.size:=kw C u.size;have U:Below f.1.size f ((f.alloc<|.map #[] 0).alloc<|.cells #[.map<|some f.1.size] 176):=((kE _ f).alloc (kF _) _).alloc (by simp) _;obtain⟨q0,q1,q2,q3,q4,q5⟩:=PW U iy ⟨y0,y1,y2,y3,y4,y5⟩
     have q6:((f.alloc<|.map #[] 0).alloc<|.cells #[.map<|some f.1.size] 176).cell? ⟨w.1.size,6,none⟩=some (.slice d.sq d.sn d.sc):=fg U iy y6)
  | (gi_at_call 130;refine(yS Fence.wide _ trivial rfl d _).mono ?_;rintro e w' ⟨rfl,rfl⟩))
 have af:=World.ownsMap_made f prog 9<|plainElem (H:=Unit) prog 4;have aa:Below w.1.size w ((f.alloc<|.map #[] 0).alloc<|.cells #[.map<|some f.1.size] 176):=(bQ.alloc Z _).alloc (by simp;omega) _;have I:Below w.1.size w (((f.alloc<|.map #[] 0).alloc<|.cells #[.map<|some f.1.size] 176).alloc<|.cells (nA d) 33):=aa.alloc (by simp;omega) _
 have ak:BlkI (((f.alloc<|.map #[] 0).alloc<|.cells #[.map<|some f.1.size] 176).alloc<|.cells (nA d) 33) (f.1.size+1+1) 33 (nA d):=by
  have h:=lK ((f.alloc<|.map #[] 0).alloc<|.cells #[.map<|some f.1.size] 176)<|.cells (nA d) 33
  rwa [show ((f.alloc<|.map #[] 0).alloc<|.cells #[.map<|some f.1.size] 176).1.size=f.1.size+1+1 by simp] at h
 have ad:BlkI ((f.alloc<|.map #[] 0).alloc<|.cells #[.map<|some f.1.size] 176) (f.1.size+1) 176 #[.map<|some f.1.size]:=by
  have h:=lK (f.alloc<|.map #[] 0)<|.cells #[.map<|some f.1.size] 176
  rwa [show (f.alloc<|.map #[] 0).1.size=f.1.size+1 by simp] at h
 have am:(((f.alloc<|.map #[] 0).alloc<|.cells #[.map<|some f.1.size] 176).alloc<|.cells (nA d) 33).cell? ⟨f.1.size+1,0,none⟩=some (.map<|some f.1.size):=(ad.below<|cU _ _).cell 0;have ao:=(af.alloc<|.cells #[.map<|some f.1.size] 176).alloc<|.cells (nA d) 33;have a8:(((f.alloc<|.map #[] 0).alloc<|.cells #[.map<|some f.1.size] 176).alloc<|.cells (nA d) 33).1.size=f.1.size+3:=by simp
 clear af aa y0 y1 y2 y3 y4 y5 y6 q0 q1 q2 q3 q4 q5 q6 Q ad U;generalize (((f.alloc<|.map #[] 0).alloc<|.cells #[.map<|some f.1.size] 176).alloc<|.cells (nA d) 33)=W5 at*
 refine wpIn_rangeFunc_ownH (F:=Fence.wide) (n:=6) rfl (by decide) (gf:=168) (lb:=#[.pointer<|some ⟨f.1.size+1+1,0,none⟩]) rfl trivial (enters_of func168 (by kernel_rfl) rfl)
  (Tv Fence.wide rfl _ trivial trivial rfl (f.1.size+1+1) w W5 x d ak hx aw I) FW (FX I.size) (kE _ _) (λ_=>rfl)
  (λE W=>(W.cell? ⟨f.1.size+1,0,none⟩=some (.map<|some f.1.size)/\W.ownsMap prog 9 (plainElem (H:=Unit) prog 4) f.1.size E.length (vo E))/\Below w.1.size w W)
  (λ_ _ _=>False)
  (OwnFrom.and (λs A B row O M N=>⟨cell_kept O.1 M λr e=>(N r e).2,O.2.kept M λe=>by have:=(N _ e.symm).1;omega⟩)<|ownFrom_below (kF _) I.size)
  (λ_ _ _ _ _ O _ _=>O)
  ⟨⟨am,ao⟩,I⟩
  (λb R W=>∃m,BlkI W m 33 (mA b.1.k b.1.f b.1.neg b.1.aq b.1.an b.1.ac b.1.cq b.1.cn b.1.cc b.1.m b.1.sq b.1.sn b.1.sc)/\
    R={ tmps:=#[.agg<|nA d,.pointer<|some ⟨w.1.size,0,none⟩,.slice none 0 0,.int .i64 0,.pointer<|some ⟨f.1.size+1,0,none⟩,.pointer<|some ⟨m,0,none⟩,.agg<|nA d,.bool true,.bool false,.map<|some f.1.size,.agg<|nA d,.func (.func 168) #[] #[.pointer<|some ⟨f.1.size+1+1,0,none⟩],b.1.val,undef,undef,undef,undef,undef,undef,undef,undef,undef],defers:=[] })
  (λb R _ X Y row h M N=>by
    obtain⟨m,h3,h4⟩:=h;refine⟨m,(M.block m h3.lt λe=>?_).trans h3,h4⟩;obtain⟨_,o,J,z⟩:=N m e.symm;rw[h3] at J;cases J
    cases z)
  ?assign ?body ?done ?stop
 case assign=>rintro l E b W ax ⟨⟨z,g⟩,t⟩ L;have P:=t.size;have ap:BlkI (W.alloc<|.cells (mA b.1.k b.1.f b.1.neg b.1.aq b.1.an b.1.ac b.1.cq b.1.cn b.1.cc b.1.m b.1.sq b.1.sn b.1.sc) 33) W.1.size 33 (mA b.1.k b.1.f b.1.neg b.1.aq b.1.an b.1.ac b.1.cq b.1.cn b.1.cc b.1.m b.1.sq b.1.sn b.1.sc):=lK _ _;simp only[Nd.val];gi_wp2;have jS:=sQ W _ z;exact L _ _ ((KeepsOthers.alloc _ _).from _) ((KpN.refl _ W).alloc P _) ⟨⟨((cU W _).cell (p:=⟨f.1.size+1,0,none⟩) jS).trans z,g.alloc _⟩,t.alloc P _⟩ ⟨W.1.size,ap,rfl⟩
 case body=>
  rintro l E b R W hl _ ⟨⟨z,g⟩,t⟩ ⟨m,ae,rfl⟩ a5;have P:=t.size;have x0:W.cell? ⟨m,0,none⟩=some (.int .i64 b.1.k):=ae.cell 0;have x5:W.cell? ⟨m,5,none⟩=some (.string b.1.m):=ae.cell 5;have aq:E.length<maxLen:=by unfold maxLen;omega
  have ar:b.1.m.size<=maxLen:=by have:=b.2;unfold maxLen;omega
  simp only[Nd.val];by_cases G:b.1.k=2
  .have V:Hid (b.1.k=2):=G;have an:(b.1.k==2)=true:=(by simp[G]);clear G;gi_wp2_with (gi_at_mapUpdate;refine wpListIn_mapUpdate_own _ rfl _ _ _ 176 rfl 9 4 (Maps.string_keyed underlying9) underlying176 _ f.1.size E.length _ rfl g aq _ _ _ rfl rfl (sN underlying9 ar) _ [] (plainElem_bool underlying4 true) ?_;intro w2 az K);obtain⟨es,ck,hh,_⟩:=g;exact⟨KeepsFrom.of_grownBy K λj e=>by cases e;omega,TE K Z P λo J=>by rw[hh] at J;cases J;rfl,⟨cell_kept z K λr e=>by cases e;exact⟨_,hh,rfl⟩,by rw[NM,kU V.out,kY];exact az⟩,t.grown K t.size λk e=>by cases e;exact Z⟩
  have V:Hid (¬b.1.k=2):=G;have an:(b.1.k==2)=false:=(by simp[G]);clear G;gi_wp2;exact⟨KeepsFrom.refl _ _,KpN.refl _ _,⟨z,by rw[NM,kZ V.out,kY];exact g.mono<|by simp⟩,t⟩
 case done=>
  rintro D ys W hD hS ⟨⟨z,g⟩,t⟩ L;have a9:ys.length=x.nds.length:=by rw[<-hS,mM]
  have a7:=g.size_le;have ai:=(kG.1 L).1
  gi_wp2_with (first
   | (gi_at_call 132;refine(Tq _ _).mono ?_;rintro e w' ⟨rfl,rfl⟩)
   | (gi_at_call 131;refine(Tr f.1.size ys.length (vo ys) _ W g (by unfold maxLen;omega)<|by omega).mono ?_;rintro e w' ⟨v,ss,rfl,ab,ah,gG,hb⟩))
  have ac:Below W.1.size W w':=(cU W _).trans (hb.mono<|by simp);have S:w'.1[D]?=some (.deferred<|some []):=(ac.block D ai).trans L;refine⟨by simp,.inl ⟨_,_,rfl,run_takeDeferred S,?_⟩⟩;have ce:=ownsRow_putObj ah (.deferred none) S rfl;rw[<-tj (le:=λx y=>decide (x<=y))] at ce;obtain⟨q,cap,rfl,av⟩:=TD ce;have ag:Below w.1.size w (w'.putObj D<|.deferred none):=(cV t ac).trans<|belowK_b (w:=w) (kF _) w' D _ _ (by have:=I.size;omega) S rfl rfl;refine⟨_,sO rfl _ _ _,⟨q,_,cap,_,rfl,av,?_,λs=>?_⟩,ag⟩
  .rw[tj,ab.length_eq];have:(strKeys<|vo ys).length=Maps.size (vo ys):=(by obtain⟨es,he,_⟩:=g.keysOf;rw[he];simp[strKeys,Maps.size]);omega
  have h1:(∃i,i<(ss.mergeSort λx y=>decide (x<=y)).length/\(⟨((ss.mergeSort λx y=>decide (x<=y)).getD i []).toArray⟩:ByteArray)=s)↔s.data.toList∈(ss.mergeSort λx y=>decide (x<=y)):=by
   constructor
   .rintro⟨i,hi,rfl⟩;rw[ll,k8 hi];simp
   intro h;obtain⟨i,hi,e⟩:=rX h;refine⟨i,hi,?_⟩;rw[ll,k8 hi];simp[e]
  rw[h1,List.mem_mergeSort,ab.mem_iff,yV g,<-hS,m9];constructor
  .rintro⟨y,hy,h2,h3⟩;refine⟨y,hy,?_⟩;unfold Nv.key;rw[h2];congr 1;exact ByteArray.ext<|Array.toList_inj.1 h3
  rintro⟨y,hy,h2⟩;unfold Nv.key at h2;simp only[tp] at h2;exact⟨y,hy,h2.1,by rw[h2.2]⟩
 case stop=>rintro D c E W _ _ h _;exact h.elim
