import Derived.Test.YtfhjhnofkaiceaaGreatDoorDvC
import Derived.Test.YtfhjhnofkaiceaaGreatDoorDvA
import Derived.Deep.MidRow
import Derived.Deep.WholeRow
import Derived.Deep.RegionHeld3
import Derived.Deep.QuietTactic
import Derived.BigQuiet
namespace Go.Proofs.YtfhjhnofkaiceaaGreatDoor
open Go Go.RowKit
structure Va where
 m:ByteArray
 g:Bool
 aq:Option Addr
 an:Nat
 ac:Nat
 cq:Option Addr
 cn:Nat
 cc:Nat
def Va.val (d:Va):Value:=.agg #[.string d.m,.bool d.g,.slice d.aq d.an d.ac,.slice d.cq d.cn d.cc]
structure VaAt (w:World) (b o:Nat) (d:Va):Prop where
 h0:w.cell? ⟨b,o,none⟩=some (.string d.m)
 h1:w.cell? ⟨b,o+1,none⟩=some (.bool d.g)
 h2:w.cell? ⟨b,o+2,none⟩=some (.slice d.aq d.an d.ac)
 h3:w.cell? ⟨b,o+3,none⟩=some (.slice d.cq d.cn d.cc)
theorem VaAt.below {w w':World} {B b o:Nat} {d:Va} (h:VaAt w b o d) (hb:Below B w w') (hB:b<B):VaAt w' b o d:=
 ⟨(hb.cell (by exact hB)).trans h.h0,(hb.cell (by exact hB)).trans h.h1,(hb.cell (by exact hB)).trans h.h2,(hb.cell (by exact hB)).trans h.h3⟩
end Go.Proofs.YtfhjhnofkaiceaaGreatDoor
namespace Go.Proofs.YtfhjhnofkaiceaaGreatDoor
open Go Go.RowKit
structure Bi where
 m:ByteArray
 ek:Int
 ef:Int
 eg:Bool
 eaq:Option Addr
 ean:Nat
 eac:Nat
 ecq:Option Addr
 ecn:Nat
 ecc:Nat
 em:ByteArray
 esq:Option Addr
 esn:Nat
 esc:Nat
def Bi.val (d:Bi):Value:=.agg #[.string d.m,.int .i64 d.ek,.int .i64 d.ef,.bool d.eg,.slice d.eaq d.ean d.eac,.slice d.ecq d.ecn d.ecc,.string d.em,.slice d.esq d.esn d.esc]
structure BiAt (w:World) (b o:Nat) (d:Bi):Prop where
 h0:w.cell? ⟨b,o,none⟩=some (.string d.m)
 h1:w.cell? ⟨b,o+1,none⟩=some (.int .i64 d.ek)
 h2:w.cell? ⟨b,o+2,none⟩=some (.int .i64 d.ef)
 h3:w.cell? ⟨b,o+3,none⟩=some (.bool d.eg)
 h4:w.cell? ⟨b,o+4,none⟩=some (.slice d.eaq d.ean d.eac)
 h5:w.cell? ⟨b,o+5,none⟩=some (.slice d.ecq d.ecn d.ecc)
 h6:w.cell? ⟨b,o+6,none⟩=some (.string d.em)
 h7:w.cell? ⟨b,o+7,none⟩=some (.slice d.esq d.esn d.esc)
theorem BiAt.below {w w':World} {B b o:Nat} {d:Bi} (h:BiAt w b o d) (hb:Below B w w') (hB:b<B):BiAt w' b o d:=
 ⟨(hb.cell (by exact hB)).trans h.h0,(hb.cell (by exact hB)).trans h.h1,(hb.cell (by exact hB)).trans h.h2,(hb.cell (by exact hB)).trans h.h3,(hb.cell (by exact hB)).trans h.h4,(hb.cell (by exact hB)).trans h.h5,(hb.cell (by exact hB)).trans h.h6,(hb.cell (by exact hB)).trans h.h7⟩
end Go.Proofs.YtfhjhnofkaiceaaGreatDoor
namespace Go.Proofs.YtfhjhnofkaiceaaGreatDoor
open Go Go.RowKit
theorem st_row:∃d,Tryz.prog.underlying 53=some d/\d.isRow=true:=by
 have h:(Tryz.prog.underlying 53).map TypeDesc.isRow=some true:=by kernel_rfl
 cases hd:Tryz.prog.underlying 53 with
 | none=>rw[hd] at h;cases h
 | some d=>rw[hd] at h;exact⟨d,rfl,by simpa using h⟩
theorem st_size:(Tryz.prog.info? 53).map (·.size)=some 21:=by kernel_rfl
theorem rangeAt_below {w w':World} {B b o:Nat} {cs:List Value} (h:w.rangeAt b o cs) (hb:Below B w w') (hB:b<B):w'.rangeAt b o cs:=
 fun j v hv=>(hb.cell (by exact hB)).trans (h j v hv)
theorem wpList_store_new {P:Program} {ops:Array Oper} {rest:List Oper} {op:Oper} {a:Act} {w0:World} {Q:Exit->Act->World->Prop} {c:Array Value} (hgd:op.guard=none) (ty:TypeId) (x y:Operand) (ho:op.op=.store ty x y)
  (cells:Array Value) (H:Nat) (hH:w0.heap.size=H) (hx:a.eval x=.pointer (some ⟨H,0,none⟩)) (hy:a.eval y=.agg cells)
  (hc:c.size=cells.size) (hi:(P.info? ty).map (·.size)=some cells.size) (h1:cells.all (·.oneCell')=true)
  (h:wpList P ops Q rest (a.put op.dst undef) (w0.alloc (.cells cells ty))):wpList P ops Q (op::rest) a (w0.alloc (.cells c ty)):=
 wpList_plain hgd fun _ hK=>by
  subst hH
  unfold Oper.wp execOp
  simp only[ho,hx,hy,Instr.storeAt,Instr.sureAddr,Sem.run_bind,Sem.run_pure,Result.andThen_ok,run_storeVar_new w0 ty c cells hi hc h1]
  exact hK _ _ h
theorem range_new (w:World) (cs:List Value) (t:TypeId):(w.alloc (.cells cs.toArray t)).rangeAt w.heap.size 0 cs:=by
 have h:=World.rangeAt_of_block (heap_alloc_last w (.cells cs.toArray t)) 0 cs.length
 simpa using h
end Go.Proofs.YtfhjhnofkaiceaaGreatDoor
namespace Go.Proofs.YtfhjhnofkaiceaaGreatDoor
open Go Go.RowKit
end Go.Proofs.YtfhjhnofkaiceaaGreatDoor
namespace Go.Proofs.YtfhjhnofkaiceaaGreatDoor
open Go Go.RowKit
structure Pt where
 m:ByteArray
 g:Bool
 nu:List Int
 de:List Int
def Pt.eq (p p':Pt):Bool:=decide (p.m.toList=p'.m.toList)&&ratEq p.g p.nu p.de p'.g p'.nu p'.de
def PtOk (w:World) (p:Pt) (d:Va):Prop:=
 d.m=p.m/\d.g=p.g/\Sl w (.slice d.aq d.an d.ac) p.nu/\Sl w (.slice d.cq d.cn d.cc) p.de/\p.nu.length<=1048576/\p.de.length<=1048576
theorem PtOk.below {w w':World} (hb:Below w.heap.size w w') {p:Pt} {d:Va} (h:PtOk w p d):PtOk w' p d:=
 ⟨h.1,h.2.1,h.2.2.1.below hb,h.2.2.2.1.below hb,h.2.2.2.2⟩
structure Bd where
 m:ByteArray
 x:Ex
def Bd.eq (p p':Bd):Bool:=decide (p.m.toList=p'.m.toList)&&p.x.eq p'.x
def Bi.nd (d:Bi):Nd:=⟨d.ek,d.ef,d.eg,d.eaq,d.ean,d.eac,d.ecq,d.ecn,d.ecc,d.em,d.esq,d.esn,d.esc⟩
def BdOk (w:World) (p:Bd) (d:Bi):Prop:=d.m=p.m/\ExOk w p.x d.nd
theorem BdOk.below {w w':World} (hb:Below w.heap.size w w') {p:Bd} {d:Bi} (h:BdOk w p d):BdOk w' p d:=⟨h.1,h.2.below hb⟩
def PtsOk (w:World) (q:Option Addr) (n:Nat) (ps:Nat->Pt):Prop:=
 n<=1099511627776/\(n=0\/∃b o,q=some ⟨b,o,none⟩/\b<w.heap.size/\∃ds:Nat->Va,∀i,i<n->VaAt w b (o+i*4) (ds i)/\PtOk w (ps i) (ds i))
theorem PtsOk.below {w w':World} (hb:Below w.heap.size w w') {q:Option Addr} {n:Nat} {ps:Nat->Pt} (h:PtsOk w q n ps):PtsOk w' q n ps:=by
 refine⟨h.1,h.2.imp id ?_⟩
 rintro⟨b,o,e,hlt,ds,hds⟩
 exact⟨b,o,e,Nat.lt_of_lt_of_le hlt hb.size,ds,fun i hi=>⟨(hds i hi).1.below hb hlt,(hds i hi).2.below hb⟩⟩
def PtsEq (n:Nat) (ps:Nat->Pt) (n':Nat) (ps':Nat->Pt):Bool:=decide (n=n')&&(List.range n).all fun i=>(ps i).eq (ps' i)
def BdsOk (w:World) (q:Option Addr) (n:Nat) (ps:Nat->Bd):Prop:=
 n<=1099511627776/\(n=0\/∃b o,q=some ⟨b,o,none⟩/\b<w.heap.size/\∃ds:Nat->Bi,∀i,i<n->BiAt w b (o+i*8) (ds i)/\BdOk w (ps i) (ds i))
theorem BdsOk.below {w w':World} (hb:Below w.heap.size w w') {q:Option Addr} {n:Nat} {ps:Nat->Bd} (h:BdsOk w q n ps):BdsOk w' q n ps:=by
 refine⟨h.1,h.2.imp id ?_⟩
 rintro⟨b,o,e,hlt,ds,hds⟩
 exact⟨b,o,e,Nat.lt_of_lt_of_le hlt hb.size,ds,fun i hi=>⟨(hds i hi).1.below hb hlt,(hds i hi).2.below hb⟩⟩
def BdsEq (n:Nat) (ps:Nat->Bd) (n':Nat) (ps':Nat->Bd):Bool:=decide (n=n')&&(List.range n).all fun i=>(ps i).eq (ps' i)
end Go.Proofs.YtfhjhnofkaiceaaGreatDoor
namespace Go.Proofs.YtfhjhnofkaiceaaGreatDoor
open Go Go.RowKit
end Go.Proofs.YtfhjhnofkaiceaaGreatDoor
namespace Go.Proofs.YtfhjhnofkaiceaaGreatDoor
open Go Go.RowKit
end Go.Proofs.YtfhjhnofkaiceaaGreatDoor
namespace Go.Proofs.YtfhjhnofkaiceaaGreatDoor
open Go Go.RowKit
end Go.Proofs.YtfhjhnofkaiceaaGreatDoor
namespace Go.Proofs.YtfhjhnofkaiceaaGreatDoor
open Go Go.RowKit
structure Sc where
 ru:Int
 nm:ByteArray
 ot:ByteArray
 g:Bool
 kk:Int
 nn:Int
 pr:Int
 en:ByteArray
 ve:Int
structure Sd where
 s:Sc
 aq:Option Addr
 an:Nat
 ac:Nat
 cq:Option Addr
 cn:Nat
 cc:Nat
 e:Nd
 poq:Option Addr
 pon:Nat
 poc:Nat
 arq:Option Addr
 arn:Nat
 arc:Nat
 kiq:Option Addr
 kin:Nat
 kic:Nat
abbrev Sd.ce (d:Sd):Array Value:=#[.int .i64 d.s.ru,.string d.s.nm,.string d.s.ot,.bool d.s.g,.slice d.aq d.an d.ac,.slice d.cq d.cn d.cc,.int .i64 d.s.kk,.int .i64 d.s.nn,.int .i64 d.s.pr,.int .i64 d.e.k,.int .i64 d.e.f,.bool d.e.neg,.slice d.e.aq d.e.an d.e.ac,.slice d.e.cq d.e.cn d.e.cc,.string d.e.m,.slice d.e.sq d.e.sn d.e.sc,.slice d.poq d.pon d.poc,.string d.s.en,.int .i64 d.s.ve,.slice d.arq d.arn d.arc,.slice d.kiq d.kin d.kic]
abbrev Sd.ce20 (d:Sd):Array Value:=#[.int .i64 20,.string d.s.nm,.string d.s.ot,.bool d.s.g,.slice d.aq d.an d.ac,.slice d.cq d.cn d.cc,.int .i64 d.s.kk,.int .i64 d.s.nn,.int .i64 d.s.pr,.int .i64 d.e.k,.int .i64 d.e.f,.bool d.e.neg,.slice d.e.aq d.e.an d.e.ac,.slice d.e.cq d.e.cn d.e.cc,.string d.e.m,.slice d.e.sq d.e.sn d.e.sc,.slice d.poq d.pon d.poc,.string d.s.en,.int .i64 d.s.ve,.slice d.arq d.arn d.arc,.slice d.kiq d.kin d.kic]
def Sd.cells (d:Sd):List Value:=[.int .i64 d.s.ru,.string d.s.nm,.string d.s.ot,.bool d.s.g,.slice d.aq d.an d.ac,.slice d.cq d.cn d.cc,.int .i64 d.s.kk,.int .i64 d.s.nn,.int .i64 d.s.pr,
 .int .i64 d.e.k,.int .i64 d.e.f,.bool d.e.neg,.slice d.e.aq d.e.an d.e.ac,.slice d.e.cq d.e.cn d.e.cc,.string d.e.m,.slice d.e.sq d.e.sn d.e.sc,
 .slice d.poq d.pon d.poc,.string d.s.en,.int .i64 d.s.ve,.slice d.arq d.arn d.arc,.slice d.kiq d.kin d.kic]
def Sd.val (d:Sd):Value:=.agg d.cells.toArray
theorem Sd.len (d:Sd):d.cells.length=21:=rfl
theorem Sd.one (d:Sd):d.cells.toArray.all (·.oneCell')=true:=by
 refine all_oneCell_toArray ?_
 intro v hv
 simp only[Sd.cells,List.mem_cons,List.not_mem_nil,or_false] at hv
 rcases hv with rfl | rfl | rfl | rfl | rfl | rfl | rfl | rfl | rfl | rfl | rfl | rfl | rfl | rfl | rfl | rfl | rfl | rfl | rfl | rfl | rfl<;>rfl
inductive St where
 | non
 | mk (s:Sc) (nu de:List Int) (x:Ex) (pn:Nat) (ps:Nat->Pt) (bn:Nat) (bs:Nat->Bd) (n:Nat) (ki:Nat->St)
def Sc.eq (s t:Sc):Bool:=(decide (s.ru=t.ru)&&decide (s.nm.toList=t.nm.toList)&&decide (s.ot.toList=t.ot.toList)&&decide (s.en.toList=t.en.toList)&&decide (s.ve=t.ve))&&(decide (s.kk=t.kk)&&decide (s.nn=t.nn)&&decide (s.pr=t.pr))
def St.eq:St->St->Bool
 | .mk s nu de x pn ps bn bs n ki,.mk s' nu' de' x' pn' ps' bn' bs' n' ki'=>
  s.eq s'&&(ratEq s.g nu de s'.g nu' de'&&(x.eq x'&&(PtsEq pn ps pn' ps'&&(BdsEq bn bs bn' bs'&&(decide (n=n')&&(List.range n).all fun i=>(ki i).eq (ki' i))))))
 | .non,.non=>true
 | _,_=>false
def StOk (w:World):St->Sd->Prop
 | .non,_=>False
 | .mk s nu de x pn ps bn bs n ki,d=>(d.s=s/\d.pon=pn/\d.arn=bn/\d.kin=n)/\Sl w (.slice d.aq d.an d.ac) nu/\Sl w (.slice d.cq d.cn d.cc) de/\nu.length<=1048576/\de.length<=1048576/\
  ExOk w x d.e/\PtsOk w d.poq pn ps/\BdsOk w d.arq bn bs/\n<=1099511627776/\
  (n=0\/∃b o,d.kiq=some ⟨b,o,none⟩/\b<w.heap.size/\∃ds:Nat->Sd,∀i,i<n->w.rangeAt b (o+i*21) (ds i).cells/\StOk w (ki i) (ds i))
theorem StOk.below {w w':World} (hb:Below w.heap.size w w'):∀{x:St} {d:Sd},StOk w x d->StOk w' x d:=by
 intro x
 induction x with
 | non=>exact fun h=>h.elim
 | mk s nu de x pn ps bn bs n ki ih=>
  intro d h
  unfold StOk at h ⊢
  obtain⟨h1,h2,h3,h4,h5,h6,h7,h8,h9,h10⟩:=h
  refine⟨h1,h2.below hb,h3.below hb,h4,h5,h6.below hb,h7.below hb,h8.below hb,h9,h10.imp id ?_⟩
  rintro⟨b,o,e,hlt,ds,hds⟩
  exact⟨b,o,e,Nat.lt_of_lt_of_le hlt hb.size,ds,fun i hi=>⟨rangeAt_below (hds i hi).1 hb hlt,ih i (hds i hi).2⟩⟩
end Go.Proofs.YtfhjhnofkaiceaaGreatDoor
namespace Go.Proofs.YtfhjhnofkaiceaaGreatDoor
open Go Go.RowKit
set_option maxRecDepth 100000 in
set_option maxHeartbeats 4000000 in
theorem lists_walk {w:World} {ru1 ru2 kk1 kk2 nn1 nn2 pr1 pr2 ve1 ve2 ek1 ek2 ef1 ef2:Int} {nm1 nm2 ot1 ot2 en1 en2 em1 em2:ByteArray} {g1 g2 eg1 eg2:Bool} {a1 a2 c1 c2 ea1 ea2 ec1 ec2 es1 es2:Value} {pq1 pq2 aq1 aq2 kq1 kq2:Option Addr} {pn pc1 pc2 bn ac1 ac2 kn kc1 kc2:Nat} (xs ys:Nat->Va) (xb yb:Nat->Bi) (R X:Nat->Bool)
  (hpn:pn<=1099511627776) (hbn:bn<=1099511627776) (_hkn:kn<=1099511627776)
  (hp1:pn=0\/∃b o,pq1=some ⟨b,o,none⟩/\b<w.heap.size/\∀i,i<pn->VaAt w b (o+i*4) (xs i))
  (hp2:pn=0\/∃b o,pq2=some ⟨b,o,none⟩/\b<w.heap.size/\∀i,i<pn->VaAt w b (o+i*4) (ys i))
  (ha1:bn=0\/∃b o,aq1=some ⟨b,o,none⟩/\b<w.heap.size/\∀i,i<bn->BiAt w b (o+i*8) (xb i))
  (ha2:bn=0\/∃b o,aq2=some ⟨b,o,none⟩/\b<w.heap.size/\∀i,i<bn->BiAt w b (o+i*8) (yb i))
  (hR:∀i,i<pn->∀w1,Below w.heap.size w w1->Calls Tryz.prog 78 #[.agg #[.bool (xs i).g,.slice (xs i).aq (xs i).an (xs i).ac,.slice (xs i).cq (xs i).cn (xs i).cc],.agg #[.bool (ys i).g,.slice (ys i).aq (ys i).an (ys i).ac,.slice (ys i).cq (ys i).cn (ys i).cc]] w1 fun e w'=>e=.returned (.bool (R i))/\Below w1.heap.size w1 w')
  (hX:∀i,i<bn->∀w1,Below w.heap.size w w1->Calls Tryz.prog 76 #[.agg #[.int .i64 (xb i).ek,.int .i64 (xb i).ef,.bool (xb i).eg,.slice (xb i).eaq (xb i).ean (xb i).eac,.slice (xb i).ecq (xb i).ecn (xb i).ecc,.string (xb i).em,.slice (xb i).esq (xb i).esn (xb i).esc],.agg #[.int .i64 (yb i).ek,.int .i64 (yb i).ef,.bool (yb i).eg,.slice (yb i).eaq (yb i).ean (yb i).eac,.slice (yb i).ecq (yb i).ecn (yb i).ecc,.string (yb i).em,.slice (yb i).esq (yb i).esn (yb i).esc]] w1 fun e w'=>e=.returned (.bool (X i))/\Below w1.heap.size w1 w'):
  Calls Tryz.prog 79 #[.agg #[.int .i64 ru1,.string nm1,.string ot1,.bool g1,a1,c1,.int .i64 kk1,.int .i64 nn1,.int .i64 pr1,.int .i64 ek1,.int .i64 ef1,.bool eg1,ea1,ec1,.string em1,es1,.slice pq1 pn pc1,.string en1,.int .i64 ve1,.slice aq1 bn ac1,.slice kq1 kn kc1],.agg #[.int .i64 ru2,.string nm2,.string ot2,.bool g2,a2,c2,.int .i64 kk2,.int .i64 nn2,.int .i64 pr2,.int .i64 ek2,.int .i64 ef2,.bool eg2,ea2,ec2,.string em2,es2,.slice pq2 pn pc2,.string en2,.int .i64 ve2,.slice aq2 bn ac2,.slice kq2 kn kc2]] w
   fun e w'=>e=.returned (.bool (((List.range pn).all fun i=>(decide ((xs i).m.toList=(ys i).m.toList)&&R i))&&((List.range bn).all fun i=>(decide ((xb i).m.toList=(yb i).m.toList)&&X i))))/\Below w.heap.size w w':=by
 have h2:∀o o2,Below w.heap.size w ((w.alloc o).alloc o2):=fun o o2=>below_two w o o2
 have H1:Hid (pn=0\/∃b o,pq1=some ⟨b,o,none⟩/\b<w.heap.size/\∀i,i<pn->VaAt w b (o+i*4) (xs i)):=hp1
 have H2:Hid (pn=0\/∃b o,pq2=some ⟨b,o,none⟩/\b<w.heap.size/\∀i,i<pn->VaAt w b (o+i*4) (ys i)):=hp2
 have H3:Hid (bn=0\/∃b o,aq1=some ⟨b,o,none⟩/\b<w.heap.size/\∀i,i<bn->BiAt w b (o+i*8) (xb i)):=ha1
 have H4:Hid (bn=0\/∃b o,aq2=some ⟨b,o,none⟩/\b<w.heap.size/\∀i,i<bn->BiAt w b (o+i*8) (yb i)):=ha2
 clear hp1 hp2 ha1 ha2
 go_enter Tryz.func79,Tryz.ntmps79
 go_wp2_with fail
 generalize hw1:(w.alloc _).alloc _=w1 at*
 have hW1:Below w.heap.size w w1:=by rw[<-hw1];exact h2 _ _
 have hz1:w.heap.size+2<=w1.heap.size:=by rw[<-hw1];simp
 have p1:w1.cell? ⟨w.heap.size,16,none⟩=some (.slice pq1 pn pc1):=by rw[<-hw1];simp
 have p2:w1.cell? ⟨w.heap.size+1,16,none⟩=some (.slice pq2 pn pc2):=by rw[<-hw1];simp
 have b1:w1.cell? ⟨w.heap.size,19,none⟩=some (.slice aq1 bn ac1):=by rw[<-hw1];simp
 have b2':w1.cell? ⟨w.heap.size+1,19,none⟩=some (.slice aq2 bn ac2):=by rw[<-hw1];simp
 clear hw1 h2
 go_loopw [35] (fun i wr=>∃k:Nat,k<=pn/\i=.int .i64 k/\(∀j,j<k->(decide ((xs j).m.toList=(ys j).m.toList)&&R j)=true)/\Below w1.heap.size w1 wr) (fun i _=>pn - (intOf i).toNat)
 case atStart=>exact⟨0,Nat.zero_le _,rfl,fun j hj=>by omega,Below.refl _ _⟩
 case round=>
  obtain⟨k,hk,rfl,hag,hbw⟩:=hrel
  have hHid:Hid (∀j,j<k->(decide ((xs j).m.toList=(ys j).m.toList)&&R j)=true):=hag
  clear hag
  have hW:Below w.heap.size w wr:=hW1.trans (hbw.mono hW1.size)
  by_cases hlt:k<pn
  ·have hlt':(k:Int)<(pn:Int):=by omega
   rcases H1.out with h0 | ⟨b,o,rfl,hbb,hcx⟩
   ·omega
   rcases H2.out with h0 | ⟨b2,o2,rfl,hbb2,hcy⟩
   ·omega
   obtain⟨x0,x1,x2,x3⟩:=(hcx k hlt).below hW hbb
   obtain⟨y0,y1,y2,y3⟩:=(hcy k hlt).below hW hbb2
   have qr:wr.cell? ⟨w.heap.size,16,none⟩=some (.slice (some ⟨b,o,none⟩) pn pc1):=(hbw.cell (by show w.heap.size<_;omega)).trans p1
   have rr:wr.cell? ⟨w.heap.size+1,16,none⟩=some (.slice (some ⟨b2,o2,none⟩) pn pc2):=(hbw.cell (by show w.heap.size+1<_;omega)).trans p2
   have hRk:=hR k hlt
   have hws:=hbw.size
   have hws2:w.heap.size+2<=wr.heap.size:=by omega
   cases hm:decide ((xs k).m.toList=(ys k).m.toList) with
   | true=>
    have hm':(xs k).m.toList=(ys k).m.toList:=by simpa using hm
    go_wp2_with fail
    go_region_held3 (fun z=>z.cell? ⟨w.heap.size,16,none⟩=some (.slice (some ⟨b,o,none⟩) pn pc1)/\z.cell? ⟨w.heap.size+1,16,none⟩=some (.slice (some ⟨b2,o2,none⟩) pn pc2)/\z.cell? ⟨b,o+k*4,none⟩=some (.string (xs k).m)/\z.cell? ⟨b,o+k*4+1,none⟩=some (.bool (xs k).g)/\z.cell? ⟨b,o+k*4+2,none⟩=some (.slice (xs k).aq (xs k).an (xs k).ac)/\z.cell? ⟨b,o+k*4+3,none⟩=some (.slice (xs k).cq (xs k).cn (xs k).cc)/\z.cell? ⟨b2,o2+k*4,none⟩=some (.string (ys k).m)/\z.cell? ⟨b2,o2+k*4+1,none⟩=some (.bool (ys k).g)/\z.cell? ⟨b2,o2+k*4+2,none⟩=some (.slice (ys k).aq (ys k).an (ys k).ac)/\z.cell? ⟨b2,o2+k*4+3,none⟩=some (.slice (ys k).cq (ys k).cn (ys k).cc)) (first | exact⟨qr,rr,x0,x1,x2,x3,y0,y1,y2,y3⟩ | exact hS5)
     (first
       | (go_at_call 78;refine(hRk _ ?_).mono ?_;exact hW.drew;rintro e w5 ⟨rfl,hb5⟩
          have hs5:wr.heap.size<=wr.drew.heap.size:=Nat.le_refl _
          have hbl:b<wr.drew.heap.size:=by omega
          have hbl2:b2<wr.drew.heap.size:=by omega
          have hc5:w.heap.size<wr.drew.heap.size:=by omega
          have hc6:w.heap.size+1<wr.drew.heap.size:=by omega
          have hS5:w5.cell? ⟨w.heap.size,16,none⟩=some (.slice (some ⟨b,o,none⟩) pn pc1)/\w5.cell? ⟨w.heap.size+1,16,none⟩=some (.slice (some ⟨b2,o2,none⟩) pn pc2)/\w5.cell? ⟨b,o+k*4,none⟩=some (.string (xs k).m)/\w5.cell? ⟨b,o+k*4+1,none⟩=some (.bool (xs k).g)/\w5.cell? ⟨b,o+k*4+2,none⟩=some (.slice (xs k).aq (xs k).an (xs k).ac)/\w5.cell? ⟨b,o+k*4+3,none⟩=some (.slice (xs k).cq (xs k).cn (xs k).cc)/\w5.cell? ⟨b2,o2+k*4,none⟩=some (.string (ys k).m)/\w5.cell? ⟨b2,o2+k*4+1,none⟩=some (.bool (ys k).g)/\w5.cell? ⟨b2,o2+k*4+2,none⟩=some (.slice (ys k).aq (ys k).an (ys k).ac)/\w5.cell? ⟨b2,o2+k*4+3,none⟩=some (.slice (ys k).cq (ys k).cn (ys k).cc):=⟨(hb5.cell (by exact hc5)).trans qr,(hb5.cell (by exact hc6)).trans rr,(hb5.cell (by exact hbl)).trans x0,(hb5.cell (by exact hbl)).trans x1,(hb5.cell (by exact hbl)).trans x2,(hb5.cell (by exact hbl)).trans x3,(hb5.cell (by exact hbl2)).trans y0,(hb5.cell (by exact hbl2)).trans y1,(hb5.cell (by exact hbl2)).trans y2,(hb5.cell (by exact hbl2)).trans y3⟩))
    have hW5:Below w.heap.size w w5:=hW.drew.trans (hb5.mono hW.drew.size)
    have hW15:=hbw.drew.trans (hb5.mono hbw.drew.size)
    clear hS5 x0 x1 x2 x3 y0 y1 y2 y3 qr rr hb5
    cases hp:R k with
    | false=>
     go_wp2_with fail
     go_ret
     have hall:(List.range pn).all (fun i=>(decide ((xs i).m.toList=(ys i).m.toList)&&R i))=false:=by
      rw[List.all_eq_false]
      exact⟨k,List.mem_range.2 hlt,by simp[hp]⟩
     skip
     rw[hall]
     exact⟨by simp,hW5⟩
    | true=>
     go_wp2_with fail
     go_roundw
     case rel=>
      refine⟨k+1,by omega,by go_num,fun j hj=>?_,hW15⟩
      rcases Nat.lt_or_ge j k with h | h
      ·exact hHid.out j h
      ·have:j=k:=by omega
       subst this
       simp[hm,hp]
     case measure=>simp[intOf];omega
   | false=>
    have hm':¬(xs k).m.toList=(ys k).m.toList:=by simpa using hm
    go_wp2_with fail
    go_quiet (fail)
    clear x0 x1 x2 x3 y0 y1 y2 y3 qr rr
    go_wp2_with fail
    go_ret
    have hall:(List.range pn).all (fun i=>(decide ((xs i).m.toList=(ys i).m.toList)&&R i))=false:=by
     rw[List.all_eq_false]
     exact⟨k,List.mem_range.2 hlt,by simp[hm]⟩
    skip
    rw[hall]
    exact⟨by simp,below_draws hW _⟩
  ·have hk':pn=k:=by omega
   subst hk'
   have hallVa:(List.range pn).all (fun i=>(decide ((xs i).m.toList=(ys i).m.toList)&&R i))=true:=by
    rw[List.all_eq_true]
    intro j hj
    exact hHid.out j (List.mem_range.1 hj)
   have c1':=(hbw.cell (p:=⟨w.heap.size,19,none⟩) (by show w.heap.size<_;omega)).trans b1
   have c2':=(hbw.cell (p:=⟨w.heap.size+1,19,none⟩) (by show w.heap.size+1<_;omega)).trans b2'
   have hz2:w.heap.size+2<=wr.heap.size:=by have:=hbw.size;omega
   clear p1 p2 b1 b2' hHid
   go_wp2_with fail
   go_loopw [71] (fun i z=>∃k:Nat,k<=bn/\i=.int .i64 k/\(∀j,j<k->(decide ((xb j).m.toList=(yb j).m.toList)&&X j)=true)/\Below wr.heap.size wr z) (fun i _=>bn - (intOf i).toNat)
   case atStart=>exact⟨0,Nat.zero_le _,rfl,fun j hj=>by omega,Below.refl _ _⟩
   case round=>
    have hWa:=hW
    have hza:=hz2
    have d1:=c1'
    have d2:=c2'
    clear hW hz2 c1' c2' hbw
    obtain⟨k,hk,rfl,hag,hbw⟩:=hrel
    have hHid:Hid (∀j,j<k->(decide ((xb j).m.toList=(yb j).m.toList)&&X j)=true):=hag
    clear hag
    have hW:Below w.heap.size w wr:=hWa.trans (hbw.mono hWa.size)
    by_cases hlt:k<bn
    ·have hlt':(k:Int)<(bn:Int):=by omega
     rcases H3.out with h0 | ⟨b,o,rfl,hbb,hcx⟩
     ·omega
     rcases H4.out with h0 | ⟨b2,o2,rfl,hbb2,hcy⟩
     ·omega
     obtain⟨x0,x1,x2,x3,x4,x5,x6,x7⟩:=(hcx k hlt).below hW hbb
     obtain⟨y0,y1,y2,y3,y4,y5,y6,y7⟩:=(hcy k hlt).below hW hbb2
     have qr:wr.cell? ⟨w.heap.size,19,none⟩=some (.slice (some ⟨b,o,none⟩) bn ac1):=(hbw.cell (by show w.heap.size<_;omega)).trans d1
     have rr:wr.cell? ⟨w.heap.size+1,19,none⟩=some (.slice (some ⟨b2,o2,none⟩) bn ac2):=(hbw.cell (by show w.heap.size+1<_;omega)).trans d2
     have hRk:=hX k hlt
     have hws:=hbw.size
     have hws2:w.heap.size+2<=wr.heap.size:=by omega
     cases hm:decide ((xb k).m.toList=(yb k).m.toList) with
     | true=>
      have hm':(xb k).m.toList=(yb k).m.toList:=by simpa using hm
      go_wp2_with fail
      go_region_held3 (fun z=>z.cell? ⟨w.heap.size,19,none⟩=some (.slice (some ⟨b,o,none⟩) bn ac1)/\z.cell? ⟨w.heap.size+1,19,none⟩=some (.slice (some ⟨b2,o2,none⟩) bn ac2)/\z.cell? ⟨b,o+k*8,none⟩=some (.string (xb k).m)/\z.cell? ⟨b,o+k*8+1,none⟩=some (.int .i64 (xb k).ek)/\z.cell? ⟨b,o+k*8+2,none⟩=some (.int .i64 (xb k).ef)/\z.cell? ⟨b,o+k*8+3,none⟩=some (.bool (xb k).eg)/\z.cell? ⟨b,o+k*8+4,none⟩=some (.slice (xb k).eaq (xb k).ean (xb k).eac)/\z.cell? ⟨b,o+k*8+5,none⟩=some (.slice (xb k).ecq (xb k).ecn (xb k).ecc)/\z.cell? ⟨b,o+k*8+6,none⟩=some (.string (xb k).em)/\z.cell? ⟨b,o+k*8+7,none⟩=some (.slice (xb k).esq (xb k).esn (xb k).esc)/\z.cell? ⟨b2,o2+k*8,none⟩=some (.string (yb k).m)/\z.cell? ⟨b2,o2+k*8+1,none⟩=some (.int .i64 (yb k).ek)/\z.cell? ⟨b2,o2+k*8+2,none⟩=some (.int .i64 (yb k).ef)/\z.cell? ⟨b2,o2+k*8+3,none⟩=some (.bool (yb k).eg)/\z.cell? ⟨b2,o2+k*8+4,none⟩=some (.slice (yb k).eaq (yb k).ean (yb k).eac)/\z.cell? ⟨b2,o2+k*8+5,none⟩=some (.slice (yb k).ecq (yb k).ecn (yb k).ecc)/\z.cell? ⟨b2,o2+k*8+6,none⟩=some (.string (yb k).em)/\z.cell? ⟨b2,o2+k*8+7,none⟩=some (.slice (yb k).esq (yb k).esn (yb k).esc)) (first | exact⟨qr,rr,x0,x1,x2,x3,x4,x5,x6,x7,y0,y1,y2,y3,y4,y5,y6,y7⟩ | exact hS5)
       (first
         | (go_at_call 76;refine(hRk _ ?_).mono ?_;exact hW.drew;rintro e w5 ⟨rfl,hb5⟩
            have hs5:wr.heap.size<=wr.drew.heap.size:=Nat.le_refl _
            have hbl:b<wr.drew.heap.size:=by omega
            have hbl2:b2<wr.drew.heap.size:=by omega
            have hc5:w.heap.size<wr.drew.heap.size:=by omega
            have hc6:w.heap.size+1<wr.drew.heap.size:=by omega
            have hS5:w5.cell? ⟨w.heap.size,19,none⟩=some (.slice (some ⟨b,o,none⟩) bn ac1)/\w5.cell? ⟨w.heap.size+1,19,none⟩=some (.slice (some ⟨b2,o2,none⟩) bn ac2)/\w5.cell? ⟨b,o+k*8,none⟩=some (.string (xb k).m)/\w5.cell? ⟨b,o+k*8+1,none⟩=some (.int .i64 (xb k).ek)/\w5.cell? ⟨b,o+k*8+2,none⟩=some (.int .i64 (xb k).ef)/\w5.cell? ⟨b,o+k*8+3,none⟩=some (.bool (xb k).eg)/\w5.cell? ⟨b,o+k*8+4,none⟩=some (.slice (xb k).eaq (xb k).ean (xb k).eac)/\w5.cell? ⟨b,o+k*8+5,none⟩=some (.slice (xb k).ecq (xb k).ecn (xb k).ecc)/\w5.cell? ⟨b,o+k*8+6,none⟩=some (.string (xb k).em)/\w5.cell? ⟨b,o+k*8+7,none⟩=some (.slice (xb k).esq (xb k).esn (xb k).esc)/\w5.cell? ⟨b2,o2+k*8,none⟩=some (.string (yb k).m)/\w5.cell? ⟨b2,o2+k*8+1,none⟩=some (.int .i64 (yb k).ek)/\w5.cell? ⟨b2,o2+k*8+2,none⟩=some (.int .i64 (yb k).ef)/\w5.cell? ⟨b2,o2+k*8+3,none⟩=some (.bool (yb k).eg)/\w5.cell? ⟨b2,o2+k*8+4,none⟩=some (.slice (yb k).eaq (yb k).ean (yb k).eac)/\w5.cell? ⟨b2,o2+k*8+5,none⟩=some (.slice (yb k).ecq (yb k).ecn (yb k).ecc)/\w5.cell? ⟨b2,o2+k*8+6,none⟩=some (.string (yb k).em)/\w5.cell? ⟨b2,o2+k*8+7,none⟩=some (.slice (yb k).esq (yb k).esn (yb k).esc):=⟨(hb5.cell (by exact hc5)).trans qr,(hb5.cell (by exact hc6)).trans rr,(hb5.cell (by exact hbl)).trans x0,(hb5.cell (by exact hbl)).trans x1,(hb5.cell (by exact hbl)).trans x2,(hb5.cell (by exact hbl)).trans x3,(hb5.cell (by exact hbl)).trans x4,(hb5.cell (by exact hbl)).trans x5,(hb5.cell (by exact hbl)).trans x6,(hb5.cell (by exact hbl)).trans x7,(hb5.cell (by exact hbl2)).trans y0,(hb5.cell (by exact hbl2)).trans y1,(hb5.cell (by exact hbl2)).trans y2,(hb5.cell (by exact hbl2)).trans y3,(hb5.cell (by exact hbl2)).trans y4,(hb5.cell (by exact hbl2)).trans y5,(hb5.cell (by exact hbl2)).trans y6,(hb5.cell (by exact hbl2)).trans y7⟩))
      have hW5:Below w.heap.size w w5:=hW.drew.trans (hb5.mono hW.drew.size)
      have hW15:=hbw.drew.trans (hb5.mono hbw.drew.size)
      clear hS5 x0 x1 x2 x3 x4 x5 x6 x7 y0 y1 y2 y3 y4 y5 y6 y7 qr rr hb5
      cases hp:X k with
      | false=>
       go_wp2_with fail
       go_ret
       have hall:(List.range bn).all (fun i=>(decide ((xb i).m.toList=(yb i).m.toList)&&X i))=false:=by
        rw[List.all_eq_false]
        exact⟨k,List.mem_range.2 hlt,by simp[hp]⟩
       skip
       rw[hall]
       exact⟨by simp,hW5⟩
      | true=>
       go_wp2_with fail
       go_roundw
       case rel=>
        refine⟨k+1,by omega,by go_num,fun j hj=>?_,hW15⟩
        rcases Nat.lt_or_ge j k with h | h
        ·exact hHid.out j h
        ·have:j=k:=by omega
         subst this
         simp[hm,hp]
       case measure=>simp[intOf];omega
     | false=>
      have hm':¬(xb k).m.toList=(yb k).m.toList:=by simpa using hm
      go_wp2_with fail
      go_quiet (fail)
      clear x0 x1 x2 x3 x4 x5 x6 x7 y0 y1 y2 y3 y4 y5 y6 y7 qr rr
      go_wp2_with fail
      go_ret
      have hall:(List.range bn).all (fun i=>(decide ((xb i).m.toList=(yb i).m.toList)&&X i))=false:=by
       rw[List.all_eq_false]
       exact⟨k,List.mem_range.2 hlt,by simp[hm]⟩
      skip
      rw[hall]
      exact⟨by simp,below_draws hW _⟩
    ·have hk':bn=k:=by omega
     subst hk'
     have hallBi:(List.range bn).all (fun i=>(decide ((xb i).m.toList=(yb i).m.toList)&&X i))=true:=by
      rw[List.all_eq_true]
      intro j hj
      exact hHid.out j (List.mem_range.1 hj)
     go_wp2_with fail
     go_ret
     rw[hallVa,hallBi]
     exact⟨rfl,hW⟩
end Go.Proofs.YtfhjhnofkaiceaaGreatDoor
