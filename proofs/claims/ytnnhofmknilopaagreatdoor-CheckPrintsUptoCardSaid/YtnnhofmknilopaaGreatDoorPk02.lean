import Derived.Deep.MidRow
import Derived.Deep.WholeRow
import Derived.ChangeArms
import Derived.DataReads
import Derived.Deep.RegionHeld3
import Derived.Deep.AppendLies
import Derived.Test.YtnnhofmknilopaaGreatDoorPk01
namespace Go.Proofs.YtnnhofmknilopaaGreatDoor
open Go Go.RowKit
theorem zkv {w:World} {v u:Value} {xs ys:List Int} (hx:Sl16 w v xs) (hy:Sl16 w u ys) (nx:xs≠[]) (ny:ys≠[]) (hn:xs.length+ys.length<=549755813888):
  Calls Tryz.prog 398 #[v,u] w fun e w'=>∃r zs,e=.returned r/\Sl16 w' r zs/\Canon zs/\val16 zs=val16 xs*val16 ys/\Below w.heap.size w w':=by
 obtain⟨x1,x2,q,cap,rfl,x4,x5⟩:=hx
 obtain⟨y1,y2,q',cap',rfl,y4,y5⟩:=hy
 rcases x5 with e | ⟨b,o,rfl,hlt,hc⟩
 ·exact absurd e nx
 rcases y5 with e | ⟨b',o',rfl,aF,hc'⟩
 ·exact absurd e ny
 have zx:((xs.length:Int)==0)=false:=by simp[nx]
 have zy:((ys.length:Int)==0)=false:=by simp[ny]
 refine(zhz b o cap b' o' cap' (xs.length+ys.length) xs ys w rfl (by omega) x1 y1 hc hc' hlt aF zx zy).mono ?_
 rintro e w' ⟨os,cO,rfl,aR,hb⟩
 have ho:=cO.len
 have hl:=zan os os.length
 refine⟨_,trim os,rfl,⟨zaw cO.dig,by rw[zag];omega,_,_,by rw[zag,ho],by rw[zag];omega,.inr ⟨w.heap.size,0,rfl,?_,fun i hi=>?_⟩⟩,zal os,by rw[zaq,cO.eq,List.take_length],hb⟩
 ·rcases Nat.lt_or_ge w.heap.size w'.heap.size with hh | hh
  ·exact hh
  ·unfold Blk at aR;simp[Array.getElem?_eq_none hh] at aR
 ·rw[zbe os i hi,Nat.zero_add]
  exact aR.cell (by rw[zag] at hi;omega)
structure Nd where
 k:Int
 f:Int
 neg:Bool
 aq:Option Addr
 an:Nat
 ac:Nat
 cq:Option Addr
 cn:Nat
 cc:Nat
 m:ByteArray
 sq:Option Addr
 sn:Nat
 sc:Nat
def Nd.val (d:Nd):Value:=.agg #[.int .i64 d.k,.int .i64 d.f,.bool d.neg,.slice d.aq d.an d.ac,.slice d.cq d.cn d.cc,.string d.m,.slice d.sq d.sn d.sc]
structure NdAt (w:World) (b o:Nat) (d:Nd):Prop where
 h0:w.cell? ⟨b,o,none⟩=some (.int .i64 d.k)
 h1:w.cell? ⟨b,o+1,none⟩=some (.int .i64 d.f)
 h2:w.cell? ⟨b,o+2,none⟩=some (.bool d.neg)
 h3:w.cell? ⟨b,o+3,none⟩=some (.slice d.aq d.an d.ac)
 h4:w.cell? ⟨b,o+4,none⟩=some (.slice d.cq d.cn d.cc)
 h5:w.cell? ⟨b,o+5,none⟩=some (.string d.m)
 h6:w.cell? ⟨b,o+6,none⟩=some (.slice d.sq d.sn d.sc)
theorem NdAt.below {w w':World} {B b o:Nat} {d:Nd} (h:NdAt w b o d) (hb:Below B w w') (hB:b<B):NdAt w' b o d:=
 ⟨(hb.cell (by exact hB)).trans h.h0,(hb.cell (by exact hB)).trans h.h1,(hb.cell (by exact hB)).trans h.h2,(hb.cell (by exact hB)).trans h.h3,(hb.cell (by exact hB)).trans h.h4,(hb.cell (by exact hB)).trans h.h5,(hb.cell (by exact hB)).trans h.h6⟩
inductive Ex where
 | non
 | mk (k f:Int) (ng:Bool) (nu de:List Int) (m:ByteArray) (n:Nat) (ar:Nat->Ex)
def Ex.eq:Ex->Ex->Bool
 | .mk k f ng nu de m n ar,.mk k' f' ng' nu' de' m' n' ar'=>
  decide (k=k')&&decide (f=f')&&decide (m.toList=m'.toList)&&ratEq ng nu de ng' nu' de'&&(decide (n=n')&&(List.range n).all fun i=>(ar i).eq (ar' i))
 | .non,.non=>true
 | _,_=>false
def ExOk (w:World):Ex->Nd->Prop
 | .non,_=>False
 | .mk k f ng nu de m n ar,d=>(d.k=k/\d.f=f/\d.neg=ng/\d.m=m/\d.sn=n)/\Sl w (.slice d.aq d.an d.ac) nu/\Sl w (.slice d.cq d.cn d.cc) de/\nu.length<=1048576/\de.length<=1048576/\n<=1099511627776/\
  (n=0\/∃b o,d.sq=some ⟨b,o,none⟩/\b<w.heap.size/\∃ds:Nat->Nd,∀i,i<n->NdAt w b (o+i*7) (ds i)/\ExOk w (ar i) (ds i))
theorem ExOk.below {w w':World} (hb:Below w.heap.size w w'):∀{x:Ex} {d:Nd},ExOk w x d->ExOk w' x d:=by
 intro x
 induction x with
 | non=>exact fun h=>h.elim
 | mk k f ng nu de m n ar ih=>
  intro d h
  unfold ExOk at h ⊢
  obtain⟨h1,h2,h3,h4,h5,h6,h7⟩:=h
  refine⟨h1,h2.below hb,h3.below hb,h4,h5,h6,h7.imp id ?_⟩
  rintro⟨b,o,e,hlt,ds,hds⟩
  exact⟨b,o,e,Nat.lt_of_lt_of_le hlt hb.size,ds,fun i hi=>⟨(hds i hi).1.below hb hlt,ih i (hds i hi).2⟩⟩
structure Va where
 m:ByteArray
 g:Bool
 aq:Option Addr
 an:Nat
 ac:Nat
 cq:Option Addr
 cn:Nat
 cc:Nat
def Va.val (d:Va):Value:=.agg #[.string d.m,.bool d.g,.slice d.aq d.an d.ac,.slice d.cq d.cn d.cc]
structure VaAt (w:World) (b o:Nat) (d:Va):Prop where
 h0:w.cell? ⟨b,o,none⟩=some (.string d.m)
 h1:w.cell? ⟨b,o+1,none⟩=some (.bool d.g)
 h2:w.cell? ⟨b,o+2,none⟩=some (.slice d.aq d.an d.ac)
 h3:w.cell? ⟨b,o+3,none⟩=some (.slice d.cq d.cn d.cc)
theorem VaAt.below {w w':World} {B b o:Nat} {d:Va} (h:VaAt w b o d) (hb:Below B w w') (hB:b<B):VaAt w' b o d:=
 ⟨(hb.cell (by exact hB)).trans h.h0,(hb.cell (by exact hB)).trans h.h1,(hb.cell (by exact hB)).trans h.h2,(hb.cell (by exact hB)).trans h.h3⟩
structure Bi where
 m:ByteArray
 ek:Int
 ef:Int
 eg:Bool
 eaq:Option Addr
 ean:Nat
 eac:Nat
 ecq:Option Addr
 ecn:Nat
 ecc:Nat
 em:ByteArray
 esq:Option Addr
 esn:Nat
 esc:Nat
def Bi.val (d:Bi):Value:=.agg #[.string d.m,.int .i64 d.ek,.int .i64 d.ef,.bool d.eg,.slice d.eaq d.ean d.eac,.slice d.ecq d.ecn d.ecc,.string d.em,.slice d.esq d.esn d.esc]
structure BiAt (w:World) (b o:Nat) (d:Bi):Prop where
 h0:w.cell? ⟨b,o,none⟩=some (.string d.m)
 h1:w.cell? ⟨b,o+1,none⟩=some (.int .i64 d.ek)
 h2:w.cell? ⟨b,o+2,none⟩=some (.int .i64 d.ef)
 h3:w.cell? ⟨b,o+3,none⟩=some (.bool d.eg)
 h4:w.cell? ⟨b,o+4,none⟩=some (.slice d.eaq d.ean d.eac)
 h5:w.cell? ⟨b,o+5,none⟩=some (.slice d.ecq d.ecn d.ecc)
 h6:w.cell? ⟨b,o+6,none⟩=some (.string d.em)
 h7:w.cell? ⟨b,o+7,none⟩=some (.slice d.esq d.esn d.esc)
theorem BiAt.below {w w':World} {B b o:Nat} {d:Bi} (h:BiAt w b o d) (hb:Below B w w') (hB:b<B):BiAt w' b o d:=
 ⟨(hb.cell (by exact hB)).trans h.h0,(hb.cell (by exact hB)).trans h.h1,(hb.cell (by exact hB)).trans h.h2,(hb.cell (by exact hB)).trans h.h3,(hb.cell (by exact hB)).trans h.h4,(hb.cell (by exact hB)).trans h.h5,(hb.cell (by exact hB)).trans h.h6,(hb.cell (by exact hB)).trans h.h7⟩
structure Pt where
 m:ByteArray
 g:Bool
 nu:List Int
 de:List Int
def Pt.eq (p p':Pt):Bool:=decide (p.m.toList=p'.m.toList)&&ratEq p.g p.nu p.de p'.g p'.nu p'.de
def PtOk (w:World) (p:Pt) (d:Va):Prop:=
 d.m=p.m/\d.g=p.g/\Sl w (.slice d.aq d.an d.ac) p.nu/\Sl w (.slice d.cq d.cn d.cc) p.de/\p.nu.length<=1048576/\p.de.length<=1048576
theorem PtOk.below {w w':World} (hb:Below w.heap.size w w') {p:Pt} {d:Va} (h:PtOk w p d):PtOk w' p d:=
 ⟨h.1,h.2.1,h.2.2.1.below hb,h.2.2.2.1.below hb,h.2.2.2.2⟩
structure Bd where
 m:ByteArray
 x:Ex
def Bd.eq (p p':Bd):Bool:=decide (p.m.toList=p'.m.toList)&&p.x.eq p'.x
def Bi.nd (d:Bi):Nd:=⟨d.ek,d.ef,d.eg,d.eaq,d.ean,d.eac,d.ecq,d.ecn,d.ecc,d.em,d.esq,d.esn,d.esc⟩
def BdOk (w:World) (p:Bd) (d:Bi):Prop:=d.m=p.m/\ExOk w p.x d.nd
theorem BdOk.below {w w':World} (hb:Below w.heap.size w w') {p:Bd} {d:Bi} (h:BdOk w p d):BdOk w' p d:=⟨h.1,h.2.below hb⟩
def PtsOk (w:World) (q:Option Addr) (n:Nat) (ps:Nat->Pt):Prop:=
 n<=1099511627776/\(n=0\/∃b o,q=some ⟨b,o,none⟩/\b<w.heap.size/\∃ds:Nat->Va,∀i,i<n->VaAt w b (o+i*4) (ds i)/\PtOk w (ps i) (ds i))
theorem PtsOk.below {w w':World} (hb:Below w.heap.size w w') {q:Option Addr} {n:Nat} {ps:Nat->Pt} (h:PtsOk w q n ps):PtsOk w' q n ps:=by
 refine⟨h.1,h.2.imp id ?_⟩
 rintro⟨b,o,e,hlt,ds,hds⟩
 exact⟨b,o,e,Nat.lt_of_lt_of_le hlt hb.size,ds,fun i hi=>⟨(hds i hi).1.below hb hlt,(hds i hi).2.below hb⟩⟩
def PtsEq (n:Nat) (ps:Nat->Pt) (n':Nat) (ps':Nat->Pt):Bool:=decide (n=n')&&(List.range n).all fun i=>(ps i).eq (ps' i)
def BdsOk (w:World) (q:Option Addr) (n:Nat) (ps:Nat->Bd):Prop:=
 n<=1099511627776/\(n=0\/∃b o,q=some ⟨b,o,none⟩/\b<w.heap.size/\∃ds:Nat->Bi,∀i,i<n->BiAt w b (o+i*8) (ds i)/\BdOk w (ps i) (ds i))
theorem BdsOk.below {w w':World} (hb:Below w.heap.size w w') {q:Option Addr} {n:Nat} {ps:Nat->Bd} (h:BdsOk w q n ps):BdsOk w' q n ps:=by
 refine⟨h.1,h.2.imp id ?_⟩
 rintro⟨b,o,e,hlt,ds,hds⟩
 exact⟨b,o,e,Nat.lt_of_lt_of_le hlt hb.size,ds,fun i hi=>⟨(hds i hi).1.below hb hlt,(hds i hi).2.below hb⟩⟩
def BdsEq (n:Nat) (ps:Nat->Bd) (n':Nat) (ps':Nat->Bd):Bool:=decide (n=n')&&(List.range n).all fun i=>(ps i).eq (ps' i)
theorem zay:∃d,Tryz.prog.underlying 32=some d/\d.isRow=true:=by
 have h:(Tryz.prog.underlying 32).map TypeDesc.isRow=some true:=by kernel_rfl
 cases hd:Tryz.prog.underlying 32 with
 | none=>rw[hd] at h;cases h
 | some d=>rw[hd] at h;exact⟨d,rfl,by simpa using h⟩
theorem zcd:(Tryz.prog.info? 32).map (·.size)=some 21:=by kernel_rfl
theorem zac {w w':World} {B b o:Nat} {cs:List Value} (h:w.rangeAt b o cs) (hb:Below B w w') (hB:b<B):w'.rangeAt b o cs:=
 fun j v hv=>(hb.cell (by exact hB)).trans (h j v hv)
theorem zek {P:Program} {ops:Array Oper} {rest:List Oper} {op:Oper} {a:Act} {w0:World} {Q:Exit->Act->World->Prop} {c:Array Value} (hgd:op.guard=none) (ty:TypeId) (x y:Operand) (ho:op.op=.store ty x y)
  (cells:Array Value) (H:Nat) (hH:w0.heap.size=H) (hx:a.eval x=.pointer (some ⟨H,0,none⟩)) (hy:a.eval y=.agg cells)
  (hc:c.size=cells.size) (hi:(P.info? ty).map (·.size)=some cells.size) (h1:cells.all (·.oneCell')=true)
  (h:wpList P ops Q rest (a.put op.dst undef) (w0.alloc (.cells cells ty))):wpList P ops Q (op::rest) a (w0.alloc (.cells c ty)):=
 wpList_plain hgd fun _ hK=>by
  subst hH
  unfold Oper.wp execOp
  simp only[ho,hx,hy,Instr.storeAt,Instr.sureAddr,Sem.run_bind,Sem.run_pure,Result.andThen_ok,run_storeVar_new w0 ty c cells hi hc h1]
  exact hK _ _ h
theorem zah (w:World) (cs:List Value) (t:TypeId):(w.alloc (.cells cs.toArray t)).rangeAt w.heap.size 0 cs:=by
 have h:=World.rangeAt_of_block (heap_alloc_last w (.cells cs.toArray t)) 0 cs.length
 simpa using h
theorem ldm {ops:Array Oper} {rest:List Oper} {op:Oper} {a:Act} {w:World} {Q:Exit->Act->World->Prop} (s b o:Nat) (cs:List Value) (hc:w.rangeAt b o cs) (hl:cs.length=21) (h:wpList Tryz.prog ops Q rest (a.put op.dst (.agg cs.toArray)) w) (ho:op.op=.load 32 (.tmp s):=by with_reducible rfl) (hx:a.eval (.tmp s)=.pointer (some ⟨b,o,none⟩):=by kernel_rfl) (hg:op.guard=none:=by kernel_rfl):wpList Tryz.prog ops Q (op::rest) a w:=by
 obtain⟨d,hu,hd⟩:=zay
 exact wpList_load_mid hg 32 (.tmp s) ho b o hx cs d hc hu hd (by rw[hl];exact zcd) h
theorem stn {ops:Array Oper} {rest:List Oper} {op:Oper} {a:Act} {w:World} {Q:Exit->Act->World->Prop} {c:Array Value} (x y:Nat) (cs:List Value) (hl:cs.length=21) (h1:cs.toArray.all (·.oneCell')=true) (h:wpList Tryz.prog ops Q rest (a.put op.dst undef) (w.alloc (.cells cs.toArray 32))) (ho:op.op=.store 32 (.tmp x) (.tmp y):=by with_reducible rfl) (hx:a.eval (.tmp x)=.pointer (some ⟨w.heap.size,0,none⟩):=by kernel_rfl) (hy:a.eval (.tmp y)=.agg cs.toArray:=by kernel_rfl) (hc:c.size=21:=by kernel_rfl) (hg:op.guard=none:=by kernel_rfl):wpList Tryz.prog ops Q (op::rest) a (w.alloc (.cells c 32)):=
 zek hg 32 (.tmp x) (.tmp y) ho cs.toArray w.heap.size rfl hx hy (by simp[hl,hc]) (by simp only[List.size_toArray,hl];exact zcd) h1 h
structure Sc where
 ru:Int
 nm:ByteArray
 ot:ByteArray
 g:Bool
 kk:Int
 nn:Int
 pr:Int
 en:ByteArray
 ve:Int
structure Sd where
 s:Sc
 aq:Option Addr
 an:Nat
 ac:Nat
 cq:Option Addr
 cn:Nat
 cc:Nat
 e:Nd
 poq:Option Addr
 pon:Nat
 poc:Nat
 arq:Option Addr
 arn:Nat
 arc:Nat
 kiq:Option Addr
 kin:Nat
 kic:Nat
def Sd.cells (d:Sd):List Value:=[.int .i64 d.s.ru,.string d.s.nm,.string d.s.ot,.bool d.s.g,.slice d.aq d.an d.ac,.slice d.cq d.cn d.cc,.int .i64 d.s.kk,.int .i64 d.s.nn,.int .i64 d.s.pr,
 .int .i64 d.e.k,.int .i64 d.e.f,.bool d.e.neg,.slice d.e.aq d.e.an d.e.ac,.slice d.e.cq d.e.cn d.e.cc,.string d.e.m,.slice d.e.sq d.e.sn d.e.sc,
 .slice d.poq d.pon d.poc,.string d.s.en,.int .i64 d.s.ve,.slice d.arq d.arn d.arc,.slice d.kiq d.kin d.kic]
abbrev sV (d:Sd):Array Value:=#[.int .i64 d.s.ru,.string d.s.nm,.string d.s.ot,.bool d.s.g,.slice d.aq d.an d.ac,.slice d.cq d.cn d.cc,.int .i64 d.s.kk,.int .i64 d.s.nn,.int .i64 d.s.pr,.int .i64 d.e.k,.int .i64 d.e.f,.bool d.e.neg,.slice d.e.aq d.e.an d.e.ac,.slice d.e.cq d.e.cn d.e.cc,.string d.e.m,.slice d.e.sq d.e.sn d.e.sc,.slice d.poq d.pon d.poc,.string d.s.en,.int .i64 d.s.ve,.slice d.arq d.arn d.arc,.slice d.kiq d.kin d.kic]
def Sd.val (d:Sd):Value:=.agg d.cells.toArray
abbrev sW (d:Sd) (pq rq:Option Addr):Array Value:=#[.int .i64 d.s.ru,.string d.s.nm,.string d.s.ot,.bool d.s.g,.slice d.aq d.an d.ac,.slice d.cq d.cn d.cc,.int .i64 d.s.kk,.int .i64 d.s.nn,.int .i64 d.s.pr,.int .i64 d.e.k,.int .i64 d.e.f,.bool d.e.neg,.slice d.e.aq d.e.an d.e.ac,.slice d.e.cq d.e.cn d.e.cc,.string d.e.m,.slice d.e.sq d.e.sn d.e.sc,.slice pq d.pon d.poc,.string d.s.en,.int .i64 d.s.ve,.slice rq d.arn d.arc,.slice d.kiq d.kin d.kic]
theorem Sd.len (d:Sd):d.cells.length=21:=rfl
theorem Sd.one (d:Sd):d.cells.toArray.all (·.oneCell')=true:=by
 refine all_oneCell_toArray ?_
 intro v hv
 simp only[Sd.cells,List.mem_cons,List.not_mem_nil,or_false] at hv
 rcases hv with rfl | rfl | rfl | rfl | rfl | rfl | rfl | rfl | rfl | rfl | rfl | rfl | rfl | rfl | rfl | rfl | rfl | rfl | rfl | rfl | rfl<;>rfl
inductive St where
 | non
 | mk (s:Sc) (nu de:List Int) (x:Ex) (pn:Nat) (ps:Nat->Pt) (bn:Nat) (bs:Nat->Bd) (n:Nat) (ki:Nat->St)
def Sc.eq (s t:Sc):Bool:=(decide (s.ru=t.ru)&&decide (s.nm.toList=t.nm.toList)&&decide (s.ot.toList=t.ot.toList)&&decide (s.en.toList=t.en.toList)&&decide (s.ve=t.ve))&&(decide (s.kk=t.kk)&&decide (s.nn=t.nn)&&decide (s.pr=t.pr))
def St.eq:St->St->Bool
 | .mk s nu de x pn ps bn bs n ki,.mk s' nu' de' x' pn' ps' bn' bs' n' ki'=>
  s.eq s'&&(ratEq s.g nu de s'.g nu' de'&&(x.eq x'&&(PtsEq pn ps pn' ps'&&(BdsEq bn bs bn' bs'&&(decide (n=n')&&(List.range n).all fun i=>(ki i).eq (ki' i))))))
 | .non,.non=>true
 | _,_=>false
def StOk (w:World):St->Sd->Prop
 | .non,_=>False
 | .mk s nu de x pn ps bn bs n ki,d=>(d.s=s/\d.pon=pn/\d.arn=bn/\d.kin=n)/\Sl w (.slice d.aq d.an d.ac) nu/\Sl w (.slice d.cq d.cn d.cc) de/\nu.length<=1048576/\de.length<=1048576/\
  ExOk w x d.e/\PtsOk w d.poq pn ps/\BdsOk w d.arq bn bs/\n<=1099511627776/\
  (n=0\/∃b o,d.kiq=some ⟨b,o,none⟩/\b<w.heap.size/\∃ds:Nat->Sd,∀i,i<n->w.rangeAt b (o+i*21) (ds i).cells/\StOk w (ki i) (ds i))
theorem StOk.below {w w':World} (hb:Below w.heap.size w w'):∀{x:St} {d:Sd},StOk w x d->StOk w' x d:=by
 intro x
 induction x with
 | non=>exact fun h=>h.elim
 | mk s nu de x pn ps bn bs n ki ih=>
  intro d h
  unfold StOk at h ⊢
  obtain⟨h1,h2,h3,h4,h5,h6,h7,h8,h9,h10⟩:=h
  refine⟨h1,h2.below hb,h3.below hb,h4,h5,h6.below hb,h7.below hb,h8.below hb,h9,h10.imp id ?_⟩
  rintro⟨b,o,e,hlt,ds,hds⟩
  exact⟨b,o,e,Nat.lt_of_lt_of_le hlt hb.size,ds,fun i hi=>⟨zac (hds i hi).1 hb hlt,ih i (hds i hi).2⟩⟩
structure Bk {H:Type} (B:DataW H->Nat):Prop where
 el:∀es rest e,e∈es->B e<=B (.slice es rest)
 len:∀es rest,es.length<=B (.slice es rest)
 ag:∀ps p,p∈ps->B p<=B (.agg ps)
theorem pick {α:Type} [Inhabited α] {n:Nat} {p:Nat->α->Prop} (h:∀i,i<n->∃x,p i x):∃f:Nat->α,∀i,i<n->p i (f i):=
 ⟨fun i=>if hi:i<n then(h i hi).choose else default,fun i hi=>by dsimp only;rw[dif_pos hi];exact(h i hi).choose_spec⟩
section
variable {H:Type} {enc:TypeId × Value->H} {w:World} {spare:Nat->Bool} {held:Bool}
theorem zc1 {a:Addr} {n:Nat} {cs:List Value} (h:w.cells? 0 a n=some cs) (hn:0<n):a=⟨a.block,a.off,none⟩/\a.block<w.heap.size/\cs.length=n/\w.rangeAt a.block a.off cs:=by
 obtain⟨_,hl,hc⟩:=World.cells?_some h
 have h0:=hc 0 hn
 have hv:∃v,w.cell? a=some v:=by
  rw[show a.add 0=a from rfl] at h0
  rw[h0]
  exact⟨cs[0]'(by omega),by rw[List.getElem?_eq_getElem]⟩
 obtain⟨v,hv⟩:=hv
 have hspot:a.spot=none:=by
  unfold World.cell? at hv
  split at hv
  ·cases hs:a.spot with
   | none=>rfl
   | some s=>simp[hs] at hv
  ·cases hv
 refine⟨?_,World.block_lt_of_cell? w _ hv,hl,fun j u hu=>?_⟩
 ·cases a;simp_all
 ·have hj:j<n:=by
   rw[<-hl]
   rw[List.getElem?_eq_some_iff] at hu
   exact hu.1
  have:=hc j hj
  rw[hu] at this
  rw[<-this]
  congr 1
  unfold Addr.add
  split
  ·rename_i hj0
   subst hj0
   cases a;simp_all
  ·rfl
theorem zb4 {t e:TypeId} {sz fuel:Nat} {cs:List Value} {x:DataW H × List MemPlace} (ht:Tryz.prog.underlying t=some (.slice e)) (hsz:Tryz.prog.cellsOf e=sz) (h0:0<sz)
  (h:DataW.trod enc Tryz.prog w 0 spare held fuel t cs=some x):∃q n c,cs=[.slice q n c]/\n<=c/\(∀B:DataW H->Nat,Bk B->n<=B x.1)/\
    (n=0\/∃b o,q=some ⟨b,o,none⟩/\b<w.heap.size/\∀i,i<n->∃ces y m,m<fuel/\w.rangeAt b (o+i*sz) ces/\ces.length=sz/\DataW.trod enc Tryz.prog w 0 spare held m e ces=some y/\∀B:DataW H->Nat,Bk B->B y.1<=B x.1):=by
 rcases DataW.trod_slice ht h with⟨rfl,rfl⟩ | ⟨a,len,cap,elems,rest,n,rfl,rfl,rfl,_,hlc,_,hel,aW,_,_⟩
 ·exact⟨none,0,0,rfl,Nat.le_refl _,fun B _=>Nat.zero_le _,.inl rfl⟩
 ·refine⟨some a,len,cap,rfl,hlc,fun B hB=>by have:=hB.len (elems.map (·.1)) (rest.map (·.1));simpa [hel] using this,?_⟩
  by_cases hz:len=0
  ·exact .inl hz
  ·refine .inr ?_
   have hfst:=aW 0 (by omega)
   have bG:∀i,i<len->∃ces y,w.cells? 0 (a.add (i*sz)) sz=some ces/\DataW.trod enc Tryz.prog w 0 spare held n e ces=some y/\elems[i]?=some y:=by
    intro i hi
    have hg:=aW i hi
    rw[hsz] at hg
    have hi':i<elems.length:=by omega
    rw[List.getElem?_eq_getElem hi',Option.bind_eq_some_iff] at hg
    obtain⟨ces,h1,h2⟩:=hg
    exact⟨ces,_,h1,h2,List.getElem?_eq_getElem hi'⟩
   obtain⟨c0,y0,k0,_,_⟩:=bG 0 (by omega)
   rw[Nat.zero_mul,show a.add 0=a from rfl] at k0
   obtain⟨ha,hb,_,_⟩:=zc1 k0 h0
   refine⟨a.block,a.off,by rw[<-ha],hb,fun i hi=>?_⟩
   obtain⟨ces,y,k1,k2,k3⟩:=bG i hi
   obtain⟨_,_,hl,hr⟩:=zc1 k1 h0
   have e1:(a.add (i*sz)).block=a.block:=by unfold Addr.add;split<;>rfl
   have e2:(a.add (i*sz)).off=a.off+i*sz:=by
    unfold Addr.add
    split
    ·rename_i hz0
     rw[hz0];rfl
    ·rfl
   rw[e1,e2] at hr
   refine⟨ces,y,n,Nat.lt_succ_self n,hr,hl,k2,fun B hB=>hB.el _ _ _ ?_⟩
   exact List.mem_map_of_mem (List.mem_of_getElem? k3)
theorem c96:Tryz.prog.cellsOf 150=1:=by kernel_rfl
theorem c22:Tryz.prog.cellsOf 22=1:=by kernel_rfl
theorem c3:Tryz.prog.cellsOf 3=1:=by kernel_rfl
theorem c4:Tryz.prog.cellsOf 4=1:=by kernel_rfl
theorem c9:Tryz.prog.cellsOf 9=1:=by kernel_rfl
theorem c24:Tryz.prog.cellsOf 24=3:=by kernel_rfl
theorem c25:Tryz.prog.cellsOf 25=1:=by kernel_rfl
theorem c27:Tryz.prog.cellsOf 27=7:=by kernel_rfl
theorem c28:Tryz.prog.cellsOf 28=1:=by kernel_rfl
theorem c29:Tryz.prog.cellsOf 29=1:=by kernel_rfl
theorem c30:Tryz.prog.cellsOf 30=1:=by kernel_rfl
theorem c32:Tryz.prog.cellsOf 32=21:=by kernel_rfl
theorem c62:Tryz.prog.cellsOf 68=4:=by kernel_rfl
theorem c65:Tryz.prog.cellsOf 71=8:=by kernel_rfl
theorem zfp {fuel:Nat} {cs:List Value} {x:DataW H × List MemPlace} {B:DataW H->Nat} (hB:Bk B) (hx:B x.1<=1048576) (h:DataW.trod enc Tryz.prog w 0 spare held fuel 22 cs=some x):
  ∃q n c xs,cs=[.slice q n c]/\Sl w (.slice q n c) xs/\xs.length<=1048576:=by
 obtain⟨q,n,c,rfl,hnc,hb,hel⟩:=zb4 Tryz.underlying22 c96 (by decide) h
 have hn:=hb B hB
 rcases hel with rfl | ⟨b,o,rfl,hlt,hel⟩
 ·exact⟨q,0,c,[],rfl,⟨fun j=>by simp,by simp,q,c,rfl,by simp,.inl rfl⟩,by simp⟩
 ·have hp:∀i,i<n->∃z:Int,w.cell? ⟨b,o+i,none⟩=some (.int .u32 z)/\0<=z/\z<=4294967295:=by
   intro i hi
   obtain⟨ces,y,m,_,hr,hl,ht,_⟩:=hel i hi
   obtain⟨z,rfl,_,hw⟩:=DataW.trod_int Tryz.underlying150 ht
   have:=hr 0 _ rfl
   simp only[Lit.wf,Bool.and_eq_true,decide_eq_true_eq] at hw
   refine⟨z,by simpa using this,?_⟩
   exact hw
  obtain⟨f,hf⟩:=pick hp
  have ae:((List.range n).map f).length=n:=by simp
  have aW:∀i,i<n->((List.range n).map f).getD i 0=f i:=by
   intro i hi
   simp[List.getD,hi]
  refine⟨some ⟨b,o,none⟩,n,c,(List.range n).map f,rfl,⟨fun j=>?_,by rw[ae];omega,some ⟨b,o,none⟩,c,by rw[ae],by rw[ae];exact hnc,.inr ⟨b,o,rfl,hlt,fun i hi=>?_⟩⟩,by rw[ae];omega⟩
  ·by_cases hj:j<n
   ·rw[aW j hj]
    exact⟨(hf j hj).2.1,(hf j hj).2.2⟩
   ·rw[List.getD,List.getElem?_eq_none (by rw[ae];omega)]
    decide
  ·rw[ae] at hi
   rw[aW i hi]
   exact(hf i hi).1
end
instance:Inhabited Ex:=⟨.non⟩
instance:Inhabited Nd:=⟨⟨0,0,false,none,0,0,none,0,0,⟨#[]⟩,none,0,0⟩⟩
instance:Inhabited Pt:=⟨⟨⟨#[]⟩,false,[],[]⟩⟩
instance:Inhabited Va:=⟨⟨⟨#[]⟩,false,none,0,0,none,0,0⟩⟩
instance:Inhabited Bd:=⟨⟨⟨#[]⟩,.non⟩⟩
instance:Inhabited Bi:=⟨⟨⟨#[]⟩,0,0,false,none,0,0,none,0,0,⟨#[]⟩,none,0,0⟩⟩
instance:Inhabited St:=⟨.non⟩
instance:Inhabited Sd:=⟨⟨⟨0,⟨#[]⟩,⟨#[]⟩,false,0,0,0,⟨#[]⟩,0⟩,none,0,0,none,0,0,default,none,0,0,none,0,0,none,0,0⟩⟩
theorem zad {α:Type} {n:Nat}:∀{l:List α},l.length=n+1->∃a t,l=a::t/\t.length=n
 | [],h=>by simp at h
 | a::t,h=>⟨a,t,rfl,by simpa using h⟩
section
variable {H:Type} {enc:TypeId × Value->H} {w:World} {spare:Nat->Bool} {held:Bool} {B:DataW H->Nat}
theorem zf4 (hB:Bk B) {fuel:Nat} {cs:List Value} {x:DataW H × List MemPlace} (hx:B x.1<=1048576) (h:DataW.trod enc Tryz.prog w 0 spare held fuel 24 cs=some x):
  ∃g q n c q' n' c' nu de,cs=[.bool g,.slice q n c,.slice q' n' c']/\Sl w (.slice q n c) nu/\Sl w (.slice q' n' c') de/\nu.length<=1048576/\de.length<=1048576:=by
 obtain⟨xs,n,_,rfl,hl,hxl,hf⟩:=DataW.trod_struct Tryz.underlying24 h
 rw[c24] at hl
 have cG:xs.length=3:=hxl
 clear hxl
 obtain⟨a0,cs0r,rfl,hl0⟩:=zad (n:=2) hl
 obtain⟨a1,cs1r,rfl,hl1⟩:=zad (n:=1) hl0
 obtain⟨a2,cs2r,rfl,hl2⟩:=zad (n:=0) hl1
 obtain rfl:=List.length_eq_zero_iff.1 hl2
 obtain⟨y0,xs0r,rfl,bI⟩:=zad (n:=2) cG
 obtain⟨y1,xs1r,rfl,bJ⟩:=zad (n:=1) bI
 obtain⟨y2,xs2r,rfl,cP⟩:=zad (n:=0) bJ
 obtain rfl:=List.length_eq_zero_iff.1 cP
 have h0:DataW.trod enc Tryz.prog w 0 spare held n 4 [a0]=some y0:=by have:=hf 0 _ rfl;simpa [c4] using this
 have h1:DataW.trod enc Tryz.prog w 0 spare held n 22 [a1]=some y1:=by have:=hf 1 _ rfl;simpa [c22] using this
 have h2:DataW.trod enc Tryz.prog w 0 spare held n 22 [a2]=some y2:=by have:=hf 2 _ rfl;simpa [c22] using this
 have b1:B y1.1<=1048576:=Nat.le_trans (hB.ag _ _ (by simp)) hx
 have b2:B y2.1<=1048576:=Nat.le_trans (hB.ag _ _ (by simp)) hx
 obtain⟨g,e0,_⟩:=DataW.trod_bool Tryz.underlying4 h0
 obtain⟨q,m,c,nu,e1,s1,l1⟩:=zfp hB b1 h1
 obtain⟨q',m',c',de,e2,s2,l2⟩:=zfp hB b2 h2
 simp only[List.cons.injEq,and_true] at e0 e1 e2
 subst e0 e1 e2
 exact⟨g,q,m,c,q',m',c',nu,de,rfl,s1,s2,l1,l2⟩
theorem zgw (hB:Bk B):∀(fuel:Nat) (cs:List Value) (x:DataW H × List MemPlace),B x.1<=1048576->DataW.trod enc Tryz.prog w 0 spare held fuel 27 cs=some x->
  ∃(X:Ex) (d:Nd),cs=[.int .i64 d.k,.int .i64 d.f,.bool d.neg,.slice d.aq d.an d.ac,.slice d.cq d.cn d.cc,.string d.m,.slice d.sq d.sn d.sc]/\ExOk w X d:=by
 intro fuel
 induction fuel using Nat.strongRecOn with
 | _ fuel ih=>
 intro cs x hx h
 obtain⟨xs,n,hn,rfl,hl,hxl,hf⟩:=DataW.trod_struct Tryz.underlying27 h
 rw[c27] at hl
 have cG:xs.length=5:=hxl
 clear hxl
 obtain⟨a0,cs0r,rfl,hl0⟩:=zad (n:=6) hl
 obtain⟨a1,cs1r,rfl,hl1⟩:=zad (n:=5) hl0
 obtain⟨a2,cs2r,rfl,hl2⟩:=zad (n:=4) hl1
 obtain⟨a3,cs3r,rfl,hl3⟩:=zad (n:=3) hl2
 obtain⟨a4,cs4r,rfl,hl4⟩:=zad (n:=2) hl3
 obtain⟨a5,cs5r,rfl,hl5⟩:=zad (n:=1) hl4
 obtain⟨a6,cs6r,rfl,hl6⟩:=zad (n:=0) hl5
 obtain rfl:=List.length_eq_zero_iff.1 hl6
 obtain⟨y0,xs0r,rfl,bI⟩:=zad (n:=4) cG
 obtain⟨y1,xs1r,rfl,bJ⟩:=zad (n:=3) bI
 obtain⟨y2,xs2r,rfl,cP⟩:=zad (n:=2) bJ
 obtain⟨y3,xs3r,rfl,dM⟩:=zad (n:=1) cP
 obtain⟨y4,xs4r,rfl,dN⟩:=zad (n:=0) dM
 obtain rfl:=List.length_eq_zero_iff.1 dN
 have h0:DataW.trod enc Tryz.prog w 0 spare held n 3 [a0]=some y0:=by have:=hf 0 _ rfl;simpa [c3] using this
 have h1:DataW.trod enc Tryz.prog w 0 spare held n 3 [a1]=some y1:=by have:=hf 1 _ rfl;simpa [c3] using this
 have h2:DataW.trod enc Tryz.prog w 0 spare held n 24 [a2,a3,a4]=some y2:=by have:=hf 2 _ rfl;simpa [c24] using this
 have h3:DataW.trod enc Tryz.prog w 0 spare held n 9 [a5]=some y3:=by have:=hf 3 _ rfl;simpa [c9] using this
 have h4:DataW.trod enc Tryz.prog w 0 spare held n 25 [a6]=some y4:=by have:=hf 4 _ rfl;simpa [c25] using this
 have b2:B y2.1<=1048576:=Nat.le_trans (hB.ag _ _ (by simp)) hx
 have b4:B y4.1<=1048576:=Nat.le_trans (hB.ag _ _ (by simp)) hx
 obtain⟨k,e0,_⟩:=DataW.trod_int Tryz.underlying3 h0
 obtain⟨f,e1,_⟩:=DataW.trod_int Tryz.underlying3 h1
 obtain⟨g,q,m,c,q',m',c',nu,de,e2,s1,s2,l1,l2⟩:=zf4 hB b2 h2
 obtain⟨s,e3,_⟩:=DataW.trod_string Tryz.underlying9 h3
 obtain⟨sq,sn,sc,e4,_,hbn,hel⟩:=zb4 Tryz.underlying25 c27 (by decide) h4
 simp only[List.cons.injEq,and_true] at e0 e1 e2 e3 e4
 obtain⟨e2,e5,e6⟩:=e2
 subst e0 e1 e2 e3 e4 e5 e6
 have hsn:sn<=1048576:=Nat.le_trans (hbn B hB) b4
 rcases hel with rfl | ⟨b,o,rfl,hlt,hel⟩
 ·exact⟨.mk k f g nu de s 0 (fun _=>.non),⟨k,f,g,q,m,c,q',m',c',s,sq,0,sc⟩,rfl,⟨rfl,rfl,rfl,rfl,rfl⟩,s1,s2,l1,l2,by omega,.inl rfl⟩
 ·have hp:∀i,i<sn->∃p:Ex × Nd,NdAt w b (o+i*7) p.2/\ExOk w p.1 p.2:=by
   intro i hi
   obtain⟨ces,y,m1,hm1,hr,_,ht,hby⟩:=hel i hi
   obtain⟨X,d,rfl,hok⟩:=ih m1 (by omega) ces y (Nat.le_trans (hby B hB) b4) ht
   exact⟨(X,d),⟨hr 0 _ rfl,hr 1 _ rfl,hr 2 _ rfl,hr 3 _ rfl,hr 4 _ rfl,hr 5 _ rfl,hr 6 _ rfl⟩,hok⟩
  obtain⟨F,hF⟩:=pick hp
  exact⟨.mk k f g nu de s sn (fun i=>(F i).1),⟨k,f,g,q,m,c,q',m',c',s,some ⟨b,o,none⟩,sn,sc⟩,rfl,⟨rfl,rfl,rfl,rfl,rfl⟩,s1,s2,l1,l2,by omega,.inr ⟨b,o,rfl,hlt,fun i=>(F i).2,fun i hi=>hF i hi⟩⟩
theorem zhy (hB:Bk B) {fuel:Nat} {cs:List Value} {x:DataW H × List MemPlace} (hx:B x.1<=1048576) (h:DataW.trod enc Tryz.prog w 0 spare held fuel 28 cs=some x):
  ∃q n c ps,cs=[.slice q n c]/\PtsOk w q n ps:=by
 obtain⟨q,n,c,rfl,_,hbn,hel⟩:=zb4 Tryz.underlying28 c62 (by decide) h
 have hn:n<=1048576:=Nat.le_trans (hbn B hB) hx
 rcases hel with rfl | ⟨b,o,rfl,hlt,hel⟩
 ·exact⟨q,0,c,default,rfl,by omega,.inl rfl⟩
 ·have hp:∀i,i<n->∃p:Pt × Va,VaAt w b (o+i*4) p.2/\PtOk w p.1 p.2:=by
   intro i hi
   obtain⟨ces,y,m1,hm1,hr,hlc,ht,hby⟩:=hel i hi
   have hy:=Nat.le_trans (hby B hB) hx
   obtain⟨xs,n1,_,rfl,hl,hxl,hf⟩:=DataW.trod_struct Tryz.underlying68 ht
   have cG:xs.length=2:=hxl
   clear hxl
   obtain⟨a0,ces0r,rfl,fw⟩:=zad (n:=3) hlc
   obtain⟨a1,ces1r,rfl,fx⟩:=zad (n:=2) fw
   obtain⟨a2,ces2r,rfl,fy⟩:=zad (n:=1) fx
   obtain⟨a3,ces3r,rfl,fA⟩:=zad (n:=0) fy
   obtain rfl:=List.length_eq_zero_iff.1 fA
   obtain⟨y0,xs0r,rfl,bI⟩:=zad (n:=1) cG
   obtain⟨y1,xs1r,rfl,bJ⟩:=zad (n:=0) bI
   obtain rfl:=List.length_eq_zero_iff.1 bJ
   have h0:DataW.trod enc Tryz.prog w 0 spare held n1 9 [a0]=some y0:=by have:=hf 0 _ rfl;simpa [c9] using this
   have h1:DataW.trod enc Tryz.prog w 0 spare held n1 24 [a1,a2,a3]=some y1:=by have:=hf 1 _ rfl;simpa [c24] using this
   have b1:B y1.1<=1048576:=Nat.le_trans (hB.ag _ _ (by simp)) hy
   obtain⟨s,e0,_⟩:=DataW.trod_string Tryz.underlying9 h0
   obtain⟨g,q,m,c,q',m',c',nu,de,e2,s1,s2,l1,l2⟩:=zf4 hB b1 h1
   simp only[List.cons.injEq,and_true] at e0 e2
   obtain⟨e2,e5,e6⟩:=e2
   subst e0 e2 e5 e6
   exact⟨(⟨s,g,nu,de⟩,⟨s,g,q,m,c,q',m',c'⟩),⟨hr 0 _ rfl,hr 1 _ rfl,hr 2 _ rfl,hr 3 _ rfl⟩,rfl,rfl,s1,s2,l1,l2⟩
  obtain⟨F,hF⟩:=pick hp
  exact⟨_,n,c,fun i=>(F i).1,rfl,by omega,.inr ⟨b,o,rfl,hlt,fun i=>(F i).2,fun i hi=>hF i hi⟩⟩
theorem zjm (hB:Bk B) {fuel:Nat} {cs:List Value} {x:DataW H × List MemPlace} (hx:B x.1<=1048576) (h:DataW.trod enc Tryz.prog w 0 spare held fuel 29 cs=some x):
  ∃q n c ps,cs=[.slice q n c]/\BdsOk w q n ps:=by
 obtain⟨q,n,c,rfl,_,hbn,hel⟩:=zb4 Tryz.underlying29 c65 (by decide) h
 have hn:n<=1048576:=Nat.le_trans (hbn B hB) hx
 rcases hel with rfl | ⟨b,o,rfl,hlt,hel⟩
 ·exact⟨q,0,c,default,rfl,by omega,.inl rfl⟩
 ·have hp:∀i,i<n->∃p:Bd × Bi,BiAt w b (o+i*8) p.2/\BdOk w p.1 p.2:=by
   intro i hi
   obtain⟨ces,y,m1,hm1,hr,hlc,ht,hby⟩:=hel i hi
   have hy:=Nat.le_trans (hby B hB) hx
   obtain⟨xs,n1,_,rfl,hl,hxl,hf⟩:=DataW.trod_struct Tryz.underlying71 ht
   have cG:xs.length=2:=hxl
   clear hxl
   obtain⟨a0,ces0r,rfl,fw⟩:=zad (n:=7) hlc
   obtain⟨a1,ces1r,rfl,fx⟩:=zad (n:=6) fw
   obtain⟨a2,ces2r,rfl,fy⟩:=zad (n:=5) fx
   obtain⟨a3,ces3r,rfl,fA⟩:=zad (n:=4) fy
   obtain⟨a4,ces4r,rfl,iA⟩:=zad (n:=3) fA
   obtain⟨a5,ces5r,rfl,iB⟩:=zad (n:=2) iA
   obtain⟨a6,ces6r,rfl,iC⟩:=zad (n:=1) iB
   obtain⟨a7,ces7r,rfl,iD⟩:=zad (n:=0) iC
   obtain rfl:=List.length_eq_zero_iff.1 iD
   obtain⟨y0,xs0r,rfl,bI⟩:=zad (n:=1) cG
   obtain⟨y1,xs1r,rfl,bJ⟩:=zad (n:=0) bI
   obtain rfl:=List.length_eq_zero_iff.1 bJ
   have h0:DataW.trod enc Tryz.prog w 0 spare held n1 9 [a0]=some y0:=by have:=hf 0 _ rfl;simpa [c9] using this
   have h1:DataW.trod enc Tryz.prog w 0 spare held n1 27 [a1,a2,a3,a4,a5,a6,a7]=some y1:=by have:=hf 1 _ rfl;simpa [c27] using this
   have b1:B y1.1<=1048576:=Nat.le_trans (hB.ag _ _ (by simp)) hy
   obtain⟨s,e0,_⟩:=DataW.trod_string Tryz.underlying9 h0
   obtain⟨X,d,e1,hok⟩:=zgw hB n1 _ y1 b1 h1
   simp only[List.cons.injEq,and_true] at e0 e1
   obtain⟨e1,e2,e3,e4,e5,e6,e7⟩:=e1
   subst e0 e1 e2 e3 e4 e5 e6 e7
   exact⟨(⟨s,X⟩,⟨s,d.k,d.f,d.neg,d.aq,d.an,d.ac,d.cq,d.cn,d.cc,d.m,d.sq,d.sn,d.sc⟩),⟨hr 0 _ rfl,hr 1 _ rfl,hr 2 _ rfl,hr 3 _ rfl,hr 4 _ rfl,hr 5 _ rfl,hr 6 _ rfl,hr 7 _ rfl⟩,rfl,hok⟩
  obtain⟨F,hF⟩:=pick hp
  exact⟨_,n,c,fun i=>(F i).1,rfl,by omega,.inr ⟨b,o,rfl,hlt,fun i=>(F i).2,fun i hi=>hF i hi⟩⟩
end
theorem zaj {P:Program} {fn:Func} {p:Tmp} {ty:TypeId} (h:fn.results=#[.cell p ty]) (tmps:Array Value) (w:World) (b:Nat) (cs:List Value) (d:TypeDesc)
  (hp:tmps.getD p undef=.pointer (some ⟨b,0,none⟩)) (hc:w.rangeAt b 0 cs) (hu:P.underlying ty=some d) (hd:d.isRow=true) (hi:(P.info? ty).map (·.size)=some cs.length):
  (results fn tmps).run P w=.ok (.agg cs.toArray) w:=by
 have hp':tmps[p]?.getD undef=.pointer (some ⟨b,0,none⟩):=by simpa using hp
 simp[results,h,hp',asAddr,run_loadVar_mid w b 0 ty cs d hc hu hd hi]
theorem zas (l:List Int) (k:Nat):val16 (l.take (k+1))=val16 (l.take k)+l.getD k 0*65536^k:=by
 by_cases h:k<l.length
 ·exact zb5 l k h
 ·have h0:l.getD k 0=0:=by simp[List.getD,List.getElem?_eq_none (by omega:l.length<=k)]
  rw[List.take_of_length_le (by omega),List.take_of_length_le (by omega),h0]
  omega
theorem zbm:∀{xs:List Int},Dig16 xs->val16 xs<65536^xs.length
 | [],_=>by simp[val16]
 | x::xs,h=>by
  have h0:=h 0
  have h1:=zbm (zb6 h)
  have h2:val16 (x::xs)=x+65536*val16 xs:=rfl
  rw[h2,List.length_cons,Int.pow_succ]
  simp only[List.getD_cons_zero] at h0
  omega
theorem zbu {l:List Int} (h:Dig16 l) {d:Int} (hd:0<=d/\d<=65535):Dig16 (l++[d]):=fun j=>by
 by_cases hj:j<l.length
 ·have:=h j
  rwa [show (l++[d]).getD j 0=l.getD j 0 by simp[List.getD,List.getElem?_append_left hj]]
 ·by_cases hj2:j=l.length
  ·subst hj2
   simpa [List.getD] using hd
  ·have:(l++[d]).getD j 0=0:=by
    simp only[List.getD]
    rw[List.getElem?_eq_none (by simp;omega)]
    rfl
   rw[this]
   omega
theorem zbv (l:List Int) (d:Int):val16 (l++[d])=val16 l+d*65536^l.length:=by
 rw[za1]
 have:val16 [d]=d:=by simp[val16]
 rw[this,Int.mul_comm]
theorem zem {W:World} {base n:Nat} {v:Value} {zs:List Int} (hn:zs.length=n) (af:W.ownsRow base 150 1 v n (zs.map (Value.int .u32))) (hd:Dig16 zs) (hl:n<=549755813888):Sl16 W v zs:=by
 subst hn
 have dO:=af
 obtain⟨_,⟨rfl,h0⟩ | ⟨g,cp,cur,rfl,hg,be,h4,h5,h6,h7⟩⟩:=af
 ·have hz:zs=[]:=List.eq_nil_of_length_eq_zero h0
  subst hz
  exact⟨hd,by simp,none,0,rfl,Nat.le_refl _,.inl rfl⟩
 ·have hgl:g<W.heap.size:=(Array.getElem?_eq_some_iff.1 be).1
  refine⟨hd,hl,some ⟨g,0,none⟩,cp,rfl,h4,.inr ⟨g,0,rfl,hgl,fun i hi=>?_⟩⟩
  have h:=dO.cells (g:=g) rfl i (.int .u32 (zs.getD i 0)) (by simp[hi])
  by_cases h0:i=0
  ·subst h0
   simpa [Addr.add] using h
  ·simpa [Addr.add,h0] using h
end Go.Proofs.YtnnhofmknilopaaGreatDoor
