import Derived.Maps.AppendAt
import Derived.Deep.MidRow
import Derived.Deep.WholeRow
import Derived.ChangeArms
import Derived.DataReads
import Derived.Test.YtaonejnicgbifaaGreatDoorQk01
namespace Go.Proofs.YtaonejnicgbifaaGreatDoor
open Go Go.RowKit
set_option maxRecDepth 100000
def halves:List Int->List Int
 | []=>[]
 | x::xs=>x % 65536::x / 65536::halves xs
theorem zc3:∀(a b:List Int),halves (a++b)=halves a++halves b
 | [],_=>rfl
 | x::xs,b=>by simp[halves,zc3 xs b]
theorem zbp:∀(a:List Int),(halves a).length=2*a.length
 | []=>rfl
 | x::xs=>by
  have:=zbp xs
  simp[halves,this]
  omega
theorem zg9 (xs:List Int) (k:Nat) (h:k<xs.length):halves (xs.take (k+1))=halves (xs.take k)++[xs.getD k 0 % 65536,xs.getD k 0 / 65536]:=by
 rw[List.take_add_one,zc3]
 simp[halves,h]
theorem za9:∀(xs:List Int),val16 (halves xs)=val xs
 | []=>rfl
 | x::xs=>by
  have:=za9 xs
  simp only[halves,val16,val,this]
  generalize val xs=v
  omega
theorem zbf:∀{xs:List Int},Dig xs->Dig16 (halves xs)
 | [],_=>fun j=>by simp[halves]
 | x::xs,h=>fun j=>by
  have h0:=h 0
  simp at h0
  match j with
  | 0=>simp[halves];omega
  | 1=>simp[halves];omega
  | j+2=>simpa [halves] using zbf (zcr h) j
def Sl16 (w:World) (v:Value) (xs:List Int):Prop:=
 Dig16 xs/\xs.length<=549755813888/\∃q cap,v=.slice q xs.length cap/\xs.length<=cap/\(xs=[]\/∃b o,q=some ⟨b,o,none⟩/\b<w.heap.size/\∀i,i<xs.length->w.cell? ⟨b,o+i,none⟩=some (.int .u32 (xs.getD i 0)))
theorem Sl16.below {w w':World} {v:Value} {xs:List Int} (h:Sl16 w v xs) (hb:Below w.heap.size w w'):Sl16 w' v xs:=by
 obtain⟨h1,h2,q,cap,h3,h4,h5⟩:=h
 refine⟨h1,h2,q,cap,h3,h4,h5.imp id ?_⟩
 rintro⟨b,o,e,hlt,hc⟩
 exact⟨b,o,e,Nat.lt_of_lt_of_le hlt hb.size,fun i hi=>(hb.cell (by exact hlt)).trans (hc i hi)⟩
theorem zf7 (w:World) (x y:Value) (t:TypeId):∀j u,[x,y][j]?=some u->(w.alloc (.cells #[x,y] t)).cell? ((⟨w.heap.size,0,none⟩:Addr).add j)=some u:=by
 intro j u hj
 match j,hj with
 | 0,hj=>
  simp at hj
  subst hj
  simp[Addr.add]
 | 1,hj=>
  simp at hj
  subst hj
  simp[Addr.add]
theorem zi9 (b o cap:Nat) (xs:List Int) (w:World) (hd:Dig xs) (hn:xs.length<=274877906944)
  (hc:∀i,i<xs.length->w.cell? ⟨b,o+i,none⟩=some (.int .u32 (xs.getD i 0))) (hb1:b<w.heap.size) (hne:0<xs.length):
  Calls Tryz.prog 68 #[.slice (some ⟨b,o,none⟩) xs.length cap] w fun e w'=>∃r,e=.returned r/\Sl16 w' r (trim (halves xs))/\Below w.heap.size w w':=by
 obtain⟨i0,hi,hz0,hz1,hz2⟩:=info_parts (show(Tryz.prog.info? 150).map (fun i=>(i.zero,i.size,i.bytes))=some (some (.int .u32 0),1,4) by kernel_rfl)
 go_enter Tryz.func68,Tryz.ntmps68
 go_wp2
 go_loopw [3,8] (fun v i wr=>∃k:Nat,k<=xs.length/\i=.int .i64 k/\wr.ownsRow w.heap.size 150 1 v (2*k) ((halves (xs.take k)).map (Value.int .u32))/\Below w.heap.size w wr) (fun _ i _=>xs.length - (intOf i).toNat)
 case atStart=>exact⟨0,Nat.zero_le _,rfl,World.ownsRow_nil _ _ _ _,Below.refl _ _⟩
 case round=>
  obtain⟨k,hk,rfl,ap,hbw⟩:=hrel
  by_cases hlt:k<xs.length
  ·have c1:wr.cell? ⟨b,o+k,none⟩=some (.int .u32 (xs.getD k 0)):=(hbw.cell (by exact hb1)).trans (hc k hlt)
   have aA:(k:Int)<(xs.length:Int):=by omega
   have hdk:=hd k
   have htk:=zg9 xs k hlt
   generalize xs.getD k 0=X at c1 hdk htk
   have hws:=hbw.size
   go_wp2_with (at_builtin;refine wpList_append_own _ rfl _ _ 62 rfl w.heap.size 150 i0 (.int .u32 0) 1 4 Tryz.underlying62 hi hz0 hz1 hz2 rfl (by decide) _ _ _ rfl (ap.alloc _) ⟨wr.heap.size,0,none⟩ 2 2 [.int .u32 (X % 65536),.int .u32 (X / 65536)] rfl rfl (zf7 _ _ _ _) (ints_oneCell .u32 [X % 65536,X / 65536]) (by unfold maxLen;omega) (by omega) (by simp;omega) ?_;intro v' w2 ew az gZ)
   go_roundw
   case rel=>
    refine⟨k+1,by omega,by go_num,?_,?_⟩
    ·rw[htk,List.map_append]
     exact ew
    ·exact(hbw.alloc hws _).grown az (by simp;omega) (fun g hg=>(ap.lt g hg).1)
   case measure=>simp[intOf];omega
  ·have hk':k=xs.length:=by omega
   subst hk'
   have aj:=zbp xs
   rw[List.take_length] at ap
   have ce:=ap
   obtain⟨_,⟨_,h0⟩ | ⟨g,cp,cur,rfl,hg,bD,h4,h5,h6,h7⟩⟩:=ap
   ·omega
   have br:∀i,i<2*xs.length->wr.cell? ⟨g,0+i,none⟩=some (.int .u32 ((halves xs).getD i 0)):=by
    intro i hi
    have hil:i<(halves xs).length:=by omega
    have h:=ce.cells (g:=g) rfl i (.int .u32 ((halves xs).getD i 0)) (by simp[hil])
    by_cases h0:i=0
    ·subst h0
     simpa [Addr.add] using h
    ·simpa [Addr.add,h0] using h
   have cO:=zbe g 0 (2*xs.length) cp (halves xs) wr br h4 (by omega)
   go_wp2_with (go_at_call 97;refine cO.mono ?_;rintro e w9 ⟨rfl,rfl⟩)
   go_ret
   refine⟨_,rfl,⟨zas (zbf hd),by rw[zai];have:=zam (halves xs) (halves xs).length;omega,some ⟨g,0,none⟩,cp,by rw[zai,aj];rfl,by rw[zai];have:=zam (halves xs) (halves xs).length;omega,.inr ⟨g,0,rfl,?_,fun i hi=>?_⟩⟩,hbw⟩
   ·rcases Nat.lt_or_ge g w9.heap.size with hh | hh
    ·exact hh
    ·simp[Array.getElem?_eq_none hh] at bD
   ·rw[zbm _ i hi]
    exact br i (by rw[zai] at hi;have:=zam (halves xs) (halves xs).length;omega)
theorem zey (q:Option Addr) (cap:Nat) (w:World):Calls Tryz.prog 68 #[.slice q 0 cap] w fun e w'=>e=.returned (.slice none 0 0)/\w'=w:=by
 have ht:=zcb none 0 w
 go_enter Tryz.func68,Tryz.ntmps68
 go_wp2
 refine wp_loop_once ?_
 go_wp2_with (go_at_call 97;refine ht.mono ?_;rintro e w9 ⟨rfl,rfl⟩)
 go_ret
 exact⟨rfl,rfl⟩
theorem zc4 {w:World} {v:Value} {xs:List Int} (h:Sl w v xs) (hn:xs.length<=274877906944):Calls Tryz.prog 68 #[v] w fun e w'=>∃r,e=.returned r/\Sl16 w' r (trim (halves xs))/\Below w.heap.size w w':=by
 obtain⟨h1,h2,q,cap,rfl,h4,h5⟩:=h
 rcases h5 with rfl | ⟨b,o,rfl,hlt,hc⟩
 ·refine(zey q cap w).mono ?_
  rintro e w' ⟨rfl,rfl⟩
  exact⟨_,rfl,⟨fun j=>by simp[halves,trim,trimTo],by simp[halves,trim],none,0,by simp[halves,trim],by simp[halves,trim],.inl (by simp[halves,trim])⟩,Below.refl _ _⟩
 ·by_cases hx:xs=[]
  ·subst hx
   refine(zey _ cap w).mono ?_
   rintro e w' ⟨rfl,rfl⟩
   exact⟨_,rfl,⟨fun j=>by simp[halves,trim,trimTo],by simp[halves,trim],none,0,by simp[halves,trim],by simp[halves,trim],.inl (by simp[halves,trim])⟩,Below.refl _ _⟩
  ·exact zi9 b o cap xs w h1 hn hc hlt (List.length_pos_iff.2 hx)
theorem own_sl16 {w:World} {base n:Nat} {v:Value} {xs:List Int} (h:w.ownsRow base 150 1 v n (xs.map (Value.int .u32))) (hd:Dig16 xs) (hl:xs.length<=549755813888):Sl16 w v xs:=by
 have h':=h
 obtain⟨hn,⟨rfl,h0⟩ | ⟨g,cp,cur,rfl,hg,bD,h4,h5,h6,h7⟩⟩:=h
 ·have hx:xs=[]:=List.eq_nil_of_length_eq_zero (by simpa [h0] using hn)
  subst hx
  exact⟨hd,hl,none,0,rfl,Nat.le_refl _,.inl rfl⟩
 ·have hx:n=xs.length:=by simpa using hn.symm
  subst hx
  refine⟨hd,hl,some ⟨g,0,none⟩,cp,rfl,h4,.inr ⟨g,0,rfl,?_,fun i hi=>?_⟩⟩
  ·rcases Nat.lt_or_ge g w.heap.size with hh | hh
   ·exact hh
   ·simp[Array.getElem?_eq_none hh] at bD
  ·have h:=h'.cells (g:=g) rfl i (.int .u32 (xs.getD i 0)) (by simp[hi])
   by_cases h0:i=0
   ·subst h0
    simpa [Addr.add] using h
   ·simpa [Addr.add,h0] using h
theorem zkx:Dig16 [1]:=fun j=>by
 match j with
 | 0=>simp
 | j+1=>simp
theorem zky (w:World):Calls Tryz.prog 69 #[.int .u64 1] w fun e w'=>∃r,e=.returned r/\Sl16 w' r [1]/\Below w.heap.size w w':=by
 obtain⟨i0,hi,hz0,hz1,hz2⟩:=info_parts (show(Tryz.prog.info? 150).map (fun i=>(i.zero,i.size,i.bytes))=some (some (.int .u32 0),1,4) by kernel_rfl)
 go_enter Tryz.func69,Tryz.ntmps69
 go_wp2
 go_loopw [0,3] (fun i v wr=>(i=.int .u64 1/\v=.slice none 0 0/\wr=w)\/(i=.int .u64 0/\wr.ownsRow w.heap.size 150 1 v 1 [.int .u32 1]/\Below w.heap.size w wr)) (fun i _ _=>(intOf i).toNat)
 case atStart=>exact .inl ⟨rfl,rfl,rfl⟩
 case round=>
  rcases hrel with⟨rfl,rfl,rfl⟩ | ⟨rfl,ap,hbw⟩
  ·go_wp2_with (at_builtin;refine wpList_append_own _ rfl _ _ 62 rfl wr.heap.size 150 i0 (.int .u32 0) 1 4 Tryz.underlying62 hi hz0 hz1 hz2 rfl (by decide) _ _ _ rfl (World.ownsRow_nil _ _ _ _) ⟨wr.heap.size,0,none⟩ 1 1 [.int .u32 1] rfl rfl (cell_one_new _ _ _) (ints_oneCell .u32 [1]) (by unfold maxLen;omega) (by omega) (by simp) ?_;intro v' w2 ew az gZ)
   go_roundw
   case rel=>exact .inr ⟨rfl,ew,((Below.refl _ _).alloc (Nat.le_refl _) _).grown az (by simp) (fun g hg=>by cases hg)⟩
   case measure=>simp[intOf]
  ·go_wp2
   go_ret
   exact⟨_,rfl,own_sl16 (xs:=[1]) ap zkx (by simp),hbw⟩
def denOf (xs:List Int):List Int:=if xs=[] then [1] else xs
theorem zkz {w:World} {v u:Value} {xs ys:List Int} (hx:Sl16 w v xs) (hy:Sl16 w u ys) (nx:xs≠[]) (ny:ys≠[]) (hn:xs.length+ys.length<=549755813888):
  Calls Tryz.prog 123 #[v,u] w fun e w'=>∃r zs,e=.returned r/\Sl16 w' r zs/\Canon zs/\val16 zs=val16 xs*val16 ys/\Below w.heap.size w w':=by
 obtain⟨x1,x2,q,cap,rfl,x4,x5⟩:=hx
 obtain⟨y1,y2,q',cap',rfl,y4,y5⟩:=hy
 rcases x5 with e | ⟨b,o,rfl,hlt,hc⟩
 ·exact absurd e nx
 rcases y5 with e | ⟨b',o',rfl,aA,hc'⟩
 ·exact absurd e ny
 have zx:((xs.length:Int)==0)=false:=by simp[nx]
 have zy:((ys.length:Int)==0)=false:=by simp[ny]
 refine(zhg b o cap b' o' cap' (xs.length+ys.length) xs ys w rfl (by omega) x1 y1 hc hc' hlt aA zx zy).mono ?_
 rintro e w' ⟨os,bL,rfl,aP,hb⟩
 have ho:=bL.len
 have hl:=zam os os.length
 refine⟨_,trim os,rfl,⟨zas bL.dig,by rw[zai];omega,_,_,by rw[zai,ho],by rw[zai];omega,.inr ⟨w.heap.size,0,rfl,?_,fun i hi=>?_⟩⟩,zak os,by rw[zao,bL.eq,List.take_length],hb⟩
 ·rcases Nat.lt_or_ge w.heap.size w'.heap.size with hh | hh
  ·exact hh
  ·unfold Blk at aP;simp[Array.getElem?_eq_none hh] at aP
 ·rw[zbm os i hi,Nat.zero_add]
  exact aP.cell (by rw[zai] at hi;omega)
structure Nd where
 k:Int
 f:Int
 neg:Bool
 aq:Option Addr
 an:Nat
 ac:Nat
 cq:Option Addr
 cn:Nat
 cc:Nat
 m:ByteArray
 sq:Option Addr
 sn:Nat
 sc:Nat
def Nd.val (d:Nd):Value:=.agg (mA d.k d.f d.neg d.aq d.an d.ac d.cq d.cn d.cc d.m d.sq d.sn d.sc)
structure NdAt (w:World) (b o:Nat) (d:Nd):Prop where
 h0:w.cell? ⟨b,o,none⟩=some (.int .i64 d.k)
 h1:w.cell? ⟨b,o+1,none⟩=some (.int .i64 d.f)
 h2:w.cell? ⟨b,o+2,none⟩=some (.bool d.neg)
 h3:w.cell? ⟨b,o+3,none⟩=some (.slice d.aq d.an d.ac)
 h4:w.cell? ⟨b,o+4,none⟩=some (.slice d.cq d.cn d.cc)
 h5:w.cell? ⟨b,o+5,none⟩=some (.string d.m)
 h6:w.cell? ⟨b,o+6,none⟩=some (.slice d.sq d.sn d.sc)
theorem NdAt.below {w w':World} {B b o:Nat} {d:Nd} (h:NdAt w b o d) (hb:Below B w w') (hB:b<B):NdAt w' b o d:=
 ⟨(hb.cell (by exact hB)).trans h.h0,(hb.cell (by exact hB)).trans h.h1,(hb.cell (by exact hB)).trans h.h2,(hb.cell (by exact hB)).trans h.h3,(hb.cell (by exact hB)).trans h.h4,(hb.cell (by exact hB)).trans h.h5,(hb.cell (by exact hB)).trans h.h6⟩
abbrev nA (d:Nd):Array Value:=#[.int .i64 d.k,.int .i64 d.f,.bool d.neg,.slice d.aq d.an d.ac,.slice d.cq d.cn d.cc,.string d.m,.slice d.sq d.sn d.sc]
abbrev nB (d:Nd) (s:Bool):Array Value:=#[.int .i64 d.k,.int .i64 d.f,.bool d.neg,.slice d.aq d.an d.ac,.slice d.cq d.cn d.cc,.string d.m,.slice d.sq d.sn d.sc,.bool s]
abbrev nC (d:Nd) (s:Bool) (bq:Option Addr) (nb bc:Nat) (eq:Option Addr) (nc ec:Nat):Array Value:=#[.int .i64 d.k,.int .i64 d.f,.bool d.neg,.slice d.aq d.an d.ac,.slice d.cq d.cn d.cc,.string d.m,.slice d.sq d.sn d.sc,.bool s,.slice bq nb bc,.slice eq nc ec]
theorem zha (q q':Option Addr) (cap cap':Nat) (fv:Value) (w:World):Calls Tryz.prog 117 #[.slice q 0 cap,.slice q' 0 cap',fv] w fun e w'=>e=.returned (.bool true)/\w'=w:=by
 go_enter Tryz.func117,Tryz.ntmps117
 go_wp2
 refine wp_loop_once ?_
 go_wp2
 go_ret
 exact⟨rfl,rfl⟩
inductive Ex where
 | non
 | mk (k f:Int) (ng:Bool) (nu de:List Int) (m:ByteArray) (n:Nat) (ar:Nat->Ex)
def Ex.eq:Ex->Ex->Bool
 | .mk k f ng nu de m n ar,.mk k' f' ng' nu' de' m' n' ar'=>
  decide (k=k')&&decide (f=f')&&decide (m.toList=m'.toList)&&ratEq ng nu de ng' nu' de'&&(decide (n=n')&&(List.range n).all fun i=>(ar i).eq (ar' i))
 | .non,.non=>true
 | _,_=>false
def ExOk (w:World):Ex->Nd->Prop
 | .non,_=>False
 | .mk k f ng nu de m n ar,d=>(d.k=k/\d.f=f/\d.neg=ng/\d.m=m/\d.sn=n)/\Sl w (.slice d.aq d.an d.ac) nu/\Sl w (.slice d.cq d.cn d.cc) de/\nu.length<=1048576/\de.length<=1048576/\n<=1099511627776/\
  (n=0\/∃b o,d.sq=some ⟨b,o,none⟩/\b<w.heap.size/\∃ds:Nat->Nd,∀i,i<n->NdAt w b (o+i*7) (ds i)/\ExOk w (ar i) (ds i))
theorem ExOk.below {w w':World} (hb:Below w.heap.size w w'):∀{x:Ex} {d:Nd},ExOk w x d->ExOk w' x d:=by
 intro x
 induction x with
 | non=>exact fun h=>h.elim
 | mk k f ng nu de m n ar ih=>
  intro d h
  unfold ExOk at h ⊢
  obtain⟨h1,h2,h3,h4,h5,h6,h7⟩:=h
  refine⟨h1,h2.below hb,h3.below hb,h4,h5,h6,h7.imp id ?_⟩
  rintro⟨b,o,e,hlt,ds,hds⟩
  exact⟨b,o,e,Nat.lt_of_lt_of_le hlt hb.size,ds,fun i hi=>⟨(hds i hi).1.below hb hlt,ih i (hds i hi).2⟩⟩
structure Va where
 m:ByteArray
 g:Bool
 aq:Option Addr
 an:Nat
 ac:Nat
 cq:Option Addr
 cn:Nat
 cc:Nat
def Va.val (d:Va):Value:=.agg #[.string d.m,.bool d.g,.slice d.aq d.an d.ac,.slice d.cq d.cn d.cc]
structure VaAt (w:World) (b o:Nat) (d:Va):Prop where
 h0:w.cell? ⟨b,o,none⟩=some (.string d.m)
 h1:w.cell? ⟨b,o+1,none⟩=some (.bool d.g)
 h2:w.cell? ⟨b,o+2,none⟩=some (.slice d.aq d.an d.ac)
 h3:w.cell? ⟨b,o+3,none⟩=some (.slice d.cq d.cn d.cc)
theorem VaAt.below {w w':World} {B b o:Nat} {d:Va} (h:VaAt w b o d) (hb:Below B w w') (hB:b<B):VaAt w' b o d:=
 ⟨(hb.cell (by exact hB)).trans h.h0,(hb.cell (by exact hB)).trans h.h1,(hb.cell (by exact hB)).trans h.h2,(hb.cell (by exact hB)).trans h.h3⟩
structure Bi where
 m:ByteArray
 ek:Int
 ef:Int
 eg:Bool
 eaq:Option Addr
 ean:Nat
 eac:Nat
 ecq:Option Addr
 ecn:Nat
 ecc:Nat
 em:ByteArray
 esq:Option Addr
 esn:Nat
 esc:Nat
def Bi.val (d:Bi):Value:=.agg #[.string d.m,.int .i64 d.ek,.int .i64 d.ef,.bool d.eg,.slice d.eaq d.ean d.eac,.slice d.ecq d.ecn d.ecc,.string d.em,.slice d.esq d.esn d.esc]
structure BiAt (w:World) (b o:Nat) (d:Bi):Prop where
 h0:w.cell? ⟨b,o,none⟩=some (.string d.m)
 h1:w.cell? ⟨b,o+1,none⟩=some (.int .i64 d.ek)
 h2:w.cell? ⟨b,o+2,none⟩=some (.int .i64 d.ef)
 h3:w.cell? ⟨b,o+3,none⟩=some (.bool d.eg)
 h4:w.cell? ⟨b,o+4,none⟩=some (.slice d.eaq d.ean d.eac)
 h5:w.cell? ⟨b,o+5,none⟩=some (.slice d.ecq d.ecn d.ecc)
 h6:w.cell? ⟨b,o+6,none⟩=some (.string d.em)
 h7:w.cell? ⟨b,o+7,none⟩=some (.slice d.esq d.esn d.esc)
theorem BiAt.below {w w':World} {B b o:Nat} {d:Bi} (h:BiAt w b o d) (hb:Below B w w') (hB:b<B):BiAt w' b o d:=
 ⟨(hb.cell (by exact hB)).trans h.h0,(hb.cell (by exact hB)).trans h.h1,(hb.cell (by exact hB)).trans h.h2,(hb.cell (by exact hB)).trans h.h3,(hb.cell (by exact hB)).trans h.h4,(hb.cell (by exact hB)).trans h.h5,(hb.cell (by exact hB)).trans h.h6,(hb.cell (by exact hB)).trans h.h7⟩
structure Pt where
 m:ByteArray
 g:Bool
 nu:List Int
 de:List Int
def Pt.eq (p p':Pt):Bool:=decide (p.m.toList=p'.m.toList)&&ratEq p.g p.nu p.de p'.g p'.nu p'.de
def PtOk (w:World) (p:Pt) (d:Va):Prop:=
 d.m=p.m/\d.g=p.g/\Sl w (.slice d.aq d.an d.ac) p.nu/\Sl w (.slice d.cq d.cn d.cc) p.de/\p.nu.length<=1048576/\p.de.length<=1048576
theorem PtOk.below {w w':World} (hb:Below w.heap.size w w') {p:Pt} {d:Va} (h:PtOk w p d):PtOk w' p d:=
 ⟨h.1,h.2.1,h.2.2.1.below hb,h.2.2.2.1.below hb,h.2.2.2.2⟩
structure Bd where
 m:ByteArray
 x:Ex
def Bd.eq (p p':Bd):Bool:=decide (p.m.toList=p'.m.toList)&&p.x.eq p'.x
def Bi.nd (d:Bi):Nd:=⟨d.ek,d.ef,d.eg,d.eaq,d.ean,d.eac,d.ecq,d.ecn,d.ecc,d.em,d.esq,d.esn,d.esc⟩
def BdOk (w:World) (p:Bd) (d:Bi):Prop:=d.m=p.m/\ExOk w p.x d.nd
theorem BdOk.below {w w':World} (hb:Below w.heap.size w w') {p:Bd} {d:Bi} (h:BdOk w p d):BdOk w' p d:=⟨h.1,h.2.below hb⟩
def PtsOk (w:World) (q:Option Addr) (n:Nat) (ps:Nat->Pt):Prop:=
 n<=1099511627776/\(n=0\/∃b o,q=some ⟨b,o,none⟩/\b<w.heap.size/\∃ds:Nat->Va,∀i,i<n->VaAt w b (o+i*4) (ds i)/\PtOk w (ps i) (ds i))
theorem PtsOk.below {w w':World} (hb:Below w.heap.size w w') {q:Option Addr} {n:Nat} {ps:Nat->Pt} (h:PtsOk w q n ps):PtsOk w' q n ps:=by
 refine⟨h.1,h.2.imp id ?_⟩
 rintro⟨b,o,e,hlt,ds,hds⟩
 exact⟨b,o,e,Nat.lt_of_lt_of_le hlt hb.size,ds,fun i hi=>⟨(hds i hi).1.below hb hlt,(hds i hi).2.below hb⟩⟩
def PtsEq (n:Nat) (ps:Nat->Pt) (n':Nat) (ps':Nat->Pt):Bool:=decide (n=n')&&(List.range n).all fun i=>(ps i).eq (ps' i)
def BdsOk (w:World) (q:Option Addr) (n:Nat) (ps:Nat->Bd):Prop:=
 n<=1099511627776/\(n=0\/∃b o,q=some ⟨b,o,none⟩/\b<w.heap.size/\∃ds:Nat->Bi,∀i,i<n->BiAt w b (o+i*8) (ds i)/\BdOk w (ps i) (ds i))
theorem BdsOk.below {w w':World} (hb:Below w.heap.size w w') {q:Option Addr} {n:Nat} {ps:Nat->Bd} (h:BdsOk w q n ps):BdsOk w' q n ps:=by
 refine⟨h.1,h.2.imp id ?_⟩
 rintro⟨b,o,e,hlt,ds,hds⟩
 exact⟨b,o,e,Nat.lt_of_lt_of_le hlt hb.size,ds,fun i hi=>⟨(hds i hi).1.below hb hlt,(hds i hi).2.below hb⟩⟩
def BdsEq (n:Nat) (ps:Nat->Bd) (n':Nat) (ps':Nat->Bd):Bool:=decide (n=n')&&(List.range n).all fun i=>(ps i).eq (ps' i)
theorem zad {w w':World} {B b o:Nat} {cs:List Value} (h:w.rangeAt b o cs) (hb:Below B w w') (hB:b<B):w'.rangeAt b o cs:=
 fun j v hv=>(hb.cell (by exact hB)).trans (h j v hv)
theorem zdz {P:Program} {ops:Array Oper} {rest:List Oper} {op:Oper} {a:Act} {w0:World} {Q:Exit->Act->World->Prop} {c:Array Value} (hgd:op.guard=none) (ty:TypeId) (x y:Operand) (ho:op.op=.store ty x y)
  (cells:Array Value) (H:Nat) (hH:w0.heap.size=H) (hx:a.eval x=.pointer (some ⟨H,0,none⟩)) (hy:a.eval y=.agg cells)
  (hc:c.size=cells.size) (hi:(P.info? ty).map (·.size)=some cells.size) (h1:cells.all (·.oneCell')=true)
  (h:wpList P ops Q rest (a.put op.dst undef) (w0.alloc (.cells cells ty))):wpList P ops Q (op::rest) a (w0.alloc (.cells c ty)):=
 wpList_plain hgd fun _ hK=>by
  subst hH
  unfold Oper.wp execOp
  simp only[ho,hx,hy,Instr.storeAt,Instr.sureAddr,Sem.run_bind,Sem.run_pure,Result.andThen_ok,run_storeVar_new w0 ty c cells hi hc h1]
  exact hK _ _ h
theorem zbh (w:World) (cs:List Value) (t:TypeId):(w.alloc (.cells cs.toArray t)).rangeAt w.heap.size 0 cs:=by
 have h:=World.rangeAt_of_block (heap_alloc_last w (.cells cs.toArray t)) 0 cs.length
 simpa using h
structure Sc where
 ru:Int
 nm:ByteArray
 ot:ByteArray
 g:Bool
 kk:Int
 nn:Int
 pr:Int
 en:ByteArray
 ve:Int
structure Sd where
 s:Sc
 aq:Option Addr
 an:Nat
 ac:Nat
 cq:Option Addr
 cn:Nat
 cc:Nat
 e:Nd
 poq:Option Addr
 pon:Nat
 poc:Nat
 arq:Option Addr
 arn:Nat
 arc:Nat
 kiq:Option Addr
 kin:Nat
 kic:Nat
def Sd.cells (d:Sd):List Value:=[.int .i64 d.s.ru,.string d.s.nm,.string d.s.ot,.bool d.s.g,.slice d.aq d.an d.ac,.slice d.cq d.cn d.cc,.int .i64 d.s.kk,.int .i64 d.s.nn,.int .i64 d.s.pr,
 .int .i64 d.e.k,.int .i64 d.e.f,.bool d.e.neg,.slice d.e.aq d.e.an d.e.ac,.slice d.e.cq d.e.cn d.e.cc,.string d.e.m,.slice d.e.sq d.e.sn d.e.sc,
 .slice d.poq d.pon d.poc,.string d.s.en,.int .i64 d.s.ve,.slice d.arq d.arn d.arc,.slice d.kiq d.kin d.kic]
def Sd.val (d:Sd):Value:=.agg d.cells.toArray
theorem Sd.len (d:Sd):d.cells.length=21:=rfl
theorem Sd.one (d:Sd):d.cells.toArray.all (·.oneCell')=true:=by
 refine all_oneCell_toArray ?_
 intro v hv
 simp only[Sd.cells,List.mem_cons,List.not_mem_nil,or_false] at hv
 rcases hv with rfl | rfl | rfl | rfl | rfl | rfl | rfl | rfl | rfl | rfl | rfl | rfl | rfl | rfl | rfl | rfl | rfl | rfl | rfl | rfl | rfl<;>rfl
inductive St where
 | non
 | mk (s:Sc) (nu de:List Int) (x:Ex) (pn:Nat) (ps:Nat->Pt) (bn:Nat) (bs:Nat->Bd) (n:Nat) (ki:Nat->St)
def Sc.eq (s t:Sc):Bool:=(decide (s.ru=t.ru)&&decide (s.nm.toList=t.nm.toList)&&decide (s.ot.toList=t.ot.toList)&&decide (s.en.toList=t.en.toList)&&decide (s.ve=t.ve))&&(decide (s.kk=t.kk)&&decide (s.nn=t.nn)&&decide (s.pr=t.pr))
def St.eq:St->St->Bool
 | .mk s nu de x pn ps bn bs n ki,.mk s' nu' de' x' pn' ps' bn' bs' n' ki'=>
  s.eq s'&&(ratEq s.g nu de s'.g nu' de'&&(x.eq x'&&(PtsEq pn ps pn' ps'&&(BdsEq bn bs bn' bs'&&(decide (n=n')&&(List.range n).all fun i=>(ki i).eq (ki' i))))))
 | .non,.non=>true
 | _,_=>false
def StOk (w:World):St->Sd->Prop
 | .non,_=>False
 | .mk s nu de x pn ps bn bs n ki,d=>(d.s=s/\d.pon=pn/\d.arn=bn/\d.kin=n)/\Sl w (.slice d.aq d.an d.ac) nu/\Sl w (.slice d.cq d.cn d.cc) de/\nu.length<=1048576/\de.length<=1048576/\
  ExOk w x d.e/\PtsOk w d.poq pn ps/\BdsOk w d.arq bn bs/\n<=1099511627776/\
  (n=0\/∃b o,d.kiq=some ⟨b,o,none⟩/\b<w.heap.size/\∃ds:Nat->Sd,∀i,i<n->w.rangeAt b (o+i*21) (ds i).cells/\StOk w (ki i) (ds i))
theorem StOk.below {w w':World} (hb:Below w.heap.size w w'):∀{x:St} {d:Sd},StOk w x d->StOk w' x d:=by
 intro x
 induction x with
 | non=>exact fun h=>h.elim
 | mk s nu de x pn ps bn bs n ki ih=>
  intro d h
  unfold StOk at h ⊢
  obtain⟨h1,h2,h3,h4,h5,h6,h7,h8,h9,h10⟩:=h
  refine⟨h1,h2.below hb,h3.below hb,h4,h5,h6.below hb,h7.below hb,h8.below hb,h9,h10.imp id ?_⟩
  rintro⟨b,o,e,hlt,ds,hds⟩
  exact⟨b,o,e,Nat.lt_of_lt_of_le hlt hb.size,ds,fun i hi=>⟨zad (hds i hi).1 hb hlt,ih i (hds i hi).2⟩⟩
structure Bk {H:Type} (B:DataW H->Nat):Prop where
 el:∀es rest e,e∈es->B e<=B (.slice es rest)
 len:∀es rest,es.length<=B (.slice es rest)
 ag:∀ps p,p∈ps->B p<=B (.agg ps)
theorem pick {α:Type} [Inhabited α] {n:Nat} {p:Nat->α->Prop} (h:∀i,i<n->∃x,p i x):∃f:Nat->α,∀i,i<n->p i (f i):=
 ⟨fun i=>if hi:i<n then(h i hi).choose else default,fun i hi=>by dsimp only;rw[dif_pos hi];exact(h i hi).choose_spec⟩
section
variable {H:Type} {enc:TypeId × Value->H} {w:World} {spare:Nat->Bool} {held:Bool}
theorem zcx {a:Addr} {n:Nat} {cs:List Value} (h:w.cells? 0 a n=some cs) (hn:0<n):a=⟨a.block,a.off,none⟩/\a.block<w.heap.size/\cs.length=n/\w.rangeAt a.block a.off cs:=by
 obtain⟨_,hl,hc⟩:=World.cells?_some h
 have h0:=hc 0 hn
 have hv:∃v,w.cell? a=some v:=by
  rw[show a.add 0=a from rfl] at h0
  rw[h0]
  exact⟨cs[0]'(by omega),by rw[List.getElem?_eq_getElem]⟩
 obtain⟨v,hv⟩:=hv
 have hspot:a.spot=none:=by
  unfold World.cell? at hv
  split at hv
  ·cases hs:a.spot with
   | none=>rfl
   | some s=>simp[hs] at hv
  ·cases hv
 refine⟨?_,World.block_lt_of_cell? w _ hv,hl,fun j u hu=>?_⟩
 ·cases a;simp_all
 ·have hj:j<n:=by
   rw[<-hl]
   rw[List.getElem?_eq_some_iff] at hu
   exact hu.1
  have:=hc j hj
  rw[hu] at this
  rw[<-this]
  congr 1
  unfold Addr.add
  split
  ·rename_i hj0
   subst hj0
   cases a;simp_all
  ·rfl
theorem zbg {t e:TypeId} {sz fuel:Nat} {cs:List Value} {x:DataW H × List MemPlace} (ht:Tryz.prog.underlying t=some (.slice e)) (hsz:Tryz.prog.cellsOf e=sz) (h0:0<sz)
  (h:DataW.trod enc Tryz.prog w 0 spare held fuel t cs=some x):∃q n c,cs=[.slice q n c]/\n<=c/\(∀B:DataW H->Nat,Bk B->n<=B x.1)/\
    (n=0\/∃b o,q=some ⟨b,o,none⟩/\b<w.heap.size/\∀i,i<n->∃ces y m,m<fuel/\w.rangeAt b (o+i*sz) ces/\ces.length=sz/\DataW.trod enc Tryz.prog w 0 spare held m e ces=some y/\∀B:DataW H->Nat,Bk B->B y.1<=B x.1):=by
 rcases DataW.trod_slice ht h with⟨rfl,rfl⟩ | ⟨a,len,cap,elems,rest,n,rfl,rfl,rfl,_,hlc,_,hel,aS,_,_⟩
 ·exact⟨none,0,0,rfl,Nat.le_refl _,fun B _=>Nat.zero_le _,.inl rfl⟩
 ·refine⟨some a,len,cap,rfl,hlc,fun B hB=>by have:=hB.len (elems.map (·.1)) (rest.map (·.1));simpa [hel] using this,?_⟩
  by_cases hz:len=0
  ·exact .inl hz
  ·refine .inr ?_
   have hfst:=aS 0 (by omega)
   have bT:∀i,i<len->∃ces y,w.cells? 0 (a.add (i*sz)) sz=some ces/\DataW.trod enc Tryz.prog w 0 spare held n e ces=some y/\elems[i]?=some y:=by
    intro i hi
    have hg:=aS i hi
    rw[hsz] at hg
    have hi':i<elems.length:=by omega
    rw[List.getElem?_eq_getElem hi',Option.bind_eq_some_iff] at hg
    obtain⟨ces,h1,h2⟩:=hg
    exact⟨ces,_,h1,h2,List.getElem?_eq_getElem hi'⟩
   obtain⟨c0,y0,k0,_,_⟩:=bT 0 (by omega)
   rw[Nat.zero_mul,show a.add 0=a from rfl] at k0
   obtain⟨ha,hb,_,_⟩:=zcx k0 h0
   refine⟨a.block,a.off,by rw[<-ha],hb,fun i hi=>?_⟩
   obtain⟨ces,y,k1,k2,k3⟩:=bT i hi
   obtain⟨_,_,hl,hr⟩:=zcx k1 h0
   have e1:(a.add (i*sz)).block=a.block:=by unfold Addr.add;split<;>rfl
   have e2:(a.add (i*sz)).off=a.off+i*sz:=by
    unfold Addr.add
    split
    ·rename_i hz0
     rw[hz0];rfl
    ·rfl
   rw[e1,e2] at hr
   refine⟨ces,y,n,Nat.lt_succ_self n,hr,hl,k2,fun B hB=>hB.el _ _ _ ?_⟩
   exact List.mem_map_of_mem (List.mem_of_getElem? k3)
theorem c96:Tryz.prog.cellsOf 150=1:=by kernel_rfl
theorem c22:Tryz.prog.cellsOf 25=1:=by kernel_rfl
theorem c3:Tryz.prog.cellsOf 3=1:=by kernel_rfl
theorem c4:Tryz.prog.cellsOf 4=1:=by kernel_rfl
theorem c9:Tryz.prog.cellsOf 9=1:=by kernel_rfl
theorem c24:Tryz.prog.cellsOf 27=3:=by kernel_rfl
theorem c25:Tryz.prog.cellsOf 28=1:=by kernel_rfl
theorem c27:Tryz.prog.cellsOf 30=7:=by kernel_rfl
theorem c28:Tryz.prog.cellsOf 42=1:=by kernel_rfl
theorem c29:Tryz.prog.cellsOf 43=1:=by kernel_rfl
theorem c30:Tryz.prog.cellsOf 44=1:=by kernel_rfl
theorem c32:Tryz.prog.cellsOf 46=21:=by kernel_rfl
theorem c62:Tryz.prog.cellsOf 215=4:=by kernel_rfl
theorem c65:Tryz.prog.cellsOf 217=8:=by kernel_rfl
theorem zez {fuel:Nat} {cs:List Value} {x:DataW H × List MemPlace} {B:DataW H->Nat} (hB:Bk B) (hx:B x.1<=1048576) (h:DataW.trod enc Tryz.prog w 0 spare held fuel 25 cs=some x):
  ∃q n c xs,cs=[.slice q n c]/\Sl w (.slice q n c) xs/\xs.length<=1048576:=by
 obtain⟨q,n,c,rfl,hnc,hb,hel⟩:=zbg Tryz.underlying25 c96 (by decide) h
 have hn:=hb B hB
 rcases hel with rfl | ⟨b,o,rfl,hlt,hel⟩
 ·exact⟨q,0,c,[],rfl,⟨fun j=>by simp,by simp,q,c,rfl,by simp,.inl rfl⟩,by simp⟩
 ·have hp:∀i,i<n->∃z:Int,w.cell? ⟨b,o+i,none⟩=some (.int .u32 z)/\0<=z/\z<=4294967295:=by
   intro i hi
   obtain⟨ces,y,m,_,hr,hl,ht,_⟩:=hel i hi
   obtain⟨z,rfl,_,hw⟩:=DataW.trod_int Tryz.underlying150 ht
   have:=hr 0 _ rfl
   simp only[Lit.wf,Bool.and_eq_true,decide_eq_true_eq] at hw
   refine⟨z,by simpa using this,?_⟩
   exact hw
  obtain⟨f,hf⟩:=pick hp
  have aj:((List.range n).map f).length=n:=by simp
  have aS:∀i,i<n->((List.range n).map f).getD i 0=f i:=by
   intro i hi
   simp[List.getD,hi]
  refine⟨some ⟨b,o,none⟩,n,c,(List.range n).map f,rfl,⟨fun j=>?_,by rw[aj];omega,some ⟨b,o,none⟩,c,by rw[aj],by rw[aj];exact hnc,.inr ⟨b,o,rfl,hlt,fun i hi=>?_⟩⟩,by rw[aj];omega⟩
  ·by_cases hj:j<n
   ·rw[aS j hj]
    exact⟨(hf j hj).2.1,(hf j hj).2.2⟩
   ·rw[List.getD,List.getElem?_eq_none (by rw[aj];omega)]
    decide
  ·rw[aj] at hi
   rw[aS i hi]
   exact(hf i hi).1
end
end Go.Proofs.YtaonejnicgbifaaGreatDoor
