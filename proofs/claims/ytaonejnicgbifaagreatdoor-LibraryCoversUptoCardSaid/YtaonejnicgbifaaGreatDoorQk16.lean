import Derived.Test.YtaonejnicgbifaaGreatDoorHxF
import Derived.Test.YtaonejnicgbifaaGreatDoorQk15
namespace Go.Proofs.YtaonejnicgbifaaGreatDoor
open Go Go.RowKit
set_option maxRecDepth 100000
set_option maxHeartbeats 16000000
theorem zd5 {xs:List Int} (dx:Dig16 xs) (cx:Canon xs) (k:Nat):xs.length<=2*k↔val16 xs<pw k:=by
 have e:pw k=65536^(2*k):=by
  rw[Int.pow_mul]
  rfl
 rw[e]
 constructor
 ·intro h
  have h1:=za2 dx
  obtain⟨d,hd⟩:∃d,2*k=xs.length+d:=⟨2*k - xs.length,by omega⟩
  rw[hd,Int.pow_add]
  have hp:(0:Int)<65536^xs.length:=Int.pow_pos (by decide)
  have hq:(0:Int)<65536^d:=Int.pow_pos (by decide)
  have:=Int.mul_le_mul_of_nonneg_left hq (by omega:(0:Int)<=65536^xs.length)
  omega
 ·intro h
  exact zb5 dx cx h
theorem over_ok {w:World} {v:Value} {g:Bool} {n d:Int} (h:QAt w v g n d):
  Calls Tryz.prog 122 #[v] w fun e w'=>e=.returned (.bool (!(decide (n<pw 64)&&decide (d<pw 64))))/\Below w.heap.size w w':=by
 obtain⟨a,b,ns,ds,rfl,h2,h3,rfl,h5,h6,rfl⟩:=h
 have e1:decide (val16 ns<pw 64)=decide (ns.length<=128):=decide_eq_decide.2 (zd5 h2.1 h3 64).symm
 have e2:decide (val16 ds<pw 64)=decide (ds.length<=128):=decide_eq_decide.2 (zd5 h5.1 h6 64).symm
 rw[e1,e2]
 obtain⟨q,cap,rfl⟩:=h2.form
 obtain⟨q',cap',rfl⟩:=h5.form
 clear h2 h3 h5 h6 e1 e2
 by_cases h1:ns.length<=128
 ·have h1':¬(ns.length:Int) > 128:=by omega
  by_cases h2:ds.length<=128
  ·have h2':¬(ds.length:Int) > 128:=by omega
   go_enter Tryz.func122,Tryz.ntmps122
   go_wp2
   go_ret
   exact⟨by simp,zaa _ _⟩
  ·have h2':(ds.length:Int) > 128:=by omega
   go_enter Tryz.func122,Tryz.ntmps122
   go_wp2
   go_ret
   exact⟨by simp,zaa _ _⟩
 ·have h1':(ns.length:Int) > 128:=by omega
  go_enter Tryz.func122,Tryz.ntmps122
  go_wp2
  go_ret
  exact⟨by simp[h1],zaa _ _⟩
theorem zeroQ_ok {w:World} {g:Bool} {q1 p1:Option Addr} {n c1 m e1:Nat} {nu:List Int} (h1:Sl w (.slice q1 n c1) nu) (ln:nu.length<=34359738000):
  Calls Tryz.prog 121 #[.agg (qA g q1 n c1 p1 m e1)] w fun e w'=>e=.returned (.bool (decide (val nu=0)))/\Below w.heap.size w w':=by
 have hb:Below w.heap.size w (w.alloc (.cells (qA g q1 n c1 p1 m e1) 27)):=zaa w _
 have hw:=zc4 (h1.below hb) (by omega)
 have hz:decide (val nu=0)=decide ((trim (halves nu)).length=0):=decide_eq_decide.2 (by
  rw[<-za9 nu,<-zdo (zbf h1.1)]
  exact⟨fun h=>by rw[h];rfl,fun h=>List.eq_nil_of_length_eq_zero h⟩)
 rw[hz]
 clear hz h1
 by_cases h0:(trim (halves nu)).length=0
 ·go_enter Tryz.func121,Tryz.ntmps121
  go_wp2_with (go_at_call 68;with_reducible refine hw.mono ?_;rintro e w1 ⟨r,rfl,hr,hb1⟩
               obtain⟨qr,cr,rfl⟩:=hr.form
               rw[h0])
  go_ret
  exact⟨by simp[h0],hb.trans (hb1.mono hb.size)⟩
 ·go_enter Tryz.func121,Tryz.ntmps121
  go_wp2_with (go_at_call 68;with_reducible refine hw.mono ?_;rintro e w1 ⟨r,rfl,hr,hb1⟩
               obtain⟨qr,cr,rfl⟩:=hr.form)
  go_ret
  exact⟨by simp[h0],hb.trans (hb1.mono hb.size)⟩
theorem zjr {n d:Int} (h1:n<pw 256) (h2:d<pw 256):(!(decide (mkN n (denI d)<pw 64)&&decide (mkD n (denI d)<pw 64)))=large n d:=by
 unfold large
 simp[h1,h2]
theorem zeo {w:World} {g:Bool} {q1 p1:Option Addr} {n c1 m e1:Nat} {nu de:List Int} (h1:Sl w (.slice q1 n c1) nu) (h2:Sl w (.slice p1 m e1) de) (ln:nu.length<=34359738000) (ld:de.length<=34359738000):
  Calls Tryz.prog 93 #[.agg (qA g q1 n c1 p1 m e1)] w fun e w'=>e=.returned (.bool (large (val nu) (val de)))/\Below w.heap.size w w':=by
 have hb:Below w.heap.size w (w.alloc (.cells (qA g q1 n c1 p1 m e1) 27)):=zaa w _
 have hk1:=zc4 (h1.below hb) (by omega)
 have hk2:∀z,Below w.heap.size w z->Calls Tryz.prog 68 #[.slice p1 m e1] z fun e w'=>∃r,e=.returned r/\Sl16 w' r (trim (halves de))/\Below z.heap.size z w':=fun z hz=>zc4 (h2.below hz) (by omega)
 have hof:∀z,Below w.heap.size w z->_:=fun z hz=>zbn (g:=g) (h1.below hz) (h2.below hz) (by omega) (by omega)
 have L1:=zd5 (zas (zbf h1.1)) (zak (halves nu)) 256
 have L2:=zd5 (zas (zbf h2.1)) (zak (halves de)) 256
 rw[zao,za9] at L1 L2
 generalize val nu=X at*
 generalize val de=Y at*
 have hL:Hid (((trim (halves nu)).length<=512↔X<pw 256)/\((trim (halves de)).length<=512↔Y<pw 256)):=⟨L1,L2⟩
 have hb':=zac hb
 generalize (trim (halves nu))=N at*
 generalize (trim (halves de))=D at*
 clear h1 h2 L1 L2 hb
 by_cases hA:N.length<=512
 ·have hA':¬(N.length:Int) > 512:=by omega
  by_cases hB:D.length<=512
  ·have hB':¬(D.length:Int) > 512:=by omega
   have hlo:Hid _:=zjr (hL.out.1.1 hA) (hL.out.2.1 hB)
   go_enter Tryz.func93,Tryz.ntmps93
   go_wp2_with (first
    | (go_at_call 68;with_reducible refine hk1.mono ?_;rintro e w1 ⟨r,rfl,hr,hb1⟩
       obtain⟨qr,cr,rfl⟩:=hr.form
       have hw1:Hid (Below w.heap.size w w1):=hb'.out.trans (hb1.mono hb'.out.size)
       have x0:w1.cell? ⟨w.heap.size,0,none⟩=some (.bool g):=(hb1.cell (by show w.heap.size<_;simp)).trans (by simp)
       have x1:w1.cell? ⟨w.heap.size,1,none⟩=some (.slice q1 n c1):=(hb1.cell (by show w.heap.size<_;simp)).trans (by simp)
       have x2:w1.cell? ⟨w.heap.size,2,none⟩=some (.slice p1 m e1):=(hb1.cell (by show w.heap.size<_;simp)).trans (by simp)
       have s1:w.heap.size<w1.heap.size:=by have:=hb1.size;simp at this;omega
       clear hk1 hb1 hr)
    | (go_at_call 68;with_reducible refine(hk2 w1 hw1.out).mono ?_;rintro e w2 ⟨r2,rfl,hr2,hb2⟩
       obtain⟨qr2,cr2,rfl⟩:=hr2.form
       have hw2:Hid (Below w.heap.size w w2):=hw1.out.trans (hb2.mono hw1.out.size)
       have y0:=(hb2.cell (p:=⟨w.heap.size,0,none⟩) (by exact s1)).trans x0
       have y1:=(hb2.cell (p:=⟨w.heap.size,1,none⟩) (by exact s1)).trans x1
       have y2:=(hb2.cell (p:=⟨w.heap.size,2,none⟩) (by exact s1)).trans x2
       clear hk2 hb2 hr2 x0 x1 x2)
    | (go_at_call 40;with_reducible refine(hof _ hw2.out).mono ?_;rintro e w3 ⟨v,rfl,hq,hb3⟩
       have hov:=over_ok hq
       rw[hlo.out] at hov
       have hw3:Hid (Below w.heap.size w w3):=hw2.out.trans (hb3.mono hw2.out.size))
    | (go_at_call 122;with_reducible refine hov.mono ?_;rintro e w4 ⟨rfl,hb4⟩))
   go_ret
   exact⟨rfl,hw3.out.trans (hb4.mono hw3.out.size)⟩
  ·have hB':(D.length:Int) > 512:=by omega
   have hl:=zde (n:=X) (d:=Y) (.inr (fun h=>hB (hL.out.2.2 h)))
   rw[hl]
   clear hl hof
   go_enter Tryz.func93,Tryz.ntmps93
   go_wp2_with (first
    | (go_at_call 68;with_reducible refine hk1.mono ?_;rintro e w1 ⟨r,rfl,hr,hb1⟩
       obtain⟨qr,cr,rfl⟩:=hr.form
       have hw1:Hid (Below w.heap.size w w1):=hb'.out.trans (hb1.mono hb'.out.size)
       have x2:w1.cell? ⟨w.heap.size,2,none⟩=some (.slice p1 m e1):=(hb1.cell (by show w.heap.size<_;simp)).trans (by simp)
       clear hk1 hb1 hr)
    | (go_at_call 68;with_reducible refine(hk2 w1 hw1.out).mono ?_;rintro e w2 ⟨r2,rfl,hr2,hb2⟩
       obtain⟨qr2,cr2,rfl⟩:=hr2.form
       have hw2:Hid (Below w.heap.size w w2):=hw1.out.trans (hb2.mono hw1.out.size)
       clear hk2 hb2 hr2 x2))
   go_ret
   exact⟨rfl,hw2.out⟩
 ·have hA':(N.length:Int) > 512:=by omega
  have hl:=zde (n:=X) (d:=Y) (.inl (fun h=>hA (hL.out.1.2 h)))
  rw[hl]
  clear hl hof hk2
  go_enter Tryz.func93,Tryz.ntmps93
  go_wp2_with (go_at_call 68;with_reducible refine hk1.mono ?_;rintro e w1 ⟨r,rfl,hr,hb1⟩
               obtain⟨qr,cr,rfl⟩:=hr.form
               have hw1:Hid (Below w.heap.size w w1):=hb'.out.trans (hb1.mono hb'.out.size)
               clear hk1 hb1 hr)
  go_ret
  exact⟨rfl,hw1.out⟩
end Go.Proofs.YtaonejnicgbifaaGreatDoor
namespace Go.Proofs.YtaonejnicgbifaaGreatDoor
open Go Go.Proofs.YtaonejnicgbifaaGreatDoor.Gx Go.RowKit
def GK:Nat->Option (List AV):=fun _=>none
def XK:FuncId->Option Ent:=fun _=>none
noncomputable def PK:Program:=Tryz.prog
def resL:List (List UInt8):=[[101,120,112],[108,111,103],[115,105,110],[99,111,115],[116,97,110],[97,115,105,110],[97,99,111,115],[97,116,97,110],[112,105],[97,98,115],[109,105,110],[109,97,120],[114,111,111,116],[115,113,114,116],[105,102],[105,110,102],[102,111,114],[105,110],[119,104,101,114,101]]
def kK:List (Int × Int):=[(1,0),(2,0),(3,0),(4,1),(5,2),(6,2),(7,2),(8,2),(9,1),(10,1),(11,1),(12,1),(13,2),(14,2),(15,3)]
def loI:Int:=(-9223372036854775808)
def hiI:Int:=9223372036854775807
def kT1:Tab:=resL.map fun l=>(101,[.str l],.bool true)
def kT2:Tab:=kK.map fun x=>(107,[.int .i64 x.1],.tup [.int .i64 x.2,.bool true])
def kT6:Tab:=[(101,[.ostr resL],.bool false),
 (107,[.oint .i64 loI 0],.tup [.int .i64 0,.bool false]),(107,[.oint .i64 16 hiI],.tup [.int .i64 0,.bool false]),
 (92,[],.isl 19 (resL.map .str) (some 19))]
def kTab1:Tab:=kT1++(kT2++kT6)
theorem kMixed:Tryz.prog.follows .mixedOrders=true:=by kernel_rfl
theorem kNoNum:NoNum Tryz.prog:=by
 have h:(Tryz.prog.funcs.toList.all fun fn=>!fn.body.isSome||!(fn.name == "runtime.NumGoroutine"))=true:=by kernel_rfl
 intro f fn hf hb
 have hm:fn∈Tryz.prog.funcs.toList:=by
  rw[Array.mem_toList_iff];exact Array.mem_of_getElem? hf
 have:=List.all_eq_true.1 h fn hm
 simp only[hb,Bool.not_true,Bool.false_or,Bool.not_eq_true'] at this
 exact this
theorem kNoX:XOk PK XK:=fun f k h=>by cases h
theorem kChk1:chkT PK GK XK (fun _=>true) 6000 [] kTab1=true:=by decide +kernel
theorem kOk1:TabOk PK GK (kTab1++[]):=TabOk.chk (TabOk.nil PK GK) kNoNum kMixed kNoX kChk1
theorem kGlob {w:World}:∀g cs,GK g=some cs->VRel (fun _=>False) w phi0 (.iptr cs) (.pointer (some ⟨g,0,none⟩)):=fun g cs h=>by cases h
theorem kUse {f:FuncId} {args:List AV} {v:AV} (h:SealOk (tenv PK GK (fun _=>none) (fun _=>true) []) f args (.ret v)) {w:World} {us:Array Value} (hA:LRel (fun _=>False) w phi0 args us.toList):
  Calls Tryz.prog f us w fun e w'=>(∃u,e=.returned u/\VRel (fun _=>False) w' phi0 v u)/\Below w.heap.size w w':=
 SealOk.use h (sess0 kGlob) (by rw[bd0];exact hA) (Below.refl _ _)
theorem zil {f:FuncId} {args:List AV} {v:AV} (h:(f,args,v)∈kTab1) {w:World} {us:Array Value} (hA:LRel (fun _=>False) w phi0 args us.toList):
  Calls Tryz.prog f us w fun e w'=>(∃u,e=.returned u/\VRel (fun _=>False) w' phi0 v u)/\Below w.heap.size w w':=
 kUse (kOk1 _ (List.mem_append_left _ h)) hA
set_option maxRecDepth 100000
set_option maxHeartbeats 16000000
def bt (s:ByteArray) (i:Nat):Nat:=if h:i<s.size then(s[i]'h).toNat else 0
theorem bt_eq {s:ByteArray} {i:Nat} (h:i<s.size):(s[i]'h).toNat=bt s i:=by
 unfold bt
 rw[dif_pos h]
def lowB (c:Nat):Bool:=decide (97<=c)&&decide (c<=122)
def digB (c:Nat):Bool:=decide (48<=c)&&decide (c<=57)
def wordB (s:ByteArray):Bool:=decide (0<s.size)&&lowB (bt s 0)&&(List.range s.size).all fun i=>lowB (bt s i)||digB (bt s i)
theorem zgq (c:Nat) (w:World):Calls Tryz.prog 132 #[.int .u8 c] w fun e w'=>e=.returned (.bool (lowB c))/\w'=w:=by
 unfold lowB
 by_cases h1:97<=c
 ·have h1':(c:Int)>=97:=by omega
  by_cases h2:c<=122
  ·have h2':(c:Int)<=122:=by omega
   go_enter Tryz.func132,Tryz.ntmps132
   go_wp2
   go_ret
   exact⟨by simp[h1,h2],rfl⟩
  ·have h2':¬(c:Int)<=122:=by omega
   go_enter Tryz.func132,Tryz.ntmps132
   go_wp2
   go_ret
   exact⟨by simp,rfl⟩
 ·have h1':¬(c:Int)>=97:=by omega
  go_enter Tryz.func132,Tryz.ntmps132
  go_wp2
  go_ret
  exact⟨by simp,rfl⟩
theorem isdig_ok (c:Nat) (w:World):Calls Tryz.prog 133 #[.int .u8 c] w fun e w'=>e=.returned (.bool (digB c))/\w'=w:=by
 unfold digB
 by_cases h1:48<=c
 ·have h1':(c:Int)>=48:=by omega
  by_cases h2:c<=57
  ·have h2':(c:Int)<=57:=by omega
   go_enter Tryz.func133,Tryz.ntmps133
   go_wp2
   go_ret
   exact⟨by simp[h1,h2],rfl⟩
  ·have h2':¬(c:Int)<=57:=by omega
   go_enter Tryz.func133,Tryz.ntmps133
   go_wp2
   go_ret
   exact⟨by simp,rfl⟩
 ·have h1':¬(c:Int)>=48:=by omega
  go_enter Tryz.func133,Tryz.ntmps133
  go_wp2
  go_ret
  exact⟨by simp,rfl⟩
theorem zba (s:ByteArray):(s.toList==[])=decide (s.size=0):=by
 have h:s.toList.length=s.size:=by rw[ByteArray.toList_eq,Array.length_toList];rfl
 cases hl:s.toList with
 | nil=>
  rw[hl] at h
  have h2:s.size=0:=by simpa using h.symm
  rw[decide_eq_true h2]
  rfl
 | cons a l=>
  rw[hl] at h
  have h2:¬s.size=0:=by simp at h;omega
  rw[decide_eq_false h2]
  rfl
theorem wordP_ok (s:ByteArray) (w:World) (hl:s.size<=1099511627776):
  Calls Tryz.prog 100 #[.string s] w fun e w'=>∃n:Nat,e=.returned (.int .i64 n)/\n<=s.size/\(n=s.size↔s.size=0\/wordB s=true)/\w'=w:=by
 by_cases h0:s.size=0
 ·have he:(s.toList==[])=true:=by rw[zba];simp[h0]
  go_enter Tryz.func100,Tryz.ntmps100
  go_wp2
  go_ret
  exact⟨0,rfl,by omega,by simp[h0],rfl⟩
 ·have he:(s.toList==[])=false:=by rw[zba];simp[h0]
  have hp:(0:Int)<s.size:=by omega
  have hp':0<s.size:=by omega
  have hb:=bt_eq hp'
  have hw0:Hid (lowB (bt s 0)=false->wordB s=false):=fun h=>by unfold wordB;simp[h]
  have hc0:=zgq (bt s 0) w
  cases hl0:lowB (bt s 0) with
  | false=>
   rw[hl0] at hc0
   have hwf:=hw0.out hl0
   clear hw0 hl0
   go_enter Tryz.func100,Tryz.ntmps100
   go_wp2_with (go_at_call 132;with_reducible refine hc0.mono ?_;rintro e w1 ⟨rfl,rfl⟩)
   go_ret
   exact⟨0,rfl,by omega,⟨fun h=>absurd h.symm h0,fun h=>h.elim (fun h=>absurd h h0) (fun h=>by rw[hwf] at h;cases h)⟩,rfl⟩
  | true=>
   rw[hl0] at hc0
   have hw1:Hid ((∀i,i<s.size->(lowB (bt s i)||digB (bt s i))=true)->wordB s=true):=fun h=>by
    unfold wordB
    rw[decide_eq_true hp',hl0]
    simp only[Bool.true_and,List.all_eq_true]
    intro i hi
    exact h i (List.mem_range.1 hi)
   have hw2:Hid (∀i,i<s.size->(lowB (bt s i)||digB (bt s i))=false->wordB s=false):=fun i hi h=>by
    unfold wordB
    have:((List.range s.size).all fun i=>lowB (bt s i)||digB (bt s i))=false:=by
     rw[List.all_eq_false]
     exact⟨i,List.mem_range.2 hi,by rw[h];simp⟩
    rw[this]
    simp
   have jX:Hid (lowB (bt s 0)=true):=hl0
   clear hw0 hl0
   go_enter Tryz.func100,Tryz.ntmps100
   go_wp2_with (go_at_call 132;with_reducible refine hc0.mono ?_;rintro e w1 ⟨rfl,hw⟩;subst w1)
   clear hb hc0
   go_loop [3] (fun v=>∃k:Nat,1<=k/\k<=s.size/\v=.int .i64 k/\Hid (∀i,i<k->(lowB (bt s i)||digB (bt s i))=true)) (fun v=>s.size - (intOf v).toNat)
   case atStart=>exact⟨1,Nat.le_refl _,hp',rfl,fun i hi=>by
    have:i=0:=by omega
    subst this
    rw[jX.out];rfl⟩
   case round=>
    obtain⟨k,hk1,hk,rfl,hz⟩:=hrel
    by_cases hlt:k<s.size
    ·have aA:(k:Int)<s.size:=by omega
     have hb:=bt_eq hlt
     have hc:=zgq (bt s k) w
     have hd:=isdig_ok (bt s k) w
     cases h1:lowB (bt s k) with
     | true=>
      rw[h1] at hc
      have h1':Hid (lowB (bt s k)=true):=h1
      clear h1 hd
      go_wp2_with (go_at_call 132;with_reducible refine hc.mono ?_;rintro e w1 ⟨rfl,hw⟩;subst w1)
      go_round
      case rel=>
       refine⟨k+1,by omega,by omega,by go_num,fun i hi=>?_⟩
       rcases Nat.lt_or_ge i k with h | h
       ·exact hz.out i h
       ·have:i=k:=by omega
        subst this
        rw[h1'.out];rfl
      case measure=>simp[intOf];omega
     | false=>
      rw[h1] at hc
      cases h2:digB (bt s k) with
      | true=>
       rw[h2] at hd
       have h2':Hid (digB (bt s k)=true):=h2
       clear h1 h2
       go_wp2_with (first
        | (go_at_call 132;with_reducible refine hc.mono ?_;rintro e w1 ⟨rfl,hw⟩;subst w1)
        | (go_at_call 133;with_reducible refine hd.mono ?_;rintro e w1 ⟨rfl,hw⟩;subst w1))
       go_round
       case rel=>
        refine⟨k+1,by omega,by omega,by go_num,fun i hi=>?_⟩
        rcases Nat.lt_or_ge i k with h | h
        ·exact hz.out i h
        ·have:i=k:=by omega
         subst this
         rw[h2'.out,Bool.or_true]
       case measure=>simp[intOf];omega
      | false=>
       rw[h2] at hd
       have hwf:=hw2.out k hlt (by rw[h1,h2];rfl)
       clear h1 h2
       go_wp2_with (first
        | (go_at_call 132;with_reducible refine hc.mono ?_;rintro e w1 ⟨rfl,hw⟩;subst w1)
        | (go_at_call 133;with_reducible refine hd.mono ?_;rintro e w1 ⟨rfl,hw⟩;subst w1))
       go_ret
       exact⟨k,rfl,by omega,⟨fun h=>absurd h (by omega),fun h=>h.elim (fun h=>absurd h h0) (fun h=>by rw[hwf] at h;cases h)⟩,rfl⟩
    ·obtain rfl:k=s.size:=by omega
     have hwt:Hid _:=hw1.out hz.out
     go_wp2
     go_ret
     exact⟨s.size,rfl,Nat.le_refl _,⟨fun _=>hwt.out,fun _=>rfl⟩,rfl⟩
end Go.Proofs.YtaonejnicgbifaaGreatDoor
namespace Go.Proofs.YtaonejnicgbifaaGreatDoor
open Go Go.Proofs.YtaonejnicgbifaaGreatDoor.Gx Go.RowKit
set_option maxRecDepth 100000
set_option maxHeartbeats 16000000
def nameB (s:ByteArray):Bool:=decide (s.size<=8)&&(wordB s&&!decide (s.toList∈resL))
theorem zlk (s:ByteArray):(Value.string s)=.string ⟨s.toList.toArray⟩:=by
 rw[ByteArray.toList_eq]
theorem zfp {w:World} {x:AV} {v:Value} (h:VRel (fun _=>False) w phi0 x v):LRel (fun _=>False) w phi0 [x] #[v].toList:=LRel.cons h .nil
theorem zht (s:ByteArray) (w:World):Calls Tryz.prog 101 #[.string s] w fun e w'=>e=.returned (.bool (decide (s.toList∈resL)))/\Below w.heap.size w w':=by
 rw[zlk]
 by_cases h:s.toList∈resL
 ·refine(zil (f:=101) (args:=[.str s.toList]) (v:=.bool true) (List.mem_append_left _ (List.mem_map.2 ⟨_,h,rfl⟩)) (zfp (.str _))).mono ?_
  rintro e w' ⟨⟨u,rfl,hu⟩,hb⟩
  rw[hu.bool_inv,decide_eq_true h]
  exact⟨rfl,hb⟩
 ·refine(zil (f:=101) (args:=[.ostr resL]) (v:=.bool false) (List.mem_append_right _ (List.mem_append_right _ (by unfold kT6;simp))) (zfp (.ostr h))).mono ?_
  rintro e w' ⟨⟨u,rfl,hu⟩,hb⟩
  rw[hu.bool_inv,decide_eq_false h]
  exact⟨rfl,hb⟩
theorem zll (s:ByteArray) (w:World):Calls Tryz.prog 71 #[.string s] w fun e w'=>e=.returned (.bool (nameB s))/\Below w.heap.size w w':=by
 unfold nameB
 by_cases h8:s.size<=8
 ·have h8':(s.size:Int)<=8:=by omega
  have hw:=wordP_ok s w (by omega)
  have hr:=zht s w
  rw[decide_eq_true h8]
  by_cases h0:s.size=0
  ·have he:(s.toList==[])=true:=by rw[zba,decide_eq_true h0]
   have hwf:wordB s=false:=by unfold wordB;rw[decide_eq_false (by omega)];rfl
   rw[hwf]
   clear hr hwf
   go_enter Tryz.func71,Tryz.ntmps71
   go_wp2_with (go_at_call 100;with_reducible refine hw.mono ?_;rintro e w1 ⟨n,rfl,hn1,hn2,hw1⟩;subst w1
                have hn:n=0:=by omega
                subst hn
                clear hn1 hn2)
   go_ret
   exact⟨rfl,Below.refl _ _⟩
  ·have he:(s.toList==[])=false:=by rw[zba,decide_eq_false h0]
   cases hb:wordB s with
   | true=>
    go_enter Tryz.func71,Tryz.ntmps71
    go_wp2_with (first
     | (go_at_call 100;with_reducible refine hw.mono ?_;rintro e w1 ⟨n,rfl,hn1,hn2,hw1⟩;subst w1
        have hn:((n:Int)==(s.size:Int))=true:=by
         have:=hn2.2 (.inr hb)
         simp;omega
        clear hn1 hn2)
     | (go_at_call 101;with_reducible refine hr.mono ?_;rintro e w2 ⟨rfl,hb2⟩))
    go_ret
    exact⟨by simp,hb2⟩
   | false=>
    go_enter Tryz.func71,Tryz.ntmps71
    go_wp2_with (go_at_call 100;with_reducible refine hw.mono ?_;rintro e w1 ⟨n,rfl,hn1,hn2,hw1⟩;subst w1
                 have hn:((n:Int)==(s.size:Int))=false:=by
                  have:¬n=s.size:=fun h=>(hn2.1 h).elim h0 (fun h=>by rw[hb] at h;cases h)
                  simp;omega
                 clear hn1 hn2)
    go_ret
    exact⟨rfl,Below.refl _ _⟩
 ·have h8':¬(s.size:Int)<=8:=by omega
  rw[decide_eq_false h8]
  go_enter Tryz.func71,Tryz.ntmps71
  go_wp2
  go_ret
  exact⟨rfl,Below.refl _ _⟩
theorem ze6 (s:ByteArray) (w:World):Calls Tryz.prog 42 #[.string s] w fun e w'=>e=.returned (.bool (nameB s))/\Below w.heap.size w w':=by
 have h:=zll s w
 go_enter Tryz.func42,Tryz.ntmps42
 go_wp2_with (go_at_call 71;with_reducible refine h.mono ?_;rintro e w1 ⟨rfl,hb⟩)
 go_ret
 exact⟨rfl,hb⟩
theorem wordQ_ok (s:ByteArray) (w:World) (hl:s.size<=1099511627776):
  Calls Tryz.prog 91 #[.string s] w fun e w'=>e=.returned (.bool (wordB s))/\w'=w:=by
 have hw1:Hid ((∀i,i<s.size->(lowB (bt s i)||digB (bt s i))=true)->(0<s.size->lowB (bt s 0)=true)->wordB s=decide (0<s.size)):=fun h h2=>by
  unfold wordB
  have:((List.range s.size).all fun i=>lowB (bt s i)||digB (bt s i))=true:=by
   rw[List.all_eq_true]
   intro i hi
   exact h i (List.mem_range.1 hi)
  rw[this]
  by_cases h0:0<s.size
  ·rw[decide_eq_true h0,h2 h0];rfl
  ·rw[decide_eq_false h0];rfl
 have hw2:Hid (∀i,i<s.size->(lowB (bt s i)||digB (bt s i))=false->wordB s=false):=fun i hi h=>by
  unfold wordB
  have:((List.range s.size).all fun i=>lowB (bt s i)||digB (bt s i))=false:=by
   rw[List.all_eq_false]
   exact⟨i,List.mem_range.2 hi,by rw[h];simp⟩
  rw[this]
  simp
 have hw3:Hid (lowB (bt s 0)=false->wordB s=false):=fun h=>by
  unfold wordB
  rw[h];simp
 obtain⟨R,hR⟩:∃R,Hid (wordB s=R):=⟨_,rfl⟩
 rw[hR.out]
 go_enter Tryz.func91,Tryz.ntmps91
 go_wp2
 go_loop [3,4] (fun v _=>∃k:Nat,k<=s.size/\v=.int .i64 k/\Hid ((∀i,i<k->(lowB (bt s i)||digB (bt s i))=true)/\(0<k->lowB (bt s 0)=true))) (fun v _=>s.size - (intOf v).toNat)
 case atStart=>exact⟨0,Nat.zero_le _,rfl,fun i hi=>by omega,fun h=>by omega⟩
 case round=>
  obtain⟨k,hk,rfl,hz⟩:=hrel
  by_cases hlt:k<s.size
  ·have aA:(k:Int)<s.size:=by omega
   have hb:=bt_eq hlt
   have ak:Hid ((lowB (bt s k)=true\/0<k/\digB (bt s k)=true)->(∀i,i<k+1->(lowB (bt s i)||digB (bt s i))=true)/\(0<k+1->lowB (bt s 0)=true)):=fun h=>by
    refine⟨fun i hi=>?_,fun _=>?_⟩
    ·rcases Nat.lt_or_ge i k with h2 | h2
     ·exact hz.out.1 i h2
     ·have:i=k:=by omega
      subst this
      rcases h with h | h
      ·rw[h];rfl
      ·rw[h.2,Bool.or_true]
    ·rcases Nat.eq_zero_or_pos k with h2 | h2
     ·subst h2
      exact h.elim id (fun h=>absurd h.1 (by omega))
     ·exact hz.out.2 h2
   have eh:Hid (lowB (bt s k)=false->(k=0\/digB (bt s k)=false)->R=false):=fun h1 h2=>by
    rw[<-hR.out]
    rcases h2 with h2 | h2
    ·subst h2;exact hw3.out h1
    ·exact hw2.out k hlt (by rw[h1,h2];rfl)
   clear hz
   generalize hc:bt s k=c at*
   have hc':Hid (bt s k=c):=hc
   clear hc
   have tail:(¬97<=c\/¬c<=122)->Hid (lowB c=false):=fun h=>(by unfold lowB;rcases h with h | h<;>simp[h]:lowB c=false)
   have dg:(¬48<=c\/¬c<=57)->Hid (digB c=false):=fun h=>(by unfold digB;rcases h with h | h<;>simp[h]:digB c=false)
   have dg1:48<=c->c<=57->Hid (digB c=true):=fun h1 h2=>(by unfold digB;simp[h1,h2]:digB c=true)
   by_cases h1:97<=c
   ·have h1':(c:Int)>=97:=by omega
    by_cases h2:c<=122
    ·have h2':(c:Int)<=122:=by omega
     have hl:Hid (lowB c=true):=(by unfold lowB;simp[h1,h2]:lowB c=true)
     go_wp2
     go_round
     case rel=>exact⟨k+1,by omega,by go_num,ak.out (.inl hl.out)⟩
     case measure=>simp[intOf];omega
    ·have h2':¬(c:Int)<=122:=by omega
     have hl:=tail (.inr h2)
     have hd:=dg (.inr (by omega))
     have hRf:=eh.out hl.out (.inr hd.out)
     have h3:¬(c:Int)<48:=by omega
     have h4:(c:Int) > 57:=by omega
     subst hRf
     by_cases hk0:k=0
     ·subst hk0
      go_wp2
      go_ret
      exact⟨rfl,rfl⟩
     ·have hk1:((k:Int)==0)=false:=by simp;omega
      go_wp2
      go_ret
      exact⟨rfl,rfl⟩
   ·have h1':¬(c:Int)>=97:=by omega
    have hl:=tail (.inl h1)
    by_cases hk0:k=0
    ·have hRf:=eh.out hl.out (.inl hk0)
     subst hRf
     subst hk0
     go_wp2
     go_ret
     exact⟨rfl,rfl⟩
    ·have hk1:((k:Int)==0)=false:=by simp;omega
     by_cases h3:c<48
     ·have h3':(c:Int)<48:=by omega
      have hRf:=eh.out hl.out (.inr (dg (.inl (by omega))).out)
      subst hRf
      go_wp2
      go_ret
      exact⟨rfl,rfl⟩
     ·have h3':¬(c:Int)<48:=by omega
      by_cases h4:c<=57
      ·have h4':¬(c:Int) > 57:=by omega
       go_wp2
       go_round
       case rel=>exact⟨k+1,by omega,by go_num,ak.out (.inr ⟨by omega,(dg1 (by omega) h4).out⟩)⟩
       case measure=>simp[intOf];omega
      ·have h4':(c:Int) > 57:=by omega
       have hRf:=eh.out hl.out (.inr (dg (.inr h4)).out)
       subst hRf
       go_wp2
       go_ret
       exact⟨rfl,rfl⟩
  ·obtain rfl:k=s.size:=by omega
   have hwt:=hw1.out hz.out.1 hz.out.2
   rw[hR.out] at hwt
   have jY:Hid (R=decide (0<s.size)):=hwt
   clear hwt
   go_wp2
   go_ret
   exact⟨by rw[jY.out];simp,rfl⟩
theorem resL_get {j:Nat} (hj:j<19):(resL.map AV.str)[j]?=some (.str (resL.getD j [])):=by
 have hl:resL.length=19:=rfl
 rw[List.getElem?_map,List.getElem?_eq_getElem (by omega)]
 simp[List.getD,List.getElem?_eq_getElem (by omega:j<resL.length)]
theorem resQ_ok (w:World):Calls Tryz.prog 92 #[] w fun e w'=>∃b o cap,e=.returned (.slice (some ⟨b,o,none⟩) 19 cap)/\(∀i,i<19->w'.cell? ⟨b,o+i,none⟩=some (.string ⟨(resL.getD i []).toArray⟩))/\Below w.heap.size w w':=by
 refine(zil (f:=92) (args:=[]) (v:=.isl 19 (resL.map .str) (some 19)) (List.mem_append_right _ (List.mem_append_right _ (by unfold kT6;simp))) .nil).mono ?_
 rintro e w' ⟨⟨u,rfl,hu⟩,hb⟩
 cases hu with
 | @isl _ _ _ _ a ccap vs hx hl hbk hc hv=>
  obtain⟨ab,ao,asp⟩:=a
  have hsp:=(hbk (by simp[resL])).2
  simp only at hsp
  subst hsp
  refine⟨ab,ao,ccap,rfl,fun i hi=>?_,hb⟩
  have h1:=resL_get hi
  have h2:=hv i _ h1
  rw[hc i _ h1,h2.str_inv]
theorem resL_end {s:ByteArray} (h:∀j,j<19->resL.getD j []≠s.toList):s.toList∉resL:=fun hm=>by
 obtain⟨j,hj,he⟩:=List.getElem_of_mem hm
 have hl:resL.length=19:=rfl
 refine h j (by omega) ?_
 simp[List.getD,List.getElem?_eq_getElem hj,he]
theorem resL_hit {s:ByteArray} {j:Nat} (hj:j<19) (h:resL.getD j []=s.toList):s.toList∈resL:=by
 have hl:resL.length=19:=rfl
 rw[<-h]
 simp[List.getD,List.getElem?_eq_getElem (by omega:j<resL.length)]
theorem zim (s:ByteArray) (w:World):Calls Tryz.prog 61 #[.string s] w fun e w'=>e=.returned (.bool (nameB s))/\Below w.heap.size w w':=by
 have hr:=resQ_ok w
 by_cases h8:s.size<=8
 ·have h8':¬(s.size:Int) > 8:=by omega
  have hw:=wordQ_ok s w (by omega)
  cases hb:wordB s with
  | false=>
   have hn:nameB s=false:=by unfold nameB;rw[hb];simp
   rw[hn]
   rw[hb] at hw
   clear hr hn
   go_enter Tryz.func61,Tryz.ntmps61
   go_wp2_with (go_at_call 91;with_reducible refine hw.mono ?_;rintro e w1 ⟨rfl,hw1⟩;subst w1)
   go_ret
   exact⟨rfl,Below.refl _ _⟩
  | true=>
   have hn:nameB s=!decide (s.toList∈resL):=by unfold nameB;rw[hb,decide_eq_true h8];rfl
   rw[hn]
   rw[hb] at hw
   obtain⟨R,hR⟩:∃R,Hid ((!decide (s.toList∈resL))=R):=⟨_,rfl⟩
   rw[hR.out]
   clear hn
   go_enter Tryz.func61,Tryz.ntmps61
   go_wp2_with (first
    | (go_at_call 91;with_reducible refine hw.mono ?_;rintro e w1 ⟨rfl,hw1⟩;subst w1)
    | (go_at_call 92;with_reducible refine hr.mono ?_;rintro e w2 ⟨b,o,cap,rfl,hc,hb2⟩
       have hc':=zac hc
       clear hc))
   go_loop [4] (fun v=>∃k:Nat,k<=19/\v=.int .i64 k/\Hid (∀j,j<k->resL.getD j []≠s.toList)) (fun v=>19 - (intOf v).toNat)
   case atStart=>exact⟨0,Nat.zero_le _,rfl,fun j hj=>by omega⟩
   case round=>
    obtain⟨k,hk,rfl,hz⟩:=hrel
    by_cases hlt:k<19
    ·have aA:(k:Int)<19:=by omega
     have c0:=hc'.out k hlt
     by_cases he:resL.getD k []=s.toList
     ·have hRf:R=false:=by rw[<-hR.out,decide_eq_true (resL_hit hlt he)];rfl
      subst hRf
      have he':(resL.getD k []==s.toList)=true:=beq_iff_eq.2 he
      clear he
      generalize resL.getD k []=L at*
      go_wp2
      go_ret
      exact⟨rfl,hb2⟩
     ·have he':(resL.getD k []==s.toList)=false:=beq_eq_false_iff_ne.2 he
      have hz':Hid (∀j,j<k+1->resL.getD j []≠s.toList):=fun j hj=>by
       rcases Nat.lt_or_ge j k with h | h
       ·exact hz.out j h
       ·have:j=k:=by omega
        subst this;exact he
      clear he hz
      generalize resL.getD k []=L at*
      go_wp2
      go_round
      case rel=>exact⟨k+1,by omega,by go_num,hz'⟩
      case measure=>simp[intOf];omega
    ·obtain rfl:k=19:=by omega
     have hRt:R=true:=by rw[<-hR.out,decide_eq_false (resL_end hz.out)];rfl
     subst hRt
     clear hz
     go_wp2
     go_ret
     exact⟨rfl,hb2⟩
 ·have h8':(s.size:Int) > 8:=by omega
  have hn:nameB s=false:=by unfold nameB;rw[decide_eq_false h8];rfl
  rw[hn]
  go_enter Tryz.func61,Tryz.ntmps61
  go_wp2
  go_ret
  exact⟨rfl,Below.refl _ _⟩
def kidsI (k:Int):Int:=match kK.find? (fun x=>x.1==k) with | some x=>x.2 | none=>-1
def loA (k:Int):Int:=if k=9 then -32 else if k=10 then 2 else if k=11 then 1 else 0
def hiA (k:Int):Int:=if k=9 then 32 else if k=10 then 8 else if k=11 then 8 else 0
def nodeOk (k f:Int) (ng:Bool) (X Y:Int) (m:ByteArray) (n:Nat):Bool:=
 decide (kidsI k=n)&&(decide (loA k<=f)&&decide (f<=hiA k))&&(if k=1 then(!large X Y&&decide (0<=sgnQ ng X Y))&&decide (m.size=0) else decide (X=0)&&(if k=2 then nameB m else decide (m.size=0)))
theorem zep (k:Int):(∃x∈kK,x.1=k/\kidsI k=x.2/\0<=x.2)\/(kidsI k=-1/\∀x∈kK,x.1≠k):=by
 unfold kidsI
 cases h:kK.find? (fun x=>x.1==k) with
 | some x=>
  have h1:=List.find?_some h
  have h2:=List.mem_of_find?_eq_some h
  have h3:∀x∈kK,0<=x.2:=by decide
  exact .inl ⟨x,h2,by simpa using h1,rfl,h3 x h2⟩
 | none=>
  rw[List.find?_eq_none] at h
  exact .inr ⟨rfl,fun x hx e=>h x hx (by simp[e])⟩
theorem kids_ok (k:Int) (w:World):Calls Tryz.prog 107 #[.int .i64 k] w fun e w'=>e=.returned (.tuple #[.int .i64 (if kidsI k<0 then 0 else kidsI k),.bool (decide (0<=kidsI k))])/\Below w.heap.size w w':=by
 rcases zep k with⟨x,hx,rfl,he,h0⟩ | ⟨he,hn⟩
 ·rw[he,if_neg (by omega),decide_eq_true h0]
  refine(zil (f:=107) (args:=[.int .i64 x.1]) (v:=.tup [.int .i64 x.2,.bool true]) (List.mem_append_right _ (List.mem_append_left _ (List.mem_map.2 ⟨_,hx,rfl⟩))) (zfp (.int _ _))).mono ?_
  rintro e w' ⟨⟨u,rfl,hu⟩,hb⟩
  obtain⟨vs,rfl,hl⟩:=hu.tup_inv
  obtain⟨v1,r1,e1,hv1,hl1⟩:=LRel.inv_cons hl
  obtain⟨v2,r2,rfl,hv2,hl2⟩:=LRel.inv_cons hl1
  obtain rfl:=LRel.inv_nil hl2
  rw[arr_of_list e1,hv1.int_inv,hv2.bool_inv]
  exact⟨rfl,hb⟩
 ·rw[he]
  simp only[kK,List.mem_cons,List.not_mem_nil,or_false,forall_eq_or_imp,forall_eq] at hn
  obtain⟨h1,h2,h3,h4,h5,h6,h7,h8,h9,h10,h11,h12,h13,h14,h15⟩:=hn
  have n1:(k==1)=false:=by simp;omega
  have n2:(k==2)=false:=by simp;omega
  have n3:(k==3)=false:=by simp;omega
  have n4:(k==4)=false:=by simp;omega
  have n5:(k==5)=false:=by simp;omega
  have n6:(k==6)=false:=by simp;omega
  have n7:(k==7)=false:=by simp;omega
  have n8:(k==8)=false:=by simp;omega
  have n9:(k==9)=false:=by simp;omega
  have n10:(k==10)=false:=by simp;omega
  have n11:(k==11)=false:=by simp;omega
  have n12:(k==12)=false:=by simp;omega
  have n13:(k==13)=false:=by simp;omega
  have n14:(k==14)=false:=by simp;omega
  have n15:(k==15)=false:=by simp;omega
  clear h1 h2 h3 h4 h5 h6 h7 h8 h9 h10 h11 h12 h13 h14 h15 he
  go_enter Tryz.func107,Tryz.ntmps107
  go_wp2
  go_ret2
  exact⟨rfl,Below.refl _ _⟩
theorem kidsQ_ok (k:Int) (w:World):Calls Tryz.prog 119 #[.int .i64 k] w fun e w'=>e=.returned (.int .i64 (kidsI k))/\w'=w:=by
 rcases zep k with⟨x,hx,rfl,he,h0⟩ | ⟨he,hn⟩
 ·rw[he]
  have bj:∀x∈kK,x=(1,0)\/x=(2,0)\/x=(3,0)\/x=(4,1)\/x=(5,2)\/x=(6,2)\/x=(7,2)\/x=(8,2)\/x=(9,1)\/x=(10,1)\/x=(11,1)\/x=(12,1)\/x=(13,2)\/x=(14,2)\/x=(15,3):=by decide
  clear he
  rcases bj x hx with rfl | rfl | rfl | rfl | rfl | rfl | rfl | rfl | rfl | rfl | rfl | rfl | rfl | rfl | rfl<;>
  ·clear hx bj h0
   go_enter Tryz.func119,Tryz.ntmps119
   go_wp2
   go_ret
   exact⟨rfl,rfl⟩
 ·rw[he]
  simp only[kK,List.mem_cons,List.not_mem_nil,or_false,forall_eq_or_imp,forall_eq] at hn
  obtain⟨h1,h2,h3,h4,h5,h6,h7,h8,h9,h10,h11,h12,h13,h14,h15⟩:=hn
  have n1:(k==1)=false:=by simp;omega
  have n2:(k==2)=false:=by simp;omega
  have n3:(k==3)=false:=by simp;omega
  have n4:(k==4)=false:=by simp;omega
  have n5:(k==5)=false:=by simp;omega
  have n6:(k==6)=false:=by simp;omega
  have n7:(k==7)=false:=by simp;omega
  have n8:(k==8)=false:=by simp;omega
  have n9:(k==9)=false:=by simp;omega
  have n10:(k==10)=false:=by simp;omega
  have n11:(k==11)=false:=by simp;omega
  have n12:(k==12)=false:=by simp;omega
  have n13:(k==13)=false:=by simp;omega
  have n14:(k==14)=false:=by simp;omega
  have n15:(k==15)=false:=by simp;omega
  clear h1 h2 h3 h4 h5 h6 h7 h8 h9 h10 h11 h12 h13 h14 h15 he
  go_enter Tryz.func119,Tryz.ntmps119
  go_wp2
  go_ret
  exact⟨rfl,rfl⟩
end Go.Proofs.YtaonejnicgbifaaGreatDoor
