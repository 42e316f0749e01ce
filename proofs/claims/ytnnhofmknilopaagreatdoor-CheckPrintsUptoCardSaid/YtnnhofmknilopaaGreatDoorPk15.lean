import Derived.Test.YtnnhofmknilopaaGreatDoorGxF
import Derived.Test.YtnnhofmknilopaaGreatDoorPk12
namespace Go.Proofs.YtnnhofmknilopaaGreatDoor
open Go Go.Proofs.YtnnhofmknilopaaGreatDoor.Gx Go.RowKit
def GK:Nat->Option (List AV):=fun _=>none
def XK:FuncId->Option Ent:=fun _=>none
noncomputable def PK:Program:=Tryz.prog
def resL:List (List UInt8):=[[101,120,112],[108,111,103],[115,105,110],[99,111,115],[116,97,110],[97,115,105,110],[97,99,111,115],[97,116,97,110],[112,105],[97,98,115],[109,105,110],[109,97,120],[114,111,111,116],[115,113,114,116],[105,102],[105,110,102],[102,111,114],[105,110],[119,104,101,114,101]]
structure KR where
 n:Int
 nm:List UInt8
 fl:List UInt8
 k:Int
 f:FuncId
def kR:List KR:=[⟨1,[114,97,110,103,101],[112],0,69⟩,
 ⟨2,[109,101,97,110],[112],0,70⟩,
 ⟨3,[116,97,121,108,111,114],[112],0,71⟩,
 ⟨4,[108,105,110,101,97,114],[112],0,72⟩,
 ⟨5,[101,109,112,116,121],[107,112],0,73⟩,
 ⟨6,[99,117,116],[120,97],2,74⟩,
 ⟨7,[114,105,115,101],[120,112],1,75⟩,
 ⟨8,[102,97,108,108],[120,112],1,76⟩,
 ⟨9,[99,97,118,101],[120,112],2,77⟩,
 ⟨10,[110,97,114,114,111,119],[120,107,110,112],1,78⟩,
 ⟨11,[98,114,97,110,99,104],[112],2,79⟩,
 ⟨12,[116,117,114,110],[120,97],1,80⟩,
 ⟨13,[115,119,97,112],[120,121,112],1,81⟩,
 ⟨14,[122,101,114,111],[113,112],0,82⟩,
 ⟨15,[108,101,97,100],[120,97,110,112],0,83⟩,
 ⟨16,[115,97,109,101],[101,112],1,84⟩,
 ⟨17,[118,105,97],[101],2,85⟩,
 ⟨18,[115,99,97,108,101],[101],2,86⟩,
 ⟨19,[97,100,100],[107,97],1,87⟩,
 ⟨20,[108,101,109,109,97],[108,118,98,112],1,88⟩,
 ⟨21,[102,97,114],[120,110,101,112],1,89⟩]
def kQ:List KR:=[⟨1,[114,97,110,103,101],[112],0,0⟩,
 ⟨2,[109,101,97,110],[112],0,0⟩,
 ⟨3,[116,97,121,108,111,114],[112],0,0⟩,
 ⟨4,[108,105,110,101,97,114],[112],0,0⟩,
 ⟨5,[101,109,112,116,121],[107,112],0,0⟩,
 ⟨6,[99,117,116],[110,97],2,0⟩,
 ⟨7,[114,105,115,101],[110,112],1,0⟩,
 ⟨8,[102,97,108,108],[110,112],1,0⟩,
 ⟨9,[99,97,118,101],[110,112],2,0⟩,
 ⟨10,[110,97,114,114,111,119],[110,107,99,112],1,0⟩,
 ⟨11,[98,114,97,110,99,104],[112],2,0⟩,
 ⟨12,[116,117,114,110],[110,97],1,0⟩,
 ⟨13,[115,119,97,112],[110,111,112],1,0⟩,
 ⟨14,[122,101,114,111],[116,112],0,0⟩,
 ⟨15,[108,101,97,100],[110,97,99,112],0,0⟩,
 ⟨16,[115,97,109,101],[101,112],1,0⟩,
 ⟨17,[118,105,97],[101],2,0⟩,
 ⟨18,[115,99,97,108,101],[101],2,0⟩,
 ⟨19,[97,100,100],[107,97],1,0⟩,
 ⟨20,[108,101,109,109,97],[121,118,98,112],1,0⟩,
 ⟨21,[102,97,114],[110,99,101,112],1,0⟩]
def letP:List UInt8:=[120,121,97,107,110,112,101,113,108,118,98]
def letQ:List UInt8:=[110,111,97,107,99,112,101,116,121,118,98]
def KR.av (r:KR):AV:=.agg [.str r.nm,.str r.fl,.int .i64 r.k,.func r.f [] []]
def noAv:AV:=.agg [.str [],.str [],.int .i64 0,.nilfn]
def kK:List (Int × Int):=[(1,0),(2,0),(3,0),(4,1),(5,2),(6,2),(7,2),(8,2),(9,1),(10,1),(11,1),(12,1),(13,2),(14,2),(15,3)]
def loI:Int:=(-9223372036854775808)
def hiI:Int:=9223372036854775807
def kT1:Tab:=resL.map fun l=>(91,[.str l],.bool true)
def kT2:Tab:=kK.map fun x=>(320,[.int .i64 x.1],.tup [.int .i64 x.2,.bool true])
def kT3:Tab:=kK.map fun x=>(388,[.int .i64 x.1],.int .i64 x.2)
def kT4:Tab:=kR.map fun r=>(20,[.int .i64 r.n],.tup [r.av,.bool true])
def kT5:Tab:=kQ.map fun r=>(56,[.int .i64 r.n],.agg [.str r.nm,.str r.fl,.int .i64 r.k])
def kT6:Tab:=[(91,[.ostr resL],.bool false),
 (320,[.oint .i64 loI 0],.tup [.int .i64 0,.bool false]),(320,[.oint .i64 16 hiI],.tup [.int .i64 0,.bool false]),
 (388,[.oint .i64 loI 0],.int .i64 (-1)),(388,[.oint .i64 16 hiI],.int .i64 (-1)),
 (20,[.oint .i64 loI 0],.tup [noAv,.bool false]),(20,[.oint .i64 22 hiI],.tup [noAv,.bool false]),
 (99,[.oint .i64 loI 0],.str []),(99,[.oint .i64 22 hiI],.str []),(104,[],.isl 19 (resL.map .str) (some 19)),
 (43,[],.isl 21 (kR.flatMap fun r=>[.str r.nm,.str r.fl,.int .i64 r.k,.func r.f [] []]) (some 21))]
def kTab1:Tab:=kT1++(kT2++(kT3++(kT4++(kT5++kT6))))
def kTab2:Tab:=kR.flatMap fun r=>letP.map fun c=>(21,[r.av,.int .u8 c.toNat],.bool (decide (c∈r.fl)))
def kT7:Tab:=kQ.map fun r=>(99,[.int .i64 r.n],.str r.nm)
def kT8:Tab:=kQ.flatMap fun r=>letQ.map fun c=>(54,[.int .i64 r.n,.int .u8 c.toNat],.bool (decide (c∈r.fl)))
def kTab3:Tab:=kT7++kT8
theorem zi3:Tryz.prog.follows .mixedOrders=true:=by kernel_rfl
theorem zi4:NoNum Tryz.prog:=by
 have h:(Tryz.prog.funcs.toList.all fun fn=>!fn.body.isSome||!(fn.name == "runtime.NumGoroutine"))=true:=by kernel_rfl
 intro f fn hf hb
 have hm:fn∈Tryz.prog.funcs.toList:=by
  rw[Array.mem_toList_iff];exact Array.mem_of_getElem? hf
 have:=List.all_eq_true.1 h fn hm
 simp only[hb,Bool.not_true,Bool.false_or,Bool.not_eq_true'] at this
 exact this
theorem kNoX:XOk PK XK:=fun f k h=>by cases h
theorem kChk1:chkT PK GK XK (fun _=>true) 6000 [] kTab1=true:=by decide +kernel
theorem kChk2:chkT PK GK XK (fun _=>true) 6000 (kTab1++[]) kTab2=true:=by decide +kernel
theorem kChk3:chkT PK GK XK (fun _=>true) 6000 (kTab1++[]) kTab3=true:=by decide +kernel
theorem kOk1:TabOk PK GK (kTab1++[]):=TabOk.chk (TabOk.nil PK GK) zi4 zi3 kNoX kChk1
theorem kOk2:TabOk PK GK (kTab2++(kTab1++[])):=TabOk.chk kOk1 zi4 zi3 kNoX kChk2
theorem kOk3:TabOk PK GK (kTab3++(kTab1++[])):=TabOk.chk kOk1 zi4 zi3 kNoX kChk3
theorem kGlob {w:World}:∀g cs,GK g=some cs->VRel (fun _=>False) w phi0 (.iptr cs) (.pointer (some ⟨g,0,none⟩)):=fun g cs h=>by cases h
theorem kUse {f:FuncId} {args:List AV} {v:AV} (h:SealOk (tenv PK GK (fun _=>none) (fun _=>true) []) f args (.ret v)) {w:World} {us:Array Value} (hA:LRel (fun _=>False) w phi0 args us.toList):
  Calls Tryz.prog f us w fun e w'=>(∃u,e=.returned u/\VRel (fun _=>False) w' phi0 v u)/\Below w.heap.size w w':=
 SealOk.use h (sess0 kGlob) (by rw[bd0];exact hA) (Below.refl _ _)
theorem ze3 {f:FuncId} {args:List AV} {v:AV} (h:(f,args,v)∈kTab1) {w:World} {us:Array Value} (hA:LRel (fun _=>False) w phi0 args us.toList):
  Calls Tryz.prog f us w fun e w'=>(∃u,e=.returned u/\VRel (fun _=>False) w' phi0 v u)/\Below w.heap.size w w':=
 kUse (kOk1 _ (List.mem_append_left _ h)) hA
theorem kCall2 {f:FuncId} {args:List AV} {v:AV} (h:(f,args,v)∈kTab2) {w:World} {us:Array Value} (hA:LRel (fun _=>False) w phi0 args us.toList):
  Calls Tryz.prog f us w fun e w'=>(∃u,e=.returned u/\VRel (fun _=>False) w' phi0 v u)/\Below w.heap.size w w':=
 kUse (kOk2 _ (List.mem_append_left _ h)) hA
theorem kCall3 {f:FuncId} {args:List AV} {v:AV} (h:(f,args,v)∈kTab3) {w:World} {us:Array Value} (hA:LRel (fun _=>False) w phi0 args us.toList):
  Calls Tryz.prog f us w fun e w'=>(∃u,e=.returned u/\VRel (fun _=>False) w' phi0 v u)/\Below w.heap.size w w':=
 kUse (kOk3 _ (List.mem_append_left _ h)) hA
end Go.Proofs.YtnnhofmknilopaaGreatDoor
namespace Go.Proofs.YtnnhofmknilopaaGreatDoor
open Go Go.RowKit
set_option maxRecDepth 100000
set_option maxHeartbeats 16000000
def bt (s:ByteArray) (i:Nat):Nat:=if h:i<s.size then(s[i]'h).toNat else 0
theorem bt_eq {s:ByteArray} {i:Nat} (h:i<s.size):(s[i]'h).toNat=bt s i:=by
 unfold bt
 rw[dif_pos h]
def lowB (c:Nat):Bool:=decide (97<=c)&&decide (c<=122)
def digB (c:Nat):Bool:=decide (48<=c)&&decide (c<=57)
def wordB (s:ByteArray):Bool:=decide (0<s.size)&&lowB (bt s 0)&&(List.range s.size).all fun i=>lowB (bt s i)||digB (bt s i)
theorem zg6 (c:Nat) (w:World):Calls Tryz.prog 174 #[.int .u8 c] w fun e w'=>e=.returned (.bool (lowB c))/\w'=w:=by
 unfold lowB
 by_cases h1:97<=c
 ·have h1':(c:Int)>=97:=by omega
  by_cases h2:c<=122
  ·have h2':(c:Int)<=122:=by omega
   go_enter Tryz.func174,Tryz.ntmps174
   go_wp2
   go_ret
   exact⟨by simp[h1,h2],rfl⟩
  ·have h2':¬(c:Int)<=122:=by omega
   go_enter Tryz.func174,Tryz.ntmps174
   go_wp2
   go_ret
   exact⟨by simp,rfl⟩
 ·have h1':¬(c:Int)>=97:=by omega
  go_enter Tryz.func174,Tryz.ntmps174
  go_wp2
  go_ret
  exact⟨by simp,rfl⟩
theorem isdig_ok (c:Nat) (w:World):Calls Tryz.prog 175 #[.int .u8 c] w fun e w'=>e=.returned (.bool (digB c))/\w'=w:=by
 unfold digB
 by_cases h1:48<=c
 ·have h1':(c:Int)>=48:=by omega
  by_cases h2:c<=57
  ·have h2':(c:Int)<=57:=by omega
   go_enter Tryz.func175,Tryz.ntmps175
   go_wp2
   go_ret
   exact⟨by simp[h1,h2],rfl⟩
  ·have h2':¬(c:Int)<=57:=by omega
   go_enter Tryz.func175,Tryz.ntmps175
   go_wp2
   go_ret
   exact⟨by simp,rfl⟩
 ·have h1':¬(c:Int)>=48:=by omega
  go_enter Tryz.func175,Tryz.ntmps175
  go_wp2
  go_ret
  exact⟨by simp,rfl⟩
theorem za7 (s:ByteArray):(s.toList==[])=decide (s.size=0):=by
 have h:s.toList.length=s.size:=by rw[ByteArray.toList_eq,Array.length_toList];rfl
 cases hl:s.toList with
 | nil=>
  rw[hl] at h
  have h2:s.size=0:=by simpa using h.symm
  rw[decide_eq_true h2]
  rfl
 | cons a l=>
  rw[hl] at h
  have h2:¬s.size=0:=by simp at h;omega
  rw[decide_eq_false h2]
  rfl
theorem wordP_ok (s:ByteArray) (w:World) (hl:s.size<=1099511627776):
  Calls Tryz.prog 90 #[.string s] w fun e w'=>∃n:Nat,e=.returned (.int .i64 n)/\n<=s.size/\(n=s.size↔s.size=0\/wordB s=true)/\w'=w:=by
 by_cases h0:s.size=0
 ·have he:(s.toList==[])=true:=by rw[za7];simp[h0]
  go_enter Tryz.func90,Tryz.ntmps90
  go_wp2
  go_ret
  exact⟨0,rfl,by omega,by simp[h0],rfl⟩
 ·have he:(s.toList==[])=false:=by rw[za7];simp[h0]
  have hp:(0:Int)<s.size:=by omega
  have hp':0<s.size:=by omega
  have hb:=bt_eq hp'
  have hw0:Hid (lowB (bt s 0)=false->wordB s=false):=fun h=>by unfold wordB;simp[h]
  have hc0:=zg6 (bt s 0) w
  cases hl0:lowB (bt s 0) with
  | false=>
   rw[hl0] at hc0
   have hwf:=hw0.out hl0
   clear hw0 hl0
   go_enter Tryz.func90,Tryz.ntmps90
   go_wp2_with (go_at_call 174;with_reducible refine hc0.mono ?_;rintro e w1 ⟨rfl,rfl⟩)
   go_ret
   exact⟨0,rfl,by omega,⟨fun h=>absurd h.symm h0,fun h=>h.elim (fun h=>absurd h h0) (fun h=>by rw[hwf] at h;cases h)⟩,rfl⟩
  | true=>
   rw[hl0] at hc0
   have hw1:Hid ((∀i,i<s.size->(lowB (bt s i)||digB (bt s i))=true)->wordB s=true):=fun h=>by
    unfold wordB
    rw[decide_eq_true hp',hl0]
    simp only[Bool.true_and,List.all_eq_true]
    intro i hi
    exact h i (List.mem_range.1 hi)
   have hw2:Hid (∀i,i<s.size->(lowB (bt s i)||digB (bt s i))=false->wordB s=false):=fun i hi h=>by
    unfold wordB
    have:((List.range s.size).all fun i=>lowB (bt s i)||digB (bt s i))=false:=by
     rw[List.all_eq_false]
     exact⟨i,List.mem_range.2 hi,by rw[h];simp⟩
    rw[this]
    simp
   have iM:Hid (lowB (bt s 0)=true):=hl0
   clear hw0 hl0
   go_enter Tryz.func90,Tryz.ntmps90
   go_wp2_with (go_at_call 174;with_reducible refine hc0.mono ?_;rintro e w1 ⟨rfl,hw⟩;subst w1)
   clear hb hc0
   go_loop [3] (fun v=>∃k:Nat,1<=k/\k<=s.size/\v=.int .i64 k/\Hid (∀i,i<k->(lowB (bt s i)||digB (bt s i))=true)) (fun v=>s.size - (intOf v).toNat)
   case atStart=>exact⟨1,Nat.le_refl _,hp',rfl,fun i hi=>by
    have:i=0:=by omega
    subst this
    rw[iM.out];rfl⟩
   case round=>
    obtain⟨k,hk1,hk,rfl,hz⟩:=hrel
    by_cases hlt:k<s.size
    ·have aF:(k:Int)<s.size:=by omega
     have hb:=bt_eq hlt
     have hc:=zg6 (bt s k) w
     have hd:=isdig_ok (bt s k) w
     cases h1:lowB (bt s k) with
     | true=>
      rw[h1] at hc
      have h1':Hid (lowB (bt s k)=true):=h1
      clear h1 hd
      go_wp2_with (go_at_call 174;with_reducible refine hc.mono ?_;rintro e w1 ⟨rfl,hw⟩;subst w1)
      go_round
      case rel=>
       refine⟨k+1,by omega,by omega,by go_num,fun i hi=>?_⟩
       rcases Nat.lt_or_ge i k with h | h
       ·exact hz.out i h
       ·have:i=k:=by omega
        subst this
        rw[h1'.out];rfl
      case measure=>simp[intOf];omega
     | false=>
      rw[h1] at hc
      cases h2:digB (bt s k) with
      | true=>
       rw[h2] at hd
       have h2':Hid (digB (bt s k)=true):=h2
       clear h1 h2
       go_wp2_with (first
        | (go_at_call 174;with_reducible refine hc.mono ?_;rintro e w1 ⟨rfl,hw⟩;subst w1)
        | (go_at_call 175;with_reducible refine hd.mono ?_;rintro e w1 ⟨rfl,hw⟩;subst w1))
       go_round
       case rel=>
        refine⟨k+1,by omega,by omega,by go_num,fun i hi=>?_⟩
        rcases Nat.lt_or_ge i k with h | h
        ·exact hz.out i h
        ·have:i=k:=by omega
         subst this
         rw[h2'.out,Bool.or_true]
       case measure=>simp[intOf];omega
      | false=>
       rw[h2] at hd
       have hwf:=hw2.out k hlt (by rw[h1,h2];rfl)
       clear h1 h2
       go_wp2_with (first
        | (go_at_call 174;with_reducible refine hc.mono ?_;rintro e w1 ⟨rfl,hw⟩;subst w1)
        | (go_at_call 175;with_reducible refine hd.mono ?_;rintro e w1 ⟨rfl,hw⟩;subst w1))
       go_ret
       exact⟨k,rfl,by omega,⟨fun h=>absurd h (by omega),fun h=>h.elim (fun h=>absurd h h0) (fun h=>by rw[hwf] at h;cases h)⟩,rfl⟩
    ·obtain rfl:k=s.size:=by omega
     have hwt:Hid _:=hw1.out hz.out
     go_wp2
     go_ret
     exact⟨s.size,rfl,Nat.le_refl _,⟨fun _=>hwt.out,fun _=>rfl⟩,rfl⟩
end Go.Proofs.YtnnhofmknilopaaGreatDoor
namespace Go.Proofs.YtnnhofmknilopaaGreatDoor
open Go Go.Proofs.YtnnhofmknilopaaGreatDoor.Gx Go.RowKit
set_option maxRecDepth 100000
set_option maxHeartbeats 16000000
def nameB (s:ByteArray):Bool:=decide (s.size<=8)&&(wordB s&&!decide (s.toList∈resL))
theorem ze4 (s:ByteArray):(Value.string s)=.string ⟨s.toList.toArray⟩:=by
 rw[ByteArray.toList_eq]
theorem zbq {w:World} {x:AV} {v:Value} (h:VRel (fun _=>False) w phi0 x v):LRel (fun _=>False) w phi0 [x] #[v].toList:=LRel.cons h .nil
theorem zi5 {w:World} {x y:AV} {v u:Value} (h:VRel (fun _=>False) w phi0 x v) (h2:VRel (fun _=>False) w phi0 y u):LRel (fun _=>False) w phi0 [x,y] #[v,u].toList:=LRel.cons h (LRel.cons h2 .nil)
theorem zia (s:ByteArray) (w:World):Calls Tryz.prog 91 #[.string s] w (Rt w (.bool (decide (s.toList∈resL)))):=by
 rw[ze4]
 by_cases h:s.toList∈resL
 ·refine(ze3 (f:=91) (args:=[.str s.toList]) (v:=.bool true) (List.mem_append_left _ (List.mem_map.2 ⟨_,h,rfl⟩)) (zbq (.str _))).mono ?_
  rintro e w' ⟨⟨u,rfl,hu⟩,hb⟩
  rw[hu.bool_inv,decide_eq_true h]
  exact⟨rfl,hb⟩
 ·refine(ze3 (f:=91) (args:=[.ostr resL]) (v:=.bool false) (List.mem_append_right _ (List.mem_append_right _ (List.mem_append_right _ (List.mem_append_right _ (List.mem_append_right _ (by unfold kT6;simp)))))) (zbq (.ostr h))).mono ?_
  rintro e w' ⟨⟨u,rfl,hu⟩,hb⟩
  rw[hu.bool_inv,decide_eq_false h]
  exact⟨rfl,hb⟩
theorem zlg (s:ByteArray) (w:World):Calls Tryz.prog 44 #[.string s] w (Rt w (.bool (nameB s))):=by
 unfold nameB
 by_cases h8:s.size<=8
 ·have h8':(s.size:Int)<=8:=by omega
  have hw:=wordP_ok s w (by omega)
  have hr:=zia s w
  rw[decide_eq_true h8]
  by_cases h0:s.size=0
  ·have he:(s.toList==[])=true:=by rw[za7,decide_eq_true h0]
   have hwf:wordB s=false:=by unfold wordB;rw[decide_eq_false (by omega)];rfl
   rw[hwf]
   clear hr hwf
   go_enter Tryz.func44,Tryz.ntmps44
   go_wp2_with (go_at_call 90;with_reducible refine hw.mono ?_;rintro e w1 ⟨n,rfl,hn1,hn2,hw1⟩;subst w1
                have hn:n=0:=by omega
                subst hn
                clear hn1 hn2)
   go_ret
   exact⟨rfl,Below.refl _ _⟩
  ·have he:(s.toList==[])=false:=by rw[za7,decide_eq_false h0]
   cases hb:wordB s with
   | true=>
    go_enter Tryz.func44,Tryz.ntmps44
    go_wp2_with (first
     | (go_at_call 90;with_reducible refine hw.mono ?_;rintro e w1 ⟨n,rfl,hn1,hn2,hw1⟩;subst w1
        have hn:((n:Int)==(s.size:Int))=true:=by
         have:=hn2.2 (.inr hb)
         simp;omega
        clear hn1 hn2)
     | (go_at_call 91;with_reducible refine hr.mono ?_;rintro e w2 ⟨rfl,hb2⟩))
    go_ret
    exact⟨by simp,hb2⟩
   | false=>
    go_enter Tryz.func44,Tryz.ntmps44
    go_wp2_with (go_at_call 90;with_reducible refine hw.mono ?_;rintro e w1 ⟨n,rfl,hn1,hn2,hw1⟩;subst w1
                 have hn:((n:Int)==(s.size:Int))=false:=by
                  have:¬n=s.size:=fun h=>(hn2.1 h).elim h0 (fun h=>by rw[hb] at h;cases h)
                  simp;omega
                 clear hn1 hn2)
    go_ret
    exact⟨rfl,Below.refl _ _⟩
 ·have h8':¬(s.size:Int)<=8:=by omega
  rw[decide_eq_false h8]
  go_enter Tryz.func44,Tryz.ntmps44
  go_wp2
  go_ret
  exact⟨rfl,Below.refl _ _⟩
theorem zcv (s:ByteArray) (w:World):Calls Tryz.prog 22 #[.string s] w (Rt w (.bool (nameB s))):=by
 have h:=zlg s w
 go_enter Tryz.func22,Tryz.ntmps22
 go_wp2_with (go_at_call 44;with_reducible refine h.mono ?_;rintro e w1 ⟨rfl,hb⟩)
 go_ret
 exact⟨rfl,hb⟩
theorem wordQ_ok (s:ByteArray) (w:World) (hl:s.size<=1099511627776):
  Calls Tryz.prog 103 #[.string s] w fun e w'=>e=.returned (.bool (wordB s))/\w'=w:=by
 have hw1:Hid ((∀i,i<s.size->(lowB (bt s i)||digB (bt s i))=true)->(0<s.size->lowB (bt s 0)=true)->wordB s=decide (0<s.size)):=fun h h2=>by
  unfold wordB
  have:((List.range s.size).all fun i=>lowB (bt s i)||digB (bt s i))=true:=by
   rw[List.all_eq_true]
   intro i hi
   exact h i (List.mem_range.1 hi)
  rw[this]
  by_cases h0:0<s.size
  ·rw[decide_eq_true h0,h2 h0];rfl
  ·rw[decide_eq_false h0];rfl
 have hw2:Hid (∀i,i<s.size->(lowB (bt s i)||digB (bt s i))=false->wordB s=false):=fun i hi h=>by
  unfold wordB
  have:((List.range s.size).all fun i=>lowB (bt s i)||digB (bt s i))=false:=by
   rw[List.all_eq_false]
   exact⟨i,List.mem_range.2 hi,by rw[h];simp⟩
  rw[this]
  simp
 have hw3:Hid (lowB (bt s 0)=false->wordB s=false):=fun h=>by
  unfold wordB
  rw[h];simp
 obtain⟨R,hR⟩:∃R,Hid (wordB s=R):=⟨_,rfl⟩
 rw[hR.out]
 go_enter Tryz.func103,Tryz.ntmps103
 go_wp2
 go_loop [3,4] (fun v _=>∃k:Nat,k<=s.size/\v=.int .i64 k/\Hid ((∀i,i<k->(lowB (bt s i)||digB (bt s i))=true)/\(0<k->lowB (bt s 0)=true))) (fun v _=>s.size - (intOf v).toNat)
 case atStart=>exact⟨0,Nat.zero_le _,rfl,fun i hi=>by omega,fun h=>by omega⟩
 case round=>
  obtain⟨k,hk,rfl,hz⟩:=hrel
  by_cases hlt:k<s.size
  ·have aF:(k:Int)<s.size:=by omega
   have hb:=bt_eq hlt
   have aa:Hid ((lowB (bt s k)=true\/0<k/\digB (bt s k)=true)->(∀i,i<k+1->(lowB (bt s i)||digB (bt s i))=true)/\(0<k+1->lowB (bt s 0)=true)):=fun h=>by
    refine⟨fun i hi=>?_,fun _=>?_⟩
    ·rcases Nat.lt_or_ge i k with h2 | h2
     ·exact hz.out.1 i h2
     ·have:i=k:=by omega
      subst this
      rcases h with h | h
      ·rw[h];rfl
      ·rw[h.2,Bool.or_true]
    ·rcases Nat.eq_zero_or_pos k with h2 | h2
     ·subst h2
      exact h.elim id (fun h=>absurd h.1 (by omega))
     ·exact hz.out.2 h2
   have eP:Hid (lowB (bt s k)=false->(k=0\/digB (bt s k)=false)->R=false):=fun h1 h2=>by
    rw[<-hR.out]
    rcases h2 with h2 | h2
    ·subst h2;exact hw3.out h1
    ·exact hw2.out k hlt (by rw[h1,h2];rfl)
   clear hz
   generalize hc:bt s k=c at*
   have hc':Hid (bt s k=c):=hc
   clear hc
   have tail:(¬97<=c\/¬c<=122)->Hid (lowB c=false):=fun h=>(by unfold lowB;rcases h with h | h<;>simp[h]:lowB c=false)
   have dg:(¬48<=c\/¬c<=57)->Hid (digB c=false):=fun h=>(by unfold digB;rcases h with h | h<;>simp[h]:digB c=false)
   have dg1:48<=c->c<=57->Hid (digB c=true):=fun h1 h2=>(by unfold digB;simp[h1,h2]:digB c=true)
   by_cases h1:97<=c
   ·have h1':(c:Int)>=97:=by omega
    by_cases h2:c<=122
    ·have h2':(c:Int)<=122:=by omega
     have hl:Hid (lowB c=true):=(by unfold lowB;simp[h1,h2]:lowB c=true)
     go_wp2
     go_round
     case rel=>exact⟨k+1,by omega,by go_num,aa.out (.inl hl.out)⟩
     case measure=>simp[intOf];omega
    ·have h2':¬(c:Int)<=122:=by omega
     have hl:=tail (.inr h2)
     have hd:=dg (.inr (by omega))
     have hRf:=eP.out hl.out (.inr hd.out)
     have h3:¬(c:Int)<48:=by omega
     have h4:(c:Int) > 57:=by omega
     subst hRf
     by_cases hk0:k=0
     ·subst hk0
      go_wp2
      go_ret
      exact⟨rfl,rfl⟩
     ·have hk1:((k:Int)==0)=false:=by simp;omega
      go_wp2
      go_ret
      exact⟨rfl,rfl⟩
   ·have h1':¬(c:Int)>=97:=by omega
    have hl:=tail (.inl h1)
    by_cases hk0:k=0
    ·have hRf:=eP.out hl.out (.inl hk0)
     subst hRf
     subst hk0
     go_wp2
     go_ret
     exact⟨rfl,rfl⟩
    ·have hk1:((k:Int)==0)=false:=by simp;omega
     by_cases h3:c<48
     ·have h3':(c:Int)<48:=by omega
      have hRf:=eP.out hl.out (.inr (dg (.inl (by omega))).out)
      subst hRf
      go_wp2
      go_ret
      exact⟨rfl,rfl⟩
     ·have h3':¬(c:Int)<48:=by omega
      by_cases h4:c<=57
      ·have h4':¬(c:Int) > 57:=by omega
       go_wp2
       go_round
       case rel=>exact⟨k+1,by omega,by go_num,aa.out (.inr ⟨by omega,(dg1 (by omega) h4).out⟩)⟩
       case measure=>simp[intOf];omega
      ·have h4':(c:Int) > 57:=by omega
       have hRf:=eP.out hl.out (.inr (dg (.inr h4)).out)
       subst hRf
       go_wp2
       go_ret
       exact⟨rfl,rfl⟩
  ·obtain rfl:k=s.size:=by omega
   have hwt:=hw1.out hz.out.1 hz.out.2
   rw[hR.out] at hwt
   have iN:Hid (R=decide (0<s.size)):=hwt
   clear hwt
   go_wp2
   go_ret
   exact⟨by rw[iN.out];simp,rfl⟩
theorem resL_get {j:Nat} (hj:j<19):(resL.map AV.str)[j]?=some (.str (resL.getD j [])):=by
 have hl:resL.length=19:=rfl
 rw[List.getElem?_map,List.getElem?_eq_getElem (by omega)]
 simp[List.getD,List.getElem?_eq_getElem (by omega:j<resL.length)]
theorem resQ_ok (w:World):Calls Tryz.prog 104 #[] w fun e w'=>∃b o cap,e=.returned (.slice (some ⟨b,o,none⟩) 19 cap)/\(∀i,i<19->w'.cell? ⟨b,o+i,none⟩=some (.string ⟨(resL.getD i []).toArray⟩))/\Below w.heap.size w w':=by
 refine(ze3 (f:=104) (args:=[]) (v:=.isl 19 (resL.map .str) (some 19)) (List.mem_append_right _ (List.mem_append_right _ (List.mem_append_right _ (List.mem_append_right _ (List.mem_append_right _ (by unfold kT6;simp)))))) .nil).mono ?_
 rintro e w' ⟨⟨u,rfl,hu⟩,hb⟩
 cases hu with
 | @isl _ _ _ _ a ccap vs hx hl hbk hc hv=>
  obtain⟨ab,ao,asp⟩:=a
  have hsp:=(hbk (by simp[resL])).2
  simp only at hsp
  subst hsp
  refine⟨ab,ao,ccap,rfl,fun i hi=>?_,hb⟩
  have h1:=resL_get hi
  have h2:=hv i _ h1
  rw[hc i _ h1,h2.str_inv]
theorem resL_end {s:ByteArray} (h:∀j,j<19->resL.getD j []≠s.toList):s.toList∉resL:=fun hm=>by
 obtain⟨j,hj,he⟩:=List.getElem_of_mem hm
 have hl:resL.length=19:=rfl
 refine h j (by omega) ?_
 simp[List.getD,List.getElem?_eq_getElem hj,he]
theorem resL_hit {s:ByteArray} {j:Nat} (hj:j<19) (h:resL.getD j []=s.toList):s.toList∈resL:=by
 have hl:resL.length=19:=rfl
 rw[<-h]
 simp[List.getD,List.getElem?_eq_getElem (by omega:j<resL.length)]
theorem zcw (s:ByteArray) (w:World):Calls Tryz.prog 55 #[.string s] w (Rt w (.bool (nameB s))):=by
 have hr:=resQ_ok w
 by_cases h8:s.size<=8
 ·have h8':¬(s.size:Int) > 8:=by omega
  have hw:=wordQ_ok s w (by omega)
  cases hb:wordB s with
  | false=>
   have hn:nameB s=false:=by unfold nameB;rw[hb];simp
   rw[hn]
   rw[hb] at hw
   clear hr hn
   go_enter Tryz.func55,Tryz.ntmps55
   go_wp2_with (go_at_call 103;with_reducible refine hw.mono ?_;rintro e w1 ⟨rfl,hw1⟩;subst w1)
   go_ret
   exact⟨rfl,Below.refl _ _⟩
  | true=>
   have hn:nameB s=!decide (s.toList∈resL):=by unfold nameB;rw[hb,decide_eq_true h8];rfl
   rw[hn]
   rw[hb] at hw
   obtain⟨R,hR⟩:∃R,Hid ((!decide (s.toList∈resL))=R):=⟨_,rfl⟩
   rw[hR.out]
   clear hn
   go_enter Tryz.func55,Tryz.ntmps55
   go_wp2_with (first
    | (go_at_call 103;with_reducible refine hw.mono ?_;rintro e w1 ⟨rfl,hw1⟩;subst w1)
    | (go_at_call 104;with_reducible refine hr.mono ?_;rintro e w2 ⟨b,o,cap,rfl,hc,hb2⟩
       have hc':=zab hc
       clear hc))
   go_loop [4] (fun v=>∃k:Nat,k<=19/\v=.int .i64 k/\Hid (∀j,j<k->resL.getD j []≠s.toList)) (fun v=>19 - (intOf v).toNat)
   case atStart=>exact⟨0,Nat.zero_le _,rfl,fun j hj=>by omega⟩
   case round=>
    obtain⟨k,hk,rfl,hz⟩:=hrel
    by_cases hlt:k<19
    ·have aF:(k:Int)<19:=by omega
     have c0:=hc'.out k hlt
     by_cases he:resL.getD k []=s.toList
     ·have hRf:R=false:=by rw[<-hR.out,decide_eq_true (resL_hit hlt he)];rfl
      subst hRf
      have he':(resL.getD k []==s.toList)=true:=beq_iff_eq.2 he
      clear he
      generalize resL.getD k []=L at*
      go_wp2
      go_ret
      exact⟨rfl,hb2⟩
     ·have he':(resL.getD k []==s.toList)=false:=beq_eq_false_iff_ne.2 he
      have hz':Hid (∀j,j<k+1->resL.getD j []≠s.toList):=fun j hj=>by
       rcases Nat.lt_or_ge j k with h | h
       ·exact hz.out j h
       ·have:j=k:=by omega
        subst this;exact he
      clear he hz
      generalize resL.getD k []=L at*
      go_wp2
      go_round
      case rel=>exact⟨k+1,by omega,by go_num,hz'⟩
      case measure=>simp[intOf];omega
    ·obtain rfl:k=19:=by omega
     have hRt:R=true:=by rw[<-hR.out,decide_eq_false (resL_end hz.out)];rfl
     subst hRt
     clear hz
     go_wp2
     go_ret
     exact⟨rfl,hb2⟩
 ·have h8':(s.size:Int) > 8:=by omega
  have hn:nameB s=false:=by unfold nameB;rw[decide_eq_false h8];rfl
  rw[hn]
  go_enter Tryz.func55,Tryz.ntmps55
  go_wp2
  go_ret
  exact⟨rfl,Below.refl _ _⟩
def kidsI (k:Int):Int:=match kK.find? (fun x=>x.1==k) with | some x=>x.2 | none=>-1
def loA (k:Int):Int:=if k=9 then -32 else if k=10 then 2 else if k=11 then 1 else 0
def hiA (k:Int):Int:=if k=9 then 32 else if k=10 then 8 else if k=11 then 8 else 0
def nodeOk (k f:Int) (ng:Bool) (X Y:Int) (m:ByteArray) (n:Nat):Bool:=
 decide (kidsI k=n)&&(decide (loA k<=f)&&decide (f<=hiA k))&&(if k=1 then(!large X Y&&decide (0<=sgnQ ng X Y))&&decide (m.size=0) else decide (X=0)&&(if k=2 then nameB m else decide (m.size=0)))
theorem zc6 (k:Int):(∃x∈kK,x.1=k/\kidsI k=x.2/\0<=x.2)\/(kidsI k=-1/\∀x∈kK,x.1≠k):=by
 unfold kidsI
 cases h:kK.find? (fun x=>x.1==k) with
 | some x=>
  have h1:=List.find?_some h
  have h2:=List.mem_of_find?_eq_some h
  have h3:∀x∈kK,0<=x.2:=by decide
  exact .inl ⟨x,h2,by simpa using h1,rfl,h3 x h2⟩
 | none=>
  rw[List.find?_eq_none] at h
  exact .inr ⟨rfl,fun x hx e=>h x hx (by simp[e])⟩
theorem kids_ok (k:Int) (w:World):Calls Tryz.prog 320 #[.int .i64 k] w (Rt w (.tuple #[.int .i64 (if kidsI k<0 then 0 else kidsI k),.bool (decide (0<=kidsI k))])):=by
 rcases zc6 k with⟨x,hx,rfl,he,h0⟩ | ⟨he,hn⟩
 ·rw[he,if_neg (by omega),decide_eq_true h0]
  refine(ze3 (f:=320) (args:=[.int .i64 x.1]) (v:=.tup [.int .i64 x.2,.bool true]) (List.mem_append_right _ (List.mem_append_left _ (List.mem_map.2 ⟨_,hx,rfl⟩))) (zbq (.int _ _))).mono ?_
  rintro e w' ⟨⟨u,rfl,hu⟩,hb⟩
  obtain⟨vs,rfl,hl⟩:=hu.tup_inv
  obtain⟨v1,r1,e1,hv1,hl1⟩:=LRel.inv_cons hl
  obtain⟨v2,r2,rfl,hv2,hl2⟩:=LRel.inv_cons hl1
  obtain rfl:=LRel.inv_nil hl2
  rw[arr_of_list e1,hv1.int_inv,hv2.bool_inv]
  exact⟨rfl,hb⟩
 ·rw[he]
  simp only[kK,List.mem_cons,List.not_mem_nil,or_false,forall_eq_or_imp,forall_eq] at hn
  obtain⟨h1,h2,h3,h4,h5,h6,h7,h8,h9,h10,h11,h12,h13,h14,h15⟩:=hn
  have n1:(k==1)=false:=by simp;omega
  have n2:(k==2)=false:=by simp;omega
  have n3:(k==3)=false:=by simp;omega
  have n4:(k==4)=false:=by simp;omega
  have n5:(k==5)=false:=by simp;omega
  have n6:(k==6)=false:=by simp;omega
  have n7:(k==7)=false:=by simp;omega
  have n8:(k==8)=false:=by simp;omega
  have n9:(k==9)=false:=by simp;omega
  have n10:(k==10)=false:=by simp;omega
  have n11:(k==11)=false:=by simp;omega
  have n12:(k==12)=false:=by simp;omega
  have n13:(k==13)=false:=by simp;omega
  have n14:(k==14)=false:=by simp;omega
  have n15:(k==15)=false:=by simp;omega
  clear h1 h2 h3 h4 h5 h6 h7 h8 h9 h10 h11 h12 h13 h14 h15 he
  go_enter Tryz.func320,Tryz.ntmps320
  go_wp2
  go_ret2
  exact⟨rfl,Below.refl _ _⟩
theorem kidsQ_ok (k:Int) (w:World):Calls Tryz.prog 388 #[.int .i64 k] w fun e w'=>e=.returned (.int .i64 (kidsI k))/\w'=w:=by
 rcases zc6 k with⟨x,hx,rfl,he,h0⟩ | ⟨he,hn⟩
 ·rw[he]
  have aB:∀x∈kK,x=(1,0)\/x=(2,0)\/x=(3,0)\/x=(4,1)\/x=(5,2)\/x=(6,2)\/x=(7,2)\/x=(8,2)\/x=(9,1)\/x=(10,1)\/x=(11,1)\/x=(12,1)\/x=(13,2)\/x=(14,2)\/x=(15,3):=by decide
  clear he
  rcases aB x hx with rfl | rfl | rfl | rfl | rfl | rfl | rfl | rfl | rfl | rfl | rfl | rfl | rfl | rfl | rfl<;>
  ·clear hx aB h0
   go_enter Tryz.func388,Tryz.ntmps388
   go_wp2
   go_ret
   exact⟨rfl,rfl⟩
 ·rw[he]
  simp only[kK,List.mem_cons,List.not_mem_nil,or_false,forall_eq_or_imp,forall_eq] at hn
  obtain⟨h1,h2,h3,h4,h5,h6,h7,h8,h9,h10,h11,h12,h13,h14,h15⟩:=hn
  have n1:(k==1)=false:=by simp;omega
  have n2:(k==2)=false:=by simp;omega
  have n3:(k==3)=false:=by simp;omega
  have n4:(k==4)=false:=by simp;omega
  have n5:(k==5)=false:=by simp;omega
  have n6:(k==6)=false:=by simp;omega
  have n7:(k==7)=false:=by simp;omega
  have n8:(k==8)=false:=by simp;omega
  have n9:(k==9)=false:=by simp;omega
  have n10:(k==10)=false:=by simp;omega
  have n11:(k==11)=false:=by simp;omega
  have n12:(k==12)=false:=by simp;omega
  have n13:(k==13)=false:=by simp;omega
  have n14:(k==14)=false:=by simp;omega
  have n15:(k==15)=false:=by simp;omega
  clear h1 h2 h3 h4 h5 h6 h7 h8 h9 h10 h11 h12 h13 h14 h15 he
  go_enter Tryz.func388,Tryz.ntmps388
  go_wp2
  go_ret
  exact⟨rfl,rfl⟩
end Go.Proofs.YtnnhofmknilopaaGreatDoor
