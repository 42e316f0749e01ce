import Derived.Shelf.Strings.Builder1
import Derived.Shelf.Strings.OnBuilder
import Derived.Shelf.Strconv.Itoa3
import Derived.Shelf.RegionOpenPlain
import Derived.Deep.LoopGhost
import Derived.Lib.Walk
import Derived.Sort.WalkB12
import Derived.Lib.SlicesMore
import Derived.Lib.OwnBridge
import Derived.Test.YtnnhofmknilopaaGreatDoorPk13
namespace Go.Proofs.YtnnhofmknilopaaGreatDoor
open Go Go.Shelf Go.RowKit
def lays169_ren:Go.Shelf.Ren:=⟨fun | 169=>11 | n=>n,fun | 70=>40 | 9=>9 | 0=>0 | 72=>43 | 37=>41 | 127=>81 | 3=>3 | 5=>5 | n=>n,fun | n=>n⟩
theorem lays169:Go.Proofs.Lays.n169 Tryz.prog lays169_ren:={
 mixed:=by kernel_rfl
 f169:=Tryz.func11.trans (congrArg some (by kernel_rfl))
 t0:=Tryz.underlying0
 a0:=Tryz.isAgg0
 z0:=Tryz.sizeOf0
 v0:=Tryz.zeroValue0
 t3:=Tryz.underlying3
 a3:=Tryz.isAgg3
 z3:=Tryz.sizeOf3
 v3:=Tryz.zeroValue3
 t9:=Tryz.underlying9
 a9:=Tryz.isAgg9
 z9:=Tryz.sizeOf9
 v9:=Tryz.zeroValue9
 t37:=Tryz.underlying41
 a37:=Tryz.isAgg41
 z37:=Tryz.sizeOf41
 v37:=Tryz.zeroValue41
 t70:=Tryz.underlying40
 a70:=Tryz.isAgg40
 z70:=Tryz.sizeOf40
 v70:=Tryz.zeroValue40
 t72:=Tryz.underlying43
 a72:=Tryz.isAgg43
 z72:=Tryz.sizeOf43
 v72:=Tryz.zeroValue43
 t127:=Tryz.underlying81
 a127:=Tryz.isAgg81
 z127:=Tryz.sizeOf81
 v127:=Tryz.zeroValue81 }
theorem zd4:Builder.Extra Tryz.prog lays169_ren:={
 sizeBuilder:=by kernel_rfl
 liesBuilder:=by kernel_rfl
 t5:=Tryz.underlying5
 a5:=Tryz.isAgg5
 z5:=Tryz.sizeOf5
 v5:=Tryz.zeroValue5
 infoByte:=by kernel_rfl
 cellsByte:=by kernel_rfl
 sizeByte:=by kernel_rfl
 neB5:=by decide }
def lays156_ren:Go.Shelf.Ren:=⟨fun | 156=>49 | 165=>97 | 166=>28 | 169=>11 | 240=>50 | 241=>181 | 276=>98 | 277=>297 | n=>n,fun | 31=>109 | 9=>9 | 3=>3 | 4=>4 | 0=>0 | 20=>20 | 72=>43 | 76=>78 | 70=>40 | 37=>41 | 75=>77 | 127=>81 | 164=>133 | 5=>5 | 80=>45 | n=>n,fun | n=>n⟩
theorem zla:Go.Proofs.Lays.n156 Tryz.prog lays156_ren:={
 mixed:=by kernel_rfl
 f156:=Tryz.func49.trans (congrArg some (by kernel_rfl))
 f165:=Tryz.func97.trans (congrArg some (by kernel_rfl))
 f166:=Tryz.func28.trans (congrArg some (by kernel_rfl))
 f169:=Tryz.func11.trans (congrArg some (by kernel_rfl))
 f240:=Tryz.func50.trans (congrArg some (by kernel_rfl))
 f241:=Tryz.func181.trans (congrArg some (by kernel_rfl))
 f276:=Tryz.func98.trans (congrArg some (by kernel_rfl))
 f277:=Tryz.func297.trans (congrArg some (by kernel_rfl))
 t0:=Tryz.underlying0
 a0:=Tryz.isAgg0
 z0:=Tryz.sizeOf0
 v0:=Tryz.zeroValue0
 t3:=Tryz.underlying3
 a3:=Tryz.isAgg3
 z3:=Tryz.sizeOf3
 v3:=Tryz.zeroValue3
 t4:=Tryz.underlying4
 a4:=Tryz.isAgg4
 z4:=Tryz.sizeOf4
 v4:=Tryz.zeroValue4
 t9:=Tryz.underlying9
 a9:=Tryz.isAgg9
 z9:=Tryz.sizeOf9
 v9:=Tryz.zeroValue9
 t20:=Tryz.underlying20
 a20:=Tryz.isAgg20
 z20:=Tryz.sizeOf20
 v20:=Tryz.zeroValue20
 t31:=Tryz.underlying109
 a31:=Tryz.isAgg109
 z31:=Tryz.sizeOf109
 v31:=Tryz.zeroValue109
 t37:=Tryz.underlying41
 a37:=Tryz.isAgg41
 z37:=Tryz.sizeOf41
 v37:=Tryz.zeroValue41
 t70:=Tryz.underlying40
 a70:=Tryz.isAgg40
 z70:=Tryz.sizeOf40
 v70:=Tryz.zeroValue40
 t72:=Tryz.underlying43
 a72:=Tryz.isAgg43
 z72:=Tryz.sizeOf43
 v72:=Tryz.zeroValue43
 t75:=Tryz.underlying77
 a75:=Tryz.isAgg77
 z75:=Tryz.sizeOf77
 v75:=Tryz.zeroValue77
 t76:=Tryz.underlying78
 a76:=Tryz.isAgg78
 z76:=Tryz.sizeOf78
 v76:=Tryz.zeroValue78
 t127:=Tryz.underlying81
 a127:=Tryz.isAgg81
 z127:=Tryz.sizeOf81
 v127:=Tryz.zeroValue81
 t164:=Tryz.underlying133
 a164:=Tryz.isAgg133
 z164:=Tryz.sizeOf133
 v164:=Tryz.zeroValue133 }
theorem zb8:Builder.Extra Tryz.prog lays156_ren:={
 sizeBuilder:=by kernel_rfl
 liesBuilder:=by kernel_rfl
 t5:=Tryz.underlying5
 a5:=Tryz.isAgg5
 z5:=Tryz.sizeOf5
 v5:=Tryz.zeroValue5
 infoByte:=by kernel_rfl
 cellsByte:=by kernel_rfl
 sizeByte:=by kernel_rfl
 neB5:=by decide }
theorem zg1 (a:Option Addr) (c:Nat) (sep:ByteArray) (w:World):
 Calls Tryz.prog 49 #[.slice a 0 c,.string sep] w fun e w'=>e=.returned (.string ⟨#[]⟩)/\w'=w:=Any.strings_Join_none zla zb8 a c sep w
theorem strJoin (bk o c:Nat) (xs:List ByteArray) (sep:ByteArray) (w:World) (bm:∀(j:Nat) x,xs[j]?=some x->w.cell? ⟨bk,o+j,none⟩=some (.string x)) (hbk:bk<w.heap.size) (hN:xs.length<=140737488355328) (aD:xs.length<=c) (ae:(Lib.join (xs.map (·.data.toList)) sep.data.toList).length<=140737488355328):
 Calls Tryz.prog 49 #[.slice (some ⟨bk,o,none⟩) xs.length c,.string sep] w (Rt w (.string ⟨(Lib.join (xs.map (·.data.toList)) sep.data.toList).toArray⟩)):=Any.strings_Join zla zb8 bk o c xs sep w bm hbk hN aD ae
def laysM171_ren:Go.Shelf.Ren:=⟨fun | 171=>47 | 243=>92 | 246=>177 | 283=>290 | 284=>291 | 285=>292 | 286=>293 | 129=>383 | 317=>382 | 318=>384 | 319=>385 | 320=>386 | 337=>399 | 338=>458 | n=>n,fun | 3=>3 | 9=>9 | 2=>2 | 4=>4 | 171=>353 | 0=>0 | 53=>121 | 37=>41 | 5=>5 | 173=>356 | 212=>433 | 51=>150 | 20=>20 | 213=>434 | 46=>252 | 232=>479 | 233=>508 | n=>n,fun | 17=>0 | 18=>2 | 19=>3 | n=>n⟩
theorem laysM171:Go.Proofs.LaysM.n171 Tryz.prog laysM171_ren:={
 mixed:=by kernel_rfl
 f129:=Tryz.func383.trans (congrArg some (by kernel_rfl))
 f171:=Tryz.func47.trans (congrArg some (by kernel_rfl))
 f243:=Tryz.func92.trans (congrArg some (by kernel_rfl))
 f246:=Tryz.func177.trans (congrArg some (by kernel_rfl))
 f283:=Tryz.func290.trans (congrArg some (by kernel_rfl))
 f284:=Tryz.func291.trans (congrArg some (by kernel_rfl))
 f285:=Tryz.func292.trans (congrArg some (by kernel_rfl))
 f286:=Tryz.func293.trans (congrArg some (by kernel_rfl))
 f317:=Tryz.func382.trans (congrArg some (by kernel_rfl))
 f318:=Tryz.func384.trans (congrArg some (by kernel_rfl))
 f319:=Tryz.func385.trans (congrArg some (by kernel_rfl))
 f320:=Tryz.func386.trans (congrArg some (by kernel_rfl))
 f337:=Tryz.func399.trans (congrArg some (by kernel_rfl))
 f338:=Tryz.func458.trans (congrArg some (by kernel_rfl))
 t0:=Tryz.underlying0
 a0:=Tryz.isAgg0
 z0:=Tryz.sizeOf0
 v0:=Tryz.zeroValue0
 t2:=Tryz.underlying2
 a2:=Tryz.isAgg2
 z2:=Tryz.sizeOf2
 v2:=Tryz.zeroValue2
 t3:=Tryz.underlying3
 a3:=Tryz.isAgg3
 z3:=Tryz.sizeOf3
 v3:=Tryz.zeroValue3
 t4:=Tryz.underlying4
 a4:=Tryz.isAgg4
 z4:=Tryz.sizeOf4
 v4:=Tryz.zeroValue4
 t5:=Tryz.underlying5
 a5:=Tryz.isAgg5
 z5:=Tryz.sizeOf5
 v5:=Tryz.zeroValue5
 t9:=Tryz.underlying9
 a9:=Tryz.isAgg9
 z9:=Tryz.sizeOf9
 v9:=Tryz.zeroValue9
 t20:=Tryz.underlying20
 a20:=Tryz.isAgg20
 z20:=Tryz.sizeOf20
 v20:=Tryz.zeroValue20
 t37:=Tryz.underlying41
 a37:=Tryz.isAgg41
 z37:=Tryz.sizeOf41
 v37:=Tryz.zeroValue41
 t46:=Tryz.underlying252
 a46:=Tryz.isAgg252
 z46:=Tryz.sizeOf252
 v46:=Tryz.zeroValue252
 t51:=Tryz.underlying150
 a51:=Tryz.isAgg150
 z51:=Tryz.sizeOf150
 v51:=Tryz.zeroValue150
 t53:=Tryz.underlying121
 a53:=Tryz.isAgg121
 z53:=Tryz.sizeOf121
 v53:=Tryz.zeroValue121
 t171:=Tryz.underlying353
 a171:=Tryz.isAgg353
 z171:=Tryz.sizeOf353
 v171:=Tryz.zeroValue353
 t173:=Tryz.underlying356
 a173:=Tryz.isAgg356
 z173:=Tryz.sizeOf356
 v173:=Tryz.zeroValue356
 t212:=Tryz.underlying433
 a212:=Tryz.isAgg433
 z212:=Tryz.sizeOf433
 v212:=Tryz.zeroValue433
 t213:=Tryz.underlying434
 a213:=Tryz.isAgg434
 z213:=Tryz.sizeOf434
 t232:=Tryz.underlying479
 a232:=Tryz.isAgg479
 z232:=Tryz.sizeOf479
 v232:=Tryz.zeroValue479
 t233:=Tryz.underlying508
 a233:=Tryz.isAgg508
 z233:=Tryz.sizeOf508
 v233:=Tryz.zeroValue508
 g17:=by kernel_rfl
 g18:=by kernel_rfl
 g19:=by kernel_rfl
 i0:=by kernel_rfl
 i2:=by kernel_rfl
 i3:=by kernel_rfl
 i4:=by kernel_rfl
 i5:=by kernel_rfl
 i9:=by kernel_rfl
 i20:=by kernel_rfl
 i37:=by kernel_rfl
 i46:=by kernel_rfl
 i51:=by kernel_rfl
 i53:=by kernel_rfl
 i171:=by kernel_rfl
 i173:=by kernel_rfl
 i212:=by kernel_rfl
 i232:=by kernel_rfl
 i233:=by kernel_rfl
 m17:=by kernel_rfl
 m18:=by kernel_rfl
 m19:=by kernel_rfl }
theorem itoaP (n:Int) (h0:-9223372036854775808<=n) (h1:n<=9223372036854775807) (w:World) (dU:Lib.TabIs Tryz.prog w "internal/strconv.uint64pow10" .u64 Lib.pow10Tab):
 Calls Tryz.prog 47 #[.int .i64 n] w fun e w'=>e=.returned (.string ⟨(Lib.itoa n).toArray⟩)/\∃k os,w'=Sort.grow (w.drewN k) os:=Any.strconv_Itoa laysM171 n h0 h1 w dU
def lays167_ren:Go.Shelf.Ren:=⟨fun | 167=>29 | 240=>50 | 276=>98 | n=>n,fun | 70=>40 | 72=>43 | 37=>41 | 75=>77 | 80=>45 | 164=>133 | n=>n,fun | n=>n⟩
theorem lays167:Go.Proofs.Lays.n167 Tryz.prog lays167_ren:={
 mixed:=by kernel_rfl
 f167:=Tryz.func29.trans (congrArg some (by kernel_rfl))
 f240:=Tryz.func50.trans (congrArg some (by kernel_rfl))
 f276:=Tryz.func98.trans (congrArg some (by kernel_rfl))
 t0:=Tryz.underlying0
 a0:=Tryz.isAgg0
 z0:=Tryz.sizeOf0
 v0:=Tryz.zeroValue0
 t4:=Tryz.underlying4
 a4:=Tryz.isAgg4
 z4:=Tryz.sizeOf4
 v4:=Tryz.zeroValue4
 t5:=Tryz.underlying5
 a5:=Tryz.isAgg5
 z5:=Tryz.sizeOf5
 v5:=Tryz.zeroValue5
 t9:=Tryz.underlying9
 a9:=Tryz.isAgg9
 z9:=Tryz.sizeOf9
 v9:=Tryz.zeroValue9
 t20:=Tryz.underlying20
 a20:=Tryz.isAgg20
 z20:=Tryz.sizeOf20
 v20:=Tryz.zeroValue20
 t37:=Tryz.underlying41
 a37:=Tryz.isAgg41
 z37:=Tryz.sizeOf41
 v37:=Tryz.zeroValue41
 t70:=Tryz.underlying40
 a70:=Tryz.isAgg40
 z70:=Tryz.sizeOf40
 v70:=Tryz.zeroValue40
 t72:=Tryz.underlying43
 a72:=Tryz.isAgg43
 z72:=Tryz.sizeOf43
 v72:=Tryz.zeroValue43
 t75:=Tryz.underlying77
 a75:=Tryz.isAgg77
 z75:=Tryz.sizeOf77
 v75:=Tryz.zeroValue77
 t164:=Tryz.underlying133
 a164:=Tryz.isAgg133
 z164:=Tryz.sizeOf133
 v164:=Tryz.zeroValue133 }
theorem zd5:Builder.Extra Tryz.prog lays167_ren:={
 sizeBuilder:=by kernel_rfl
 liesBuilder:=by kernel_rfl
 t5:=Tryz.underlying5
 a5:=Tryz.isAgg5
 z5:=Tryz.sizeOf5
 v5:=Tryz.zeroValue5
 infoByte:=by kernel_rfl
 cellsByte:=by kernel_rfl
 sizeByte:=by kernel_rfl
 neB5:=by decide }
def lays166_ren:Go.Shelf.Ren:=⟨fun | 166=>28 | 240=>50 | 276=>98 | n=>n,fun | 70=>40 | 72=>43 | 37=>41 | 75=>77 | 80=>45 | 164=>133 | n=>n,fun | n=>n⟩
theorem lays166:Go.Proofs.Lays.n166 Tryz.prog lays166_ren:={
 mixed:=by kernel_rfl
 f166:=Tryz.func28.trans (congrArg some (by kernel_rfl))
 f240:=Tryz.func50.trans (congrArg some (by kernel_rfl))
 f276:=Tryz.func98.trans (congrArg some (by kernel_rfl))
 t0:=Tryz.underlying0
 a0:=Tryz.isAgg0
 z0:=Tryz.sizeOf0
 v0:=Tryz.zeroValue0
 t3:=Tryz.underlying3
 a3:=Tryz.isAgg3
 z3:=Tryz.sizeOf3
 v3:=Tryz.zeroValue3
 t4:=Tryz.underlying4
 a4:=Tryz.isAgg4
 z4:=Tryz.sizeOf4
 v4:=Tryz.zeroValue4
 t9:=Tryz.underlying9
 a9:=Tryz.isAgg9
 z9:=Tryz.sizeOf9
 v9:=Tryz.zeroValue9
 t20:=Tryz.underlying20
 a20:=Tryz.isAgg20
 z20:=Tryz.sizeOf20
 v20:=Tryz.zeroValue20
 t37:=Tryz.underlying41
 a37:=Tryz.isAgg41
 z37:=Tryz.sizeOf41
 v37:=Tryz.zeroValue41
 t70:=Tryz.underlying40
 a70:=Tryz.isAgg40
 z70:=Tryz.sizeOf40
 v70:=Tryz.zeroValue40
 t72:=Tryz.underlying43
 a72:=Tryz.isAgg43
 z72:=Tryz.sizeOf43
 v72:=Tryz.zeroValue43
 t75:=Tryz.underlying77
 a75:=Tryz.isAgg77
 z75:=Tryz.sizeOf77
 v75:=Tryz.zeroValue77
 t164:=Tryz.underlying133
 a164:=Tryz.isAgg133
 z164:=Tryz.sizeOf133
 v164:=Tryz.zeroValue133 }
theorem zd6:Builder.Extra Tryz.prog lays166_ren:={
 sizeBuilder:=by kernel_rfl
 liesBuilder:=by kernel_rfl
 t5:=Tryz.underlying5
 a5:=Tryz.isAgg5
 z5:=Tryz.sizeOf5
 v5:=Tryz.zeroValue5
 infoByte:=by kernel_rfl
 cellsByte:=by kernel_rfl
 sizeByte:=by kernel_rfl
 neB5:=by decide }
theorem zjw (w:World) (os:Array Obj):Below w.heap.size w (Sort.grow w os):=
 ⟨rfl,rfl,rfl,by simp[Sort.grow],fun k hk=>by
  show(w.heap++os)[k]?=_
  rw[Array.getElem?_append_left hk]⟩
theorem zc5 (n:Int) (h0:-9223372036854775808<=n) (h1:n<=9223372036854775807) (w:World) (dU:Lib.TabIs Tryz.prog w "internal/strconv.uint64pow10" .u64 Lib.pow10Tab):
  Calls Tryz.prog 47 #[.int .i64 n] w (Rt w (.string ⟨(Lib.itoa n).toArray⟩)):=
 (itoaP n h0 h1 w dU).mono fun _ w' ⟨h,k,os,e⟩=>⟨h,by
   subst e
   exact(zam (Below.refl w.heap.size w) k).trans (show Below w.heap.size (w.drewN k) _ from zjw (w.drewN k) os)⟩
end Go.Proofs.YtnnhofmknilopaaGreatDoor
namespace Go.Proofs.YtnnhofmknilopaaGreatDoor
open Go Go.RowKit Go.Lib Go.Sort
set_option maxRecDepth 100000
set_option maxHeartbeats 16000000
abbrev encB (b:UInt8):Value:=.int .u8 b.toNat
theorem rev_arr (blk off cap:Nat) (d:Array UInt8) (w:World) (hH:Holds encB w blk off d) (hsz:d.size<=9223372036854775807):
  Calls Tryz.prog 295 #[.slice (some ⟨blk,off,none⟩) d.size cap] w fun e w'=>e=.returned (.tuple #[])/\∃n,w'=putRow encB (Sort.ahead w n) blk off d.reverse:=by
 have mixed:Tryz.prog.follows .mixedOrders=true:=by kernel_rfl
 go_enter Tryz.func295,Tryz.ntmps295
 go_wp2
 go_loopg [2,3] d.size (fun k s2 s3 wr=>∃(i jn:Nat) (jz:Int) (dk:Array UInt8) (n:Nat),s2=.int .i64 i/\s3=.int .i64 jz/\((i:Int)<jz->jz=jn/\jn<d.size)/\(¬(i:Int)<jz->¬i<jn)/\jn - i<=k/\
  dk.size=d.size/\wr=putRow encB (Sort.ahead w n) blk off dk/\reverseLoop i jn dk=reverseLoop 0 (d.size - 1) d)
 case atStart=>exact⟨0,d.size - 1,(d.size:Int) - 1,d,0,rfl,rfl,fun h=>⟨by omega,by omega⟩,fun h=>by omega,by omega,rfl,(putRow_self encB w blk off d hH).symm,rfl⟩
 case round=>
  obtain⟨i,jn,jz,dk,n,rfl,rfl,h1,h2,hk,hds,hwr,heq⟩:=hrel
  by_cases hlt:(i:Int)<jz
  ·obtain⟨rfl,hjn⟩:=h1 hlt
   have hij:i<jn:=by omega
   have hHk:Holds encB wr blk off dk:=by rw[hwr];exact holds_putRow encB _ blk off d dk (holds_ahead encB w n blk off d hH) hds
   obtain⟨ci,fi⟩:=hHk i (by omega)
   obtain⟨cj,fj⟩:=hHk jn (by omega)
   have ci:wr.cell? ⟨blk,off+i,none⟩=some (.int .u8 (dk[i]!.toNat:Int)):=ci
   have cj:wr.cell? ⟨blk,off+jn,none⟩=some (.int .u8 (dk[jn]!.toNat:Int)):=cj
   have A:Aside (wr=putRow encB (Sort.ahead w n) blk off dk):=hwr
   clear hwr hHk hH h1 h2
   go_wp2_with fail
   go_region_o
   go_wp2
   go_roundg (jn - 1 - (i+1))
   case measure=>omega
   case rel=>
    rw[reverseLoop,if_pos hij] at heq
    exact⟨i+1,jn - 1,(jn:Int) - 1,swp dk i jn,n+1,by simp,rfl,fun h=>⟨by omega,by omega⟩,fun h=>by omega,Nat.le_refl _,by rw[size_swp];exact hds,
     swap_world encB (by omega) (by omega) A.out (by first | rfl | simp[encB,getElem!_pos,show jn<dk.size by omega]) (by first | rfl | simp[encB,getElem!_pos,show i<dk.size by omega]),heq⟩
  ·have dH:=h2 hlt
   go_wp2
   go_end0
   refine⟨rfl,n,?_⟩
   rw[reverseLoop,if_neg dH] at heq
   rw[<-Lib.reverseLoop_reverse,<-heq]
theorem rev_ok {w:World} {base:Nat} {v:Value} {l:List UInt8} (h:OwB w base v l) (hne:l≠[]) (hl:l.length<=1000000):
  Calls Tryz.prog 295 #[v] w fun e w'=>e=.returned (.tuple #[])/\OwB w' base v l.reverse/\∀w0,Below base w0 w->Below base w0 w':=by
 have hv:v≠.slice none 0 0:=by
  obtain⟨g,cap,rfl,_⟩:=h.blk hne
  simp
 obtain⟨g,cap,rfl,hg,_,_,_,_,hH⟩:=holds_of_ownsRow (enc:=encB) (zs:=l) h hv
 have:=rev_arr g 0 cap l.toArray w hH (by simp;omega)
 simp only[List.size_toArray] at this
 refine this.mono ?_
 rintro e w' ⟨rfl,n,rfl⟩
 refine⟨rfl,?_,fun w0 hb=>by exact below_putRow hb hg⟩
 have h2:=ownsRow_putRow (enc:=encB) (ys:=l.reverse) (q:=n) (k:=l.length) (zs:=l) h (by simp) (Nat.le_refl _)
 rw[show l.reverse.take l.length=l.reverse by rw[<-List.length_reverse,List.take_length]] at h2
 unfold OwB
 rw[List.length_reverse]
 simpa [byc,encB] using h2
end Go.Proofs.YtnnhofmknilopaaGreatDoor
namespace Go.Proofs.YtnnhofmknilopaaGreatDoor
open Go Go.RowKit
set_option maxRecDepth 100000
set_option maxHeartbeats 16000000
def W32 (w:World) (v:Value) (xs:List Int):Prop:=Sl w v xs/\∃b n c cs fr,v=.slice (some ⟨b,0,none⟩) n c/\w.heap[b]?=some (.cells cs 150 fr)
theorem W32.keep {w w':World} {v u:Value} {xs:List Int} {base n:Nat} {l:List Value} (h:W32 w v xs) (hr:w.ownsRow base 5 1 u n l) (hg:w.grownBy w' u.ownBlock):W32 w' v xs:=by
 obtain⟨⟨h1,h2,q,cap,h3,h4,h5⟩,b,m,c,cs,fr,rfl,hb⟩:=h
 cases h3
 have hlt:b<w.heap.size:=(Array.getElem?_eq_some_iff.1 hb).1
 have hne:some b≠u.ownBlock:=by
  intro e
  rcases hr.2 with⟨rfl,_⟩ | ⟨g,cp,cur,rfl,_,be,_⟩
  ·cases e
  ·simp only[Value.ownBlock,Option.some.injEq] at e
   subst e
   rw[hb] at be
   cases be
 have hk:w'.heap[b]?=w.heap[b]?:=hg.block b hlt hne
 refine⟨⟨h1,h2,_,_,rfl,h4,h5.imp id ?_⟩,b,_,_,cs,fr,rfl,by rw[hk,hb]⟩
 rintro⟨b',o,e,hl,hc⟩
 cases e
 exact⟨b,0,rfl,Nat.lt_of_lt_of_le hl hg.size,fun i hi=>hg.cell (hc i hi) hne⟩
theorem W32.alloc {w:World} {v:Value} {xs:List Int} (h:W32 w v xs) (o:Obj):W32 (w.alloc o) v xs:=by
 obtain⟨h1,b,m,c,cs,fr,e,hb⟩:=h
 refine⟨h1.below (zaa w o),b,m,c,cs,fr,e,?_⟩
 have hlt:b<w.heap.size:=(Array.getElem?_eq_some_iff.1 hb).1
 rw[(zaa w o).block b hlt,hb]
structure Dd (T:List UInt8) (Q R k:Nat) (m:List UInt8):Prop where
 eq:m++rd (Q*10^k+R)=T
 lt:R<10^k
theorem Dd.step {T:List UInt8} {Q R k:Nat} {m:List UInt8} (h:Dd T Q R (k+1) m) (hp:¬(Q=0/\R=0)):Dd T Q (R / 10) k (m++[UInt8.ofNat (48+R % 10)]):=by
 refine⟨?_,by have:=h.lt;rw[Nat.pow_succ] at this;omega⟩
 have hne:Q*10^(k+1)+R≠0:=by
  intro e
  have h1:Q*10^(k+1)=0:=by omega
  rcases Nat.mul_eq_zero.1 h1 with h2 | h2
  ·exact hp ⟨h2,by omega⟩
  ·exact absurd h2 (Nat.pos_iff_ne_zero.1 (Nat.pow_pos (by decide)))
 rw[<-h.eq,rd_step hne]
 simp
theorem Dd.stop {T:List UInt8} {Q R k:Nat} {m:List UInt8} (h:Dd T Q R k m) (hs:k=0\/(Q=0/\R=0)):m++rd Q=T:=by
 rcases hs with rfl | ⟨rfl,rfl⟩
 ·have h1:=h.lt
  have h2:R=0:=by simpa using h1
  have h3:=h.eq
  rw[h2] at h3
  simpa using h3
 ·simpa using h.eq
theorem Dd.len {T:List UInt8} {Q R k:Nat} {m:List UInt8} (h:Dd T Q R k m):m.length<=T.length:=by rw[<-h.eq];simp
theorem Dd.start {T l:List UInt8} {A:Int} (h:l++rd A.toNat=T) (hA:0<=A):Dd T (A / 1000000000).toNat (A % 1000000000).toNat 9 l:=by
 refine⟨?_,by show _<10^9;omega⟩
 rw[show (A / 1000000000).toNat*10^9+(A % 1000000000).toNat=A.toNat by show _*1000000000+_=_;omega]
 exact h
theorem zcs {w:World} {v:Value} {xs:List Int} (hx:Sl w v xs) (cx:Canon xs) (hv:val xs<pw 64):
  Calls Tryz.prog 178 #[v] w (Rt w (.string ⟨(Lib.decDigits (val xs).toNat).toArray⟩)):=by
 obtain⟨i0,hi,gJ,hz1,hz2⟩:=info_parts (show(Tryz.prog.info? 5).map (fun i=>(i.zero,i.size,i.bytes))=some (some (.int .u8 0),1,1) by kernel_rfl)
 have dx:=hx.1
 have hT:(rd (val xs).toNat).length<=617:=zjh 617 _ (by have:=zgm;omega)
 have dh:Lib.decDigits (val xs).toNat=if rd (val xs).toNat=[] then [48] else(rd (val xs).toNat).reverse:=by
  by_cases h0:(val xs).toNat=0
  ·rw[h0,zco,if_pos rfl,Lib.decDigits];rfl
  ·rw[if_neg (rd_ne h0),zjg _ h0]
 rw[dh]
 have hst:Hid ([]++rd (val xs).toNat=rd (val xs).toNat):=rfl
 have hx':Hid (Sl w v xs):=hx
 have cx':Hid (Canon xs):=cx
 have hv':Hid (val xs<pw 64):=hv
 obtain⟨q,cap,rfl⟩:=hx.form
 have fD:=zab hst
 revert fD
 generalize hTT:rd (val xs).toNat=T at hT ⊢
 intro fD
 have gK:Hid (([]:List UInt8)++rd (val xs).toNat=T):=by rw[hTT];rfl
 clear hx cx hv dh dx hst hTT fD
 obtain⟨R,hR⟩:∃R,Hid (R=if T=[] then [48] else T.reverse):=⟨_,rfl⟩
 rw[<-hR.out]
 go_enter Tryz.func178,Tryz.ntmps178
 go_upto_region 2 with fail
 go_loopw [0,3] (fun a0 b3 wr=>∃(ys:List Int) (l:List UInt8) (n3:Nat) (q3:Option Addr) (c3:Nat),b3=.slice q3 n3 c3/\Hid (n3=l.length)/\Hid (Sl wr a0 ys)/\Hid (Canon ys)/\Hid (val ys<pw 64)/\Hid (OwB wr w.heap.size (.slice q3 n3 c3) l)/\Hid (l++rd (val ys).toNat=T)/\Below w.heap.size w wr) (fun a0 _ wr=>valAtb wr a0)
 case atStart=>exact⟨xs,[],0,none,0,rfl,rfl,hx',cx',hv',OwB.nil _ _,gK,Below.refl _ _⟩
 case round=>
  clear hx' cx' hv' gK
  obtain⟨ys,l,n3,q3,c3,rfl,hn3,hy,cy,vy,hB,hd,hbw⟩:=hrel
  obtain⟨q,cap,rfl⟩:=hy.out.form
  have hws:=hbw.size
  by_cases hys:ys=[]
  ·subst hys
   have hz0:=zbi q 0 cap wr
   rw[show decide ((0:Nat)=0)=true by simp] at hz0
   have hl:l=T:=by
    have:=hd.out
    rw[show (val []).toNat=0 by rfl,zco,List.append_nil] at this
    exact this
   subst hl
   by_cases hT0:l=[]
   ·have h3:n3=0:=by rw[hn3.out,hT0];rfl
    subst h3
    go_wp2_with (go_at_call 207;refine hz0.mono ?_;rintro e w1 ⟨rfl,rfl⟩)
    go_ret
    exact⟨by rw[hR.out,if_pos hT0];rfl,hbw⟩
   ·have h3:((n3:Int)==0)=false:=by
     have:l.length≠0:=fun e=>hT0 (List.eq_nil_of_length_eq_zero e)
     have:=hn3.out
     simp;omega
    have hrv:=rev_ok hB.out hT0 (by omega)
    go_wp2_with (first
     | (go_at_call 207;refine hz0.mono ?_;rintro e w1 ⟨rfl,rfl⟩)
     | (go_at_call 295;refine hrv.mono ?_;rintro e w2 ⟨rfl,hB2,hbb⟩;have hcv:=hB2.conv (by simpa using hT0)))
    go_ret
    exact⟨by rw[hR.out,if_neg hT0];rfl,hbb _ hbw⟩
  ·have hz0:=zbi q ys.length cap wr
   rw[show decide (ys.length=0)=false by simp[hys]] at hz0
   have hp:0<val ys:=zby hy.out.1 cy.out hys
   have lys:ys.length<=64:=(zhj hy.out.1 cy.out 64).2 vy.out
   have hsm:=zei hy.out hys (by omega) 1000000000 (by omega) (by omega)
   have hva:=hy.out.valAtb
   go_wp2_with (first
    | (go_at_call 207;refine hz0.mono ?_;rintro e w1 ⟨rfl,rfl⟩)
    | (go_at_call 294;refine hsm.mono ?_;rintro e w1 ⟨r,zs,rfl,hz,cz,ez,hb1,am⟩))
   have hdd:Hid (Dd T (val zs).toNat (val ys % 1000000000).toNat 9 l):=by
    show Dd _ _ _ _ _
    rw[ez]
    exact Dd.start hd.out (by omega)
   have hRe:val ys % 1000000000=(((val ys % 1000000000).toNat:Nat):Int):=by omega
   have dV:(val ys % 1000000000).toNat<1000000000:=by omega
   rw[hRe]
   generalize (val ys % 1000000000).toNat=R0 at*
   have hW:Hid (W32 w1 r zs):=⟨hz,by obtain⟨n,c,cs,fr,e,h⟩:=am;exact⟨_,n,c,cs,fr,e,h⟩⟩
   have hB1:=zab (hB.out.below hb1)
   have BW1:Below w.heap.size w w1:=hbw.trans (hb1.mono hws)
   have hzv:Hid (val zs<pw 64):=by
    show val zs<pw 64
    have:=vy.out
    omega
   have b9:Hid ((val zs).toNat<(val ys).toNat):=by
    show _<_
    omega
   obtain⟨qz,kz,rfl⟩:=hz.form
   have cz':=zab cz
   have hzz:zs=[]↔(val zs).toNat=0:=by
    constructor
    ·intro e;rw[e];rfl
    ·intro e
     by_cases h:zs=[]
     ·exact h
     ·have:=zby hz.1 cz h;omega
   have bS:=zab hzz
   clear hB hb1 am hz hsm hRe hz0 cz hzz ez
   go_loopw [3,5,6] (fun b t5 t6 wq=>∃(i R:Nat) (m:List UInt8) (nm:Nat) (qm:Option Addr) (cm:Nat),b=.slice qm nm cm/\Hid (nm=m.length)/\t6=.int .i64 i/\i<=9/\t5=.int .u32 R/\R<1000000000/\Hid (Dd T (val zs).toNat R (9 - i) m)/\Hid (OwB wq w.heap.size (.slice qm nm cm) m)/\Hid (W32 wq (.slice qz zs.length kz) zs)/\Below w.heap.size w wq) (fun _ _ i _=>9 - (intOf i).toNat)
   case atStart=>exact⟨0,R0,l,n3,q3,c3,rfl,hn3,by go_num,by omega,by go_num,dV,hdd,hB1,hW,BW1⟩
   case round=>
    clear hdd hB1 hW BW1 dV
    obtain⟨i,R,m,nm,qm,cm,rfl,hnm,rfl,hi9,rfl,hR1,hdd,hB,hW,hbq⟩:=hrel
    have hz0:=zbi qz zs.length kz wr
    by_cases hlt:i<9
    ·by_cases hst:zs=[]/\R=0
     ·obtain⟨hze,rfl⟩:=hst
      have hzl:(zs.length:Int)=0:=by rw[hze];rfl
      have hQ0:(val zs).toNat=0:=bS.out.1 hze
      rw[show decide (zs.length=0)=true by simp[hze]] at hz0
      have aN:Hid (m++rd (val zs).toNat=T):=hdd.out.stop (.inr ⟨hQ0,rfl⟩)
      clear hze hzl hQ0
      go_wp2_with (go_at_call 207;refine hz0.mono ?_;rintro e w2 ⟨rfl,rfl⟩)
      go_roundw
      case rel=>
       exact⟨zs,m,nm,qm,cm,rfl,hnm,hW.out.1,cz',hzv,hB,aN,hbq⟩
      case measure=>
       rw[hW.out.1.valAtb,hva]
       exact b9.out
     ·have hml:=hdd.out.len
      have eO:nm<=617:=by have:=hnm.out;omega
      have af:=hB.out.row hnm.out.symm
      have hqs:=hbq.size
      have gL:Hid (Dd T (val zs).toNat (R / 10) (9 - (i+1)) (m++[UInt8.ofNat (48+R % 10)])):=by
       have h:=hdd.out
       rw[show 9 - i=(9 - (i+1))+1 by omega] at h
       exact h.step fun⟨a,b⟩=>hst ⟨bS.out.2 a,b⟩
      clear hml
      by_cases hze:zs=[]
      ·have hRp:0<R:=by
        have:R≠0:=fun e=>hst ⟨hze,e⟩
        omega
       have hRd:decide (0<R)=true:=by simp[hRp]
       rw[show decide (zs.length=0)=true by simp[hze]] at hz0
       clear hst hze
       go_wp2_with (first
        | (go_at_call 207;refine hz0.mono ?_;rintro e w2 ⟨rfl,rfl⟩)
        | (at_builtin;refine wpList_append_own _ rfl _ _ 41 rfl w.heap.size 5 i0 (.int .u8 0) 1 1 Tryz.underlying41 hi gJ hz1 hz2 rfl (by decide) _ _ _ rfl (af.alloc _) ⟨w2.heap.size,0,none⟩ 1 1 [.int .u8 (48+(R:Int) % 10)] rfl rfl (World.news_of_block (heap_alloc_last w2 (.cells #[.int .u8 (48+(R:Int) % 10)] 5))) (zdr _) (by unfold maxLen;omega) (by omega) (by simp;omega) ?_;intro v' w2 aA ap _;obtain⟨q',c',rfl⟩:=zbr aA))
       go_roundw
       case rel=>
        refine⟨i+1,R / 10,m++[UInt8.ofNat (48+R % 10)],nm+1,q',c',rfl,by show _=_;rw[List.length_append,<-hnm.out];rfl,by go_num,by omega,by go_num,by omega,gL,?_,?_,?_⟩
        ·rw[u8_of] at aA
         exact OwB.snoc aA hnm.out.symm
        ·exact(hW.out.alloc _).keep (af.alloc _) ap
        ·exact(hbq.alloc hqs _).grown ap (by simp;omega) (fun k hk=>(af.lt k hk).1)
       case measure=>simp[intOf];omega
      ·rw[show decide (zs.length=0)=false by simp[hze]] at hz0
       clear hst hze
       go_wp2_with (first
        | (go_at_call 207;refine hz0.mono ?_;rintro e w2 ⟨rfl,rfl⟩)
        | (at_builtin;refine wpList_append_own _ rfl _ _ 41 rfl w.heap.size 5 i0 (.int .u8 0) 1 1 Tryz.underlying41 hi gJ hz1 hz2 rfl (by decide) _ _ _ rfl (af.alloc _) ⟨w2.heap.size,0,none⟩ 1 1 [.int .u8 (48+(R:Int) % 10)] rfl rfl (World.news_of_block (heap_alloc_last w2 (.cells #[.int .u8 (48+(R:Int) % 10)] 5))) (zdr _) (by unfold maxLen;omega) (by omega) (by simp;omega) ?_;intro v' w2 aA ap _;obtain⟨q',c',rfl⟩:=zbr aA))
       go_roundw
       case rel=>
        refine⟨i+1,R / 10,m++[UInt8.ofNat (48+R % 10)],nm+1,q',c',rfl,by show _=_;rw[List.length_append,<-hnm.out];rfl,by go_num,by omega,by go_num,by omega,gL,?_,?_,?_⟩
        ·rw[u8_of] at aA
         exact OwB.snoc aA hnm.out.symm
        ·exact(hW.out.alloc _).keep (af.alloc _) ap
        ·exact(hbq.alloc hqs _).grown ap (by simp;omega) (fun k hk=>(af.lt k hk).1)
       case measure=>simp[intOf];omega
    ·have hi':i=9:=by omega
     subst hi'
     go_wp2
     go_roundw
     case rel=>
      exact⟨zs,m,nm,qm,cm,rfl,hnm,hW.out.1,cz',hzv,hB,hdd.out.stop (.inl rfl),hbq⟩
     case measure=>
      rw[hW.out.1.valAtb,hva]
      exact b9.out
def numT (g:Bool) (X Y:Int):List UInt8:=ratT (mkG g X (denI Y)) (mkN X (denI Y)) (mkD X (denI Y))
theorem zga {X D:Int} (hX:0<=X) (hD:0<=D):1<=mkD X D:=by
 unfold mkD
 by_cases h:X=0\/D=0
 ·rw[if_pos h];omega
 ·rw[if_neg h]
  have h1:0<X:=by omega
  have h2:0<D:=by omega
  have h3:=zep (b:=D) h1
  have h4:gcdI X D ∣ D:=by
   unfold gcdI
   have:=Nat.gcd_dvd_right X.toNat D.toNat
   have h5:((Nat.gcd X.toNat D.toNat:Nat):Int) ∣ ((D.toNat:Nat):Int):=Int.ofNat_dvd.2 this
   rwa [Int.toNat_of_nonneg hD] at h5
  have h6:=Int.le_of_dvd h2 h4
  have:=Int.ediv_pos_of_pos_of_dvd h2 (by omega) h4
  omega
theorem zct {X Y:Int} (h:large X Y=false):mkN X (denI Y)<pw 64/\mkD X (denI Y)<pw 64:=by
 unfold large at h
 simp at h
 exact⟨h.1.2,h.2⟩
theorem zg2 {ds:List Int} (dd:Dig ds) (cd:Canon ds):decide (ds=[1])=decide (val ds=1):=by
 rw[decide_eq_decide]
 constructor
 ·rintro rfl;rfl
 ·intro h
  exact zkx dd (fun j=>by match j with | 0=>simp | j+1=>simp) cd (fun m hm=>by simp at hm;subst hm;simp) (by rw[h];rfl)
theorem zdm {a b:ByteArray} {v:Value} (h:a.data=b.data):Ending.returned (.tuple #[.string a,v])=.returned (.tuple #[.string b,v]):=by rw[show a=b from ByteArray.ext h]
theorem zdn {g:Bool} {X Y:Int} (h:large X Y=false):(numT g X Y).length<=1236:=ratT_len (zct h).1 (zct h).2
theorem ze0 {w:World} {g:Bool} {q1 p1:Option Addr} {c1 e1:Nat} {nu de:List Int} (h1:Sl w (.slice q1 nu.length c1) nu) (h2:Sl w (.slice p1 de.length e1) de) (ln:nu.length<=274877906000) (ld:de.length<=274877906000) (hT:Tb w) (hL:large (val nu) (val de)=false):
  Calls Tryz.prog 93 #[.agg #[.bool g,.slice q1 nu.length c1,.slice p1 de.length e1]] w (Rt w (.tuple #[.string ⟨(numT g (val nu) (val de)).toArray⟩,.int .i64 0])):=by
 have hb:Below w.heap.size w (w.alloc (.cells #[.bool g,.slice q1 nu.length c1,.slice p1 de.length e1] 24)):=zaa w _
 have hrd:=zc7 (g:=g) (h1.below hb) (h2.below hb) ln ld (hT.below hb)
 have x0:=zae h1.1
 have y0:=zae h2.1
 have hlt:=zct hL
 have hd1:1<=mkD (val nu) (denI (val de)):=zga x0 (by unfold denI;split<;>omega)
 unfold numT
 rw[hL] at hrd
 generalize val nu=X at*
 generalize val de=Y at*
 generalize mkG g X (denI Y)=G at*
 generalize mkN X (denI Y)=n at*
 generalize mkD X (denI Y)=d at*
 have hb':=zab hb
 have lA:=zca hlt.1
 have lB:=zca hlt.2
 obtain⟨A,hA⟩:∃A,Lib.decDigits n.toNat=A:=⟨_,rfl⟩
 obtain⟨B,hB⟩:∃B,Lib.decDigits d.toNat=B:=⟨_,rfl⟩
 obtain⟨K,hK⟩:∃K,decide (d=1)=K:=⟨_,rfl⟩
 have dh:ratT G n d=(if G then [45] else [])++(A++if K then [] else 47::B):=by
  unfold ratT
  rw[hA,hB,<-hK]
  simp
 rw[dh]
 rw[hA] at lA
 rw[hB] at lB
 clear h1 h2 hT hL hb dh x0 y0
 cases G with
 | true=>
  cases K
  all_goals
   go_enter Tryz.func93,Tryz.ntmps93
   go_wp2_with (first
    | (go_at_call 117;with_reducible refine hrd.mono ?_;rintro e w1 ⟨f,g',n',d',rfl,hf,hgn,hb1⟩
       obtain⟨rfl,rfl,rfl⟩:=hgn rfl
       obtain⟨fa,fb,ns,dsf,rfl,z1,z2,z3,z4,z5,z6,z7,z8⟩:=hf
       obtain⟨qn,kn,rfl⟩:=z1.form
       obtain⟨qm,km,rfl⟩:=z4.form
       have hw:Hid (Below w.heap.size w w1):=hb'.out.trans (hb1.mono hb'.out.size)
       have hal:=zaa w1 (.cells #[.bool true,.slice qn ns.length kn,.slice qm dsf.length km] 156)
       have hdA:=zcs (z1.below hal) z2 (by rw[z3];exact hlt.1)
       rw[z3,hA] at hdA
       have k1:Hid ((w1.alloc (.cells #[.bool true,.slice qn ns.length kn,.slice qm dsf.length km] 156)).heap[w1.heap.size]?=some (.cells #[.bool true,.slice qn ns.length kn,.slice qm dsf.length km] 156 (0,0))):=heap_alloc_new _ _
       have z4':=zab z4
       have z5':=zab z5
       have z6':=zab z6
       clear hb1 hrd z1 z2 z3 z4 z5 z6 z7 z8)
    | (go_at_call 178;with_reducible refine hdB.mono ?_;rintro e w4 ⟨rfl,hb4⟩)
    | (go_at_call 178;with_reducible refine hdA.mono ?_;rintro e w2 ⟨rfl,hb2⟩
       have cJ:=hal.trans (hb2.mono hal.size)
       have k2:w2.heap[w1.heap.size]?=some (.cells #[.bool true,.slice qn ns.length kn,.slice qm dsf.length km] 156 (0,0)):=by rw[hb2.block _ (by simp)];exact k1.out
       have y0:w2.cell? ⟨w1.heap.size,0,none⟩=some (.bool true):=by simp[World.cell?,k2]
       have y2:w2.cell? ⟨w1.heap.size,2,none⟩=some (.slice qm dsf.length km):=by simp[World.cell?,k2]
       have bu:=zgi (z4'.out.below cJ)
       rw[zg2 z4'.out.1 z5'.out,z6'.out,hK] at bu
       have hs2:w1.heap.size<w2.heap.size:=(Array.getElem?_eq_some_iff.1 k2).1
       clear hdA hb2 k1 k2 hal)
    | (go_at_call 179;with_reducible refine bu.mono ?_;rintro e w3 ⟨rfl,hb3⟩
       have dl:=cJ.trans (hb3.mono cJ.size)
       have y3:w3.cell? ⟨w1.heap.size,2,none⟩=some (.slice qm dsf.length km):=(hb3.cell (by exact hs2)).trans y2
       have hdB:=zcs (z4'.out.below dl) z5'.out (by rw[z6'.out];exact hlt.2)
       rw[z6'.out,hB] at hdB
       have hw3:=zab (hw.out.trans (dl.mono hw.out.size))
       clear bu hb3 cJ y0 y2 dl))
   go_ret2
   first
    | exact⟨zdm (by simp),hw3.out⟩
    | exact⟨zdm (by simp),hw3.out.trans (hb4.mono hw3.out.size)⟩
 | false=>
  cases K
  all_goals
   go_enter Tryz.func93,Tryz.ntmps93
   go_wp2_with (first
    | (go_at_call 117;with_reducible refine hrd.mono ?_;rintro e w1 ⟨f,g',n',d',rfl,hf,hgn,hb1⟩
       obtain⟨rfl,rfl,rfl⟩:=hgn rfl
       obtain⟨fa,fb,ns,dsf,rfl,z1,z2,z3,z4,z5,z6,z7,z8⟩:=hf
       obtain⟨qn,kn,rfl⟩:=z1.form
       obtain⟨qm,km,rfl⟩:=z4.form
       have hw:Hid (Below w.heap.size w w1):=hb'.out.trans (hb1.mono hb'.out.size)
       have hal:=zaa w1 (.cells #[.bool false,.slice qn ns.length kn,.slice qm dsf.length km] 156)
       have hdA:=zcs (z1.below hal) z2 (by rw[z3];exact hlt.1)
       rw[z3,hA] at hdA
       have k1:Hid ((w1.alloc (.cells #[.bool false,.slice qn ns.length kn,.slice qm dsf.length km] 156)).heap[w1.heap.size]?=some (.cells #[.bool false,.slice qn ns.length kn,.slice qm dsf.length km] 156 (0,0))):=heap_alloc_new _ _
       have z4':=zab z4
       have z5':=zab z5
       have z6':=zab z6
       clear hb1 hrd z1 z2 z3 z4 z5 z6 z7 z8)
    | (go_at_call 178;with_reducible refine hdB.mono ?_;rintro e w4 ⟨rfl,hb4⟩)
    | (go_at_call 178;with_reducible refine hdA.mono ?_;rintro e w2 ⟨rfl,hb2⟩
       have cJ:=hal.trans (hb2.mono hal.size)
       have k2:w2.heap[w1.heap.size]?=some (.cells #[.bool false,.slice qn ns.length kn,.slice qm dsf.length km] 156 (0,0)):=by rw[hb2.block _ (by simp)];exact k1.out
       have y0:w2.cell? ⟨w1.heap.size,0,none⟩=some (.bool false):=by simp[World.cell?,k2]
       have y2:w2.cell? ⟨w1.heap.size,2,none⟩=some (.slice qm dsf.length km):=by simp[World.cell?,k2]
       have bu:=zgi (z4'.out.below cJ)
       rw[zg2 z4'.out.1 z5'.out,z6'.out,hK] at bu
       have hs2:w1.heap.size<w2.heap.size:=(Array.getElem?_eq_some_iff.1 k2).1
       clear hdA hb2 k1 k2 hal)
    | (go_at_call 179;with_reducible refine bu.mono ?_;rintro e w3 ⟨rfl,hb3⟩
       have dl:=cJ.trans (hb3.mono cJ.size)
       have y3:w3.cell? ⟨w1.heap.size,2,none⟩=some (.slice qm dsf.length km):=(hb3.cell (by exact hs2)).trans y2
       have hdB:=zcs (z4'.out.below dl) z5'.out (by rw[z6'.out];exact hlt.2)
       rw[z6'.out,hB] at hdB
       have hw3:=zab (hw.out.trans (dl.mono hw.out.size))
       clear bu hb3 cJ y0 y2 dl))
   go_ret2
   first
    | exact⟨zdm (by simp),hw3.out⟩
    | exact⟨zdm (by simp),hw3.out.trans (hb4.mono hw3.out.size)⟩
end Go.Proofs.YtnnhofmknilopaaGreatDoor
