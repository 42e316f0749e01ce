import Derived.Shelf.Small.Bits
import Derived.Laws.Bits64b
import Derived.Shelf.Spec.TrailingZeros
import Derived.Test.YtaonejnicgbifaaGreatDoorQk11
namespace Go.Proofs.YtaonejnicgbifaaGreatDoor
open Go Go.RowKit Go.Shelf
set_option maxRecDepth 100000
set_option maxHeartbeats 16000000
theorem zeb:∀(x:Nat),x≠0->x<2^64->2^(Lib.bitLen x - 1)<=x/\x<2^Lib.bitLen x/\1<=Lib.bitLen x:=by
 intro x
 induction x using Nat.strongRecOn with
 | ind x ih=>
  intro h0 h
  rw[Lib.bitLen_half x h0 h]
  by_cases h1:x=1
  ·subst h1
   decide
  ·obtain⟨a,b,c⟩:=ih (x / 2) (by omega) (by omega) (by omega)
   obtain⟨d,hd⟩:∃d,Lib.bitLen (x / 2)=d+1:=⟨Lib.bitLen (x / 2) - 1,by omega⟩
   rw[hd] at a b ⊢
   rw[Nat.add_sub_cancel] at a
   rw[show 1+(d+1) - 1=d+1 by omega,show 1+(d+1)=d+1+1 by omega]
   simp only[Nat.pow_succ] at b ⊢
   omega
def lays128_ren:Go.Shelf.Ren:=⟨fun | 128=>182 | n=>n,fun | 51=>150 | 3=>3 | 4=>4 | 46=>170 | 5=>5 | 9=>9 | n=>n,fun | n=>n⟩
theorem lays128:Go.Proofs.Lays.n128 Tryz.prog lays128_ren:={
 mixed:=by kernel_rfl
 f128:=Tryz.func182.trans (congrArg some (by kernel_rfl))
 t3:=Tryz.underlying3
 a3:=Tryz.isAgg3
 z3:=Tryz.sizeOf3
 v3:=Tryz.zeroValue3
 t4:=Tryz.underlying4
 a4:=Tryz.isAgg4
 z4:=Tryz.sizeOf4
 v4:=Tryz.zeroValue4
 t5:=Tryz.underlying5
 a5:=Tryz.isAgg5
 z5:=Tryz.sizeOf5
 v5:=Tryz.zeroValue5
 t9:=Tryz.underlying9
 a9:=Tryz.isAgg9
 z9:=Tryz.sizeOf9
 v9:=Tryz.zeroValue9
 t46:=Tryz.underlying170
 a46:=Tryz.isAgg170
 z46:=Tryz.sizeOf170
 v46:=Tryz.zeroValue170
 t51:=Tryz.underlying150
 a51:=Tryz.isAgg150
 z51:=Tryz.sizeOf150
 v51:=Tryz.zeroValue150 }
def lays133_ren:Go.Shelf.Ren:=⟨fun | 133=>194 | 128=>182 | n=>n,fun | 51=>150 | 3=>3 | 4=>4 | 46=>170 | 5=>5 | 9=>9 | n=>n,fun | n=>n⟩
theorem lays133:Go.Proofs.Lays.n133 Tryz.prog lays133_ren:={
 mixed:=by kernel_rfl
 f128:=Tryz.func182.trans (congrArg some (by kernel_rfl))
 f133:=Tryz.func194.trans (congrArg some (by kernel_rfl))
 t3:=Tryz.underlying3
 a3:=Tryz.isAgg3
 z3:=Tryz.sizeOf3
 v3:=Tryz.zeroValue3
 t4:=Tryz.underlying4
 a4:=Tryz.isAgg4
 z4:=Tryz.sizeOf4
 v4:=Tryz.zeroValue4
 t5:=Tryz.underlying5
 a5:=Tryz.isAgg5
 z5:=Tryz.sizeOf5
 v5:=Tryz.zeroValue5
 t9:=Tryz.underlying9
 a9:=Tryz.isAgg9
 z9:=Tryz.sizeOf9
 v9:=Tryz.zeroValue9
 t46:=Tryz.underlying170
 a46:=Tryz.isAgg170
 z46:=Tryz.sizeOf170
 v46:=Tryz.zeroValue170
 t51:=Tryz.underlying150
 a51:=Tryz.isAgg150
 z51:=Tryz.sizeOf150
 v51:=Tryz.zeroValue150 }
theorem len32_ok (x:Int) (w:World) (h0:0<=x) (h1:x<=4294967295):
 Calls Tryz.prog 182 #[.int .u32 x] w fun e w'=>e=.returned (.int .i64 (Lib.bitLen x.toNat))/\w'=w:=Any.bits_Len32 lays128 x w h0 h1
theorem zec (x:Int) (h0:0<=x) (h1:x<=4294967295):Lib.bitLen x.toNat<=32:=Lib.bitLen_le x.toNat 32 (by omega) (by omega)
theorem zkm (x:Int) (w:World) (h0:0<=x) (h1:x<=4294967295):
 Calls Tryz.prog 194 #[.int .u32 x] w fun e w'=>e=.returned (.int .i64 (32 - (Lib.bitLen x.toNat:Int)))/\w'=w:=Any.bits_LeadingZeros32 lays133 x w h0 h1
structure Tb (w:World):Prop where
 lt:0<w.heap.size
 at_:∀j,j<32->w.cell? ⟨0,j,none⟩=some (.int .u8 (Lib.deBruijn32tab.getD j 0))
theorem Tb.below {w w':World} (h:Tb w) (hb:Below w.heap.size w w'):Tb w':=
 ⟨Nat.lt_of_lt_of_le h.lt hb.size,fun j hj=>(hb.cell (by exact h.lt)).trans (h.at_ j hj)⟩
theorem zkn (x k idx:Nat) (w:World) (hx0:((x:Int)==0)=false)
  (key:bits BinOp.and IntKind.u32 (x:Int) (-(x:Int) % 4294967296)*125613361 % 4294967296 / 134217728=(idx:Int))
  (hi:idx<32) (hk:k<32) (bF:w.cell? ⟨0,idx,none⟩=some (.int .u8 k)):
  Calls Tryz.prog 192 #[.int .u32 x] w fun e w'=>e=.returned (.int .i64 k)/\w'=w:=by
 go_enter Tryz.func192,Tryz.ntmps192
 go_wp2_with (simp only[key])
 go_ret
 exact⟨rfl,rfl⟩
theorem tz32_ok (x:Int) (w:World) (h0:0<x) (h1:x<=4294967295) (hT:Tb w):
  Calls Tryz.prog 192 #[.int .u32 x] w fun e w'=>∃t:Nat,e=.returned (.int .i64 t)/\TwosIs x t/\t<=31/\w'=w:=by
 obtain⟨n,rfl⟩:=Int.eq_ofNat_of_zero_le (by omega:0<=x)
 have hn:n≠0:=by omega
 obtain⟨aE,hk⟩:=Lib.lowest_bit 32 n hn (by omega)
 obtain⟨hi,je⟩:=Lib.deBruijn32_at _ hk
 have bF:=hT.at_ _ hi
 rw[je] at bF
 obtain⟨m,hm,_⟩:=Lib.ctzFrom_spec 32 n (by omega) (by omega)
 refine(zkn n _ _ w (by simp;omega) (tz32_key n _ (by omega) hn aE) hi hk bF).mono ?_
 rintro e w' ⟨rfl,rfl⟩
 refine⟨_,rfl,⟨m,?_⟩,by omega,rfl⟩
 have hc:Lib.ctz 32 n=Lib.ctzFrom 32 n:=by simp[Lib.ctz,hn]
 rw[hc]
 conv=>lhs;rw[hm]
 simp
end Go.Proofs.YtaonejnicgbifaaGreatDoor
namespace Go.Proofs.YtaonejnicgbifaaGreatDoor
open Go Go.RowKit
set_option maxRecDepth 100000
def lenOf (v:Value):Nat:=match v with | .slice _ n _=>n | _=>0
theorem zko (b o len cap:Nat) (xs:List Int) (w:World) (hc:∀i,i<len->w.cell? ⟨b,o+i,none⟩=some (.int .u32 (xs.getD i 0))) (hm:len<=cap) (hm2:len<=1099511627776):
  Calls Tryz.prog 108 #[.slice (some ⟨b,o,none⟩) len cap] w fun e w'=>e=.returned (.slice (some ⟨b,o,none⟩) (trimTo xs len) cap)/\w'=w:=by
 go_enter Tryz.func108,Tryz.ntmps108
 go_wp2
 go_loop [0] (fun l=>∃k:Nat,k<=len/\l=.slice (some ⟨b,o,none⟩) k cap/\trimTo xs k=trimTo xs len) (fun l=>lenOf l)
 case atStart=>exact⟨len,Nat.le_refl _,rfl,rfl⟩
 case round=>
  obtain⟨k,hk,rfl,ht⟩:=hrel
  have aK:Hid (trimTo xs k=trimTo xs len):=ht
  clear ht
  match k,hk,aK with
  | 0,hk,aK=>
   go_wp2
   go_ret
   have h0:trimTo xs len=0:=aK.out.symm
   refine⟨?_,rfl⟩
   simp[h0]
  | k+1,hk,aK=>
   have hck:w.cell? ⟨b,o+k,none⟩=some (.int .u32 (xs.getD k 0)):=hc k (by omega)
   generalize hX:xs.getD k 0=X at hck
   go_wp2
   ·go_round
    case rel=>
     have h0':(X==0)=true:=by assumption
     have h0:X=0:=by simpa using h0'
     refine⟨k,by omega,by go_num,?_⟩
     rw[<-aK.out]
     simp only[trimTo,hX,h0,if_true]
    case measure=>simp[lenOf]
   ·go_ret
    have h0':(X==0)=false:=by assumption
    have h0:¬X=0:=by simpa using h0'
    refine⟨?_,rfl⟩
    rw[<-aK.out]
    simp only[trimTo,hX,if_neg h0]
    rfl
theorem zkp (q:Option Addr) (cap:Nat) (w:World):Calls Tryz.prog 108 #[.slice q 0 cap] w fun e w'=>e=.returned (.slice q 0 cap)/\w'=w:=by
 go_enter Tryz.func108,Tryz.ntmps108
 go_wp2
 refine wp_loop_once ?_
 go_wp2
 go_ret
 exact⟨rfl,rfl⟩
theorem zdl {w:World} {v:Value} {xs:List Int} (h:Sl w v xs):∃u,Sl w u (trim xs)/\∀w1,Below w.heap.size w w1->Calls Tryz.prog 108 #[v] w1 fun e w'=>e=.returned u/\w'=w1:=by
 obtain⟨h1,h2,q,cap,rfl,h4,h5⟩:=h
 have hl:=zam xs xs.length
 rcases h5 with rfl | ⟨b,o,rfl,hlt,hc⟩
 ·exact⟨.slice q 0 cap,⟨h1,by simp[trim],q,cap,rfl,by simp[trim],.inl rfl⟩,fun w1 _=>zkp q cap w1⟩
 ·refine⟨.slice (some ⟨b,o,none⟩) (trimTo xs xs.length) cap,⟨zfh h1,by rw[zai];omega,_,cap,by rw[zai],by rw[zai];omega,.inr ⟨b,o,rfl,hlt,fun i hi=>?_⟩⟩,
   fun w1 hb=>zko b o xs.length cap xs w1 (fun i hi=>(hb.cell (by exact hlt)).trans (hc i hi)) h4 (by omega)⟩
  rw[zbm xs i hi]
  exact hc i (by rw[zai] at hi;omega)
theorem Sl.form {w:World} {v:Value} {xs:List Int} (h:Sl w v xs):∃q cap,v=.slice q xs.length cap:=by
 obtain⟨_,_,q,cap,rfl,_⟩:=h
 exact⟨q,cap,rfl⟩
theorem Sl.nil (w:World):Sl w (.slice none 0 0) []:=⟨fun j=>by simp[List.getD],by simp,none,0,rfl,Nat.le_refl _,.inl rfl⟩
theorem zbb:Canon []:=fun m hm=>by simp at hm
theorem zb0 (q:Option Addr) (n cap:Nat) (w:World):Calls Tryz.prog 109 #[.slice q n cap] w fun e w'=>e=.returned (.bool (decide (n=0)))/\w'=w:=by
 go_enter Tryz.func109,Tryz.ntmps109
 go_wp2
 go_ret
 refine⟨?_,rfl⟩
 congr 2
 by_cases h:n=0
 ·subst h;rfl
 ·simp[h]
def smallW (x:Int):List Int:=trim [x % 4294967296,x / 4294967296]
theorem zed {x:Int} (h0:0<=x) (h1:x<=18446744073709551615):Dig (smallW x)/\Canon (smallW x)/\val (smallW x)=x/\(smallW x).length<=2:=by
 have hd:Dig [x % 4294967296,x / 4294967296]:=fun j=>by
  match j with
  | 0=>simp;omega
  | 1=>simp;omega
  | j+2=>simp
 refine⟨zfh hd,zak _,?_,?_⟩
 ·unfold smallW
  rw[zbl]
  simp[val]
  omega
 ·unfold smallW
  rw[zai]
  exact zam _ _
theorem zdm (w:World) (x:Int) (h0:0<=x) (h1:x<=18446744073709551615):
  Calls Tryz.prog 144 #[.int .u64 x] w fun e w'=>∃r,e=.returned r/\Sl w' r (smallW x)/\Below w.heap.size w w':=by
 have hd:Dig [x % 4294967296,x / 4294967296]:=fun j=>by
  match j with
  | 0=>simp;omega
  | 1=>simp;omega
  | j+2=>simp
 have hsl:Sl (w.alloc (.cells #[.int .u32 (x % 4294967296),.int .u32 (x / 4294967296)] 150)) (.slice (some ⟨w.heap.size,0,none⟩) 2 2) [x % 4294967296,x / 4294967296]:=by
  refine⟨hd,by simp,_,2,rfl,by simp,.inr ⟨w.heap.size,0,rfl,by show w.heap.size<(w.heap.push _).size;simp,fun i hi=>?_⟩⟩
  match i,hi with
  | 0,_=>show World.cell? _ _=_;simp
  | 1,_=>show World.cell? _ _=_;simp
 obtain⟨u,hu,aw⟩:=zdl hsl
 have fO:=aw _ (Below.refl _ _)
 go_enter Tryz.func144,Tryz.ntmps144
 go_wp2_with (go_at_call 108;refine fO.mono ?_;rintro e w2 ⟨rfl,rfl⟩)
 go_ret
 exact⟨u,rfl,hu,zaa w _⟩
set_option maxHeartbeats 16000000
theorem zew (q q':Option Addr) (cap cap':Nat) (w:World):Calls Tryz.prog 89 #[.slice q 0 cap,.slice q' 0 cap'] w fun e w'=>e=.returned (.int .i64 0)/\w'=w:=by
 go_enter Tryz.func89,Tryz.ntmps89
 go_wp2
 refine wp_loop_once ?_
 go_wp2
 go_ret
 exact⟨rfl,rfl⟩
theorem zkq (b o cap b2 o2 cap2:Nat) (xs ys:List Int) (w:World) (hl:xs.length=ys.length) (dx:Dig xs) (dy:Dig ys) (hn:xs.length<=1099511627776)
  (hcx:∀i,i<xs.length->w.cell? ⟨b,o+i,none⟩=some (.int .u32 (xs.getD i 0))) (hcy:∀i,i<ys.length->w.cell? ⟨b2,o2+i,none⟩=some (.int .u32 (ys.getD i 0))) (hb1:b<w.heap.size) (hb2:b2<w.heap.size):
  Calls Tryz.prog 89 #[.slice (some ⟨b,o,none⟩) xs.length cap,.slice (some ⟨b2,o2,none⟩) xs.length cap2] w fun e w'=>∃c:Int,e=.returned (.int .i64 c)/\(c<0↔val xs<val ys)/\(c=0↔xs=ys)/\Below w.heap.size w w':=by
 have dx':Hid (Dig xs):=dx
 have dy':Hid (Dig ys):=dy
 clear dx dy
 go_enter Tryz.func89,Tryz.ntmps89
 go_wp2
 go_loopw [5] (fun i wr=>∃k:Nat,k<=xs.length/\i=.int .i64 ((k:Int) - 1)/\(∀j,k<=j->j<xs.length->xs.getD j 0=ys.getD j 0)/\Below w.heap.size w wr) (fun i _=>(intOf i+1).toNat)
 case atStart=>exact⟨xs.length,Nat.le_refl _,by simp[hl],fun j h1 h2=>by omega,Below.refl _ _⟩
 case round=>
  obtain⟨k,hk,rfl,hag,hbw⟩:=hrel
  have aK:=zac hag
  clear hag
  match k,hk,aK with
  | 0,hk,aK=>
   go_wp2
   go_ret
   have e:=zcy hl (fun j hj=>aK.out j (Nat.zero_le _) hj)
   exact⟨0,rfl,by simp[e],by simp[e],hbw⟩
  | k+1,hk,aK=>
   have e1:((k+1:Nat):Int) - 1=(k:Int):=by omega
   rw[e1]
   have c1:wr.cell? ⟨b,o+k,none⟩=some (.int .u32 (xs.getD k 0)):=(hbw.cell (by exact hb1)).trans (hcx k (by omega))
   have c2:wr.cell? ⟨b2,o2+k,none⟩=some (.int .u32 (ys.getD k 0)):=(hbw.cell (by exact hb2)).trans (hcy k (by omega))
   generalize hX:xs.getD k 0=X at c1
   generalize hY:ys.getD k 0=Y at c2
   have hkl:(k:Int)<(xs.length:Int):=by omega
   go_wp2
   go_quiet (fail)
   have hB:Below w.heap.size w (wr.drewN nq):=zaj hbw _
   have c1':(wr.drewN nq).cell? ⟨b,o+k,none⟩=some (.int .u32 X):=c1
   have c2':(wr.drewN nq).cell? ⟨b2,o2+k,none⟩=some (.int .u32 Y):=c2
   generalize wr.drewN nq=wz at hB c1' c2' ⊢
   clear c1 c2
   go_wp2
   ·go_ret
    have hlt:X<Y:=by assumption
    have e:=zb2 (xs:=xs) (ys:=ys) (j:=k) (by omega)
    exact⟨-1,rfl,⟨fun _=>zcs hl dx'.out dy'.out (by omega) (by rw[hX,hY];exact hlt) aK.out,fun _=>by decide⟩,by simp[e],hB⟩
   ·go_quiet (fail)
    have hB2:Below w.heap.size w (wz.drewN nq):=zaj hB _
    go_wp2
    ·go_ret
     have hlt:X > Y:=by assumption
     have e:=zb2 (xs:=xs) (ys:=ys) (j:=k) (by omega)
     have hv:=zcs hl.symm dy'.out dx'.out (k:=k) (by omega) (by rw[hX,hY];exact hlt) (fun j h1 h2=>(aK.out j h1 (by omega)).symm)
     exact⟨1,rfl,⟨fun h=>absurd h (by decide),fun h=>by omega⟩,by simp[e],hB2⟩
    ·go_roundw
     case rel=>
      refine⟨k,by omega,by go_num,fun j h1 h2=>?_,hB2⟩
      rcases Nat.lt_or_ge k j with h | h
      ·exact aK.out j h h2
      ·have:j=k:=by omega
       subst this;omega
     case measure=>simp[intOf]
theorem zee (q q':Option Addr) (m n cap cap':Nat) (w:World) (h:m<n):Calls Tryz.prog 89 #[.slice q m cap,.slice q' n cap'] w fun e w'=>e=.returned (.int .i64 (-1))/\w'=w:=by
 have h':¬(m:Int)=(n:Int):=by omega
 have h2:(m:Int)<(n:Int):=by omega
 clear h
 go_enter Tryz.func89,Tryz.ntmps89
 go_wp2
 go_ret
 exact⟨rfl,rfl⟩
theorem zex (q q':Option Addr) (m n cap cap':Nat) (w:World) (h:n<m):Calls Tryz.prog 89 #[.slice q m cap,.slice q' n cap'] w fun e w'=>e=.returned (.int .i64 1)/\w'=w:=by
 have h':¬(m:Int)=(n:Int):=by omega
 have h2:¬(m:Int)<(n:Int):=by omega
 clear h
 go_enter Tryz.func89,Tryz.ntmps89
 go_wp2
 go_ret
 exact⟨rfl,rfl⟩
theorem zfe {w:World} {v u:Value} {xs ys:List Int} (hx:Sl w v xs) (hy:Sl w u ys) (cx:Canon xs) (cy:Canon ys):
  Calls Tryz.prog 89 #[v,u] w fun e w'=>∃c:Int,e=.returned (.int .i64 c)/\(c<0↔val xs<val ys)/\(c=0↔xs=ys)/\Below w.heap.size w w':=by
 obtain⟨x1,x2,q,cap,rfl,x4,x5⟩:=hx
 obtain⟨y1,y2,q',cap',rfl,y4,y5⟩:=hy
 rcases Nat.lt_trichotomy xs.length ys.length with hl | hl | hl
 ·refine(zee q q' xs.length ys.length cap cap' w hl).mono ?_
  rintro e w' ⟨rfl,rfl⟩
  exact⟨-1,rfl,⟨fun _=>zbt x1 y1 cy hl,fun _=>by decide⟩,⟨fun h=>absurd h (by decide),fun h=>by rw[h] at hl;omega⟩,Below.refl _ _⟩
 ·by_cases hx0:xs=[]
  ·subst hx0
   have hy0:ys=[]:=List.eq_nil_of_length_eq_zero hl.symm
   subst hy0
   refine(zew q q' cap cap' w).mono ?_
   rintro e w' ⟨rfl,rfl⟩
   exact⟨0,rfl,by simp,by simp,Below.refl _ _⟩
  ·have hy0:ys≠[]:=fun h=>hx0 (List.eq_nil_of_length_eq_zero (by rw[hl,h];rfl))
   rcases x5 with h | ⟨b,o,rfl,hlt,hc⟩
   ·exact absurd h hx0
   rcases y5 with h | ⟨b',o',rfl,aA,hc'⟩
   ·exact absurd h hy0
   rw[<-hl]
   exact zkq b o cap b' o' cap' xs ys w hl x1 y1 (by omega) hc hc' hlt aA
 ·refine(zex q q' xs.length ys.length cap cap' w hl).mono ?_
  rintro e w' ⟨rfl,rfl⟩
  have:=zbt y1 x1 cx hl
  exact⟨1,rfl,⟨fun h=>absurd h (by decide),fun h=>by omega⟩,⟨fun h=>absurd h (by decide),fun h=>by rw[h] at hl;omega⟩,Below.refl _ _⟩
theorem one32_ok {w:World} {v:Value} {xs:List Int} (h:Sl w v xs):Calls Tryz.prog 171 #[v] w fun e w'=>e=.returned (.bool (decide (xs=[1])))/\Below w.heap.size w w':=by
 obtain⟨h1,h2,q,cap,rfl,h4,h5⟩:=h
 by_cases hl:xs.length=1
 ·obtain⟨x,rfl⟩:=List.length_eq_one_iff.1 hl
  rcases h5 with h | ⟨b,o,rfl,hlt,hc⟩
  ·cases h
  ·have c0:w.cell? ⟨b,o,none⟩=some (.int .u32 x):=by simpa using hc 0 (by simp)
   clear hc h1
   go_enter Tryz.func171,Tryz.ntmps171
   go_wp2
   all_goals
    go_ret
    refine⟨?_,Below.refl _ _⟩
    simp_all
    try rfl
 ·have hne:((xs.length:Int)==1)=false:=by simp;omega
  have hx:¬xs=[1]:=fun e=>hl (by rw[e];rfl)
  clear h5
  go_enter Tryz.func171,Tryz.ntmps171
  go_wp2
  go_ret
  exact⟨by simp[hx],Below.refl _ _⟩
theorem zkr {w:World} {v:Value} {xs:List Int} (h:Sl w v xs) (cx:Canon xs) (hne:xs≠[]) (lx:xs.length<=274877906944):
  Calls Tryz.prog 169 #[v] w fun e w'=>∃n:Nat,e=.returned (.int .i64 (n+1))/\2^n<=val xs/\val xs<2^(n+1)/\n<=8796093022208/\w'=w:=by
 obtain⟨h1,h2,q,cap,rfl,h4,h5⟩:=h
 obtain⟨m,hm⟩:∃m,xs.length=m+1:=⟨xs.length - 1,by have:=List.length_pos_iff.2 hne;omega⟩
 rcases h5 with h | ⟨b,o,rfl,hlt,hc⟩
 ·exact absurd h hne
 have c0:=hc m (by omega)
 have d0:=h1 m
 have z0:=cx m hm
 have hv:=zbc hm
 have t0:=zaf (zan h1 m)
 have t1:=za3 (zan h1 m)
 rw[List.length_take,Nat.min_eq_left (by omega)] at t1
 generalize xs.getD m 0=X at*
 have hb:=len32_ok X w d0.1 d0.2
 obtain⟨s1,s2,s3⟩:=zeb X.toNat (by omega) (by omega)
 have s4:=zec X d0.1 d0.2
 generalize Lib.bitLen X.toNat=L at*
 obtain⟨l,rfl⟩:∃l,L=l+1:=⟨L - 1,by omega⟩
 have e1:(2:Int)^l<=X:=by
  rw[show ((2:Int)^l)=((2^l:Nat):Int) by simp]
  rw[Nat.add_sub_cancel] at s1
  omega
 have e2:X+1<=(2:Int)^(l+1):=by
  rw[show ((2:Int)^(l+1))=((2^(l+1):Nat):Int) by simp]
  omega
 have ep:(4294967296:Int)^m=2^(32*m):=by
  rw[Int.pow_mul]
  rfl
 have hp:=zat m
 have f1:2^(32*m+l)<=val xs:=by
  rw[Int.pow_add,<-ep,hv,Int.mul_comm]
  have:=Int.mul_le_mul_of_nonneg_right e1 (by omega:(0:Int)<=4294967296^m)
  omega
 have f2:val xs<2^(32*m+l+1):=by
  rw[Nat.add_assoc,Int.pow_add,<-ep,hv]
  have:=Int.mul_le_mul_of_nonneg_left e2 (by omega:(0:Int)<=4294967296^m)
  rw[Int.mul_add,Int.mul_one,Int.mul_comm _ X] at this
  omega
 rw[hm]
 rw[hm] at h4 lx
 have hF:Hid (2^(32*m+l)<=val xs/\val xs<2^(32*m+l+1)):=⟨f1,f2⟩
 clear f1 f2 hv hc h1 h2 cx hne t0 t1 e1 e2 ep hp s1 s2 s3 z0 hm
 go_enter Tryz.func169,Tryz.ntmps169
 go_wp2_with (go_at_call 182;refine hb.mono ?_;rintro e w2 ⟨rfl,rfl⟩)
 go_ret
 exact⟨32*m+l,by go_num,hF.out.1,hF.out.2,by omega,rfl⟩
theorem zef {xs:List Int}:∀k,k<=xs.length->(∀j,j<k->xs.getD j 0=0)->val xs=4294967296^k*val (xs.drop k)
 | 0,_,_=>by simp
 | k+1,hk,h=>by
  rw[zef k (by omega) (fun j hj=>h j (by omega)),zb6 xs k (by omega),h k (by omega),Int.pow_succ,Int.mul_assoc]
  simp
theorem zks {w:World} {v:Value} {xs:List Int} (h:Sl w v xs) (hne:0<val xs) (lx:xs.length<=274877906944) (hT:Tb w):
  Calls Tryz.prog 167 #[v] w fun e w'=>∃t:Nat,e=.returned (.int .i64 t)/\TwosIs (val xs) t/\t<=8796093022208/\w'=w:=by
 obtain⟨h1,h2,q,cap,rfl,h4,h5⟩:=h
 rcases h5 with h | ⟨b,o,rfl,hlt,hc⟩
 ·subst h;simp[val] at hne
 have cR:Hid (0<val xs):=hne
 have h1':Hid (Dig xs):=h1
 have hc':=zac hc
 clear hne h1 hc
 go_enter Tryz.func167,Tryz.ntmps167
 go_wp2
 go_loop [7] (fun i=>∃k:Nat,k<=xs.length/\i=.int .i64 k/\∀j,j<k->xs.getD j 0=0) (fun i=>xs.length - (intOf i).toNat)
 case atStart=>exact⟨0,Nat.zero_le _,rfl,fun j hj=>by omega⟩
 case round=>
  obtain⟨k,hk,rfl,hz⟩:=hrel
  have hz':Hid (∀j,j<k->xs.getD j 0=0):=hz
  clear hz
  by_cases hk2:k<xs.length
  ·have c0:=hc'.out k hk2
   have d0:=h1'.out k
   have hkl:(k:Int)<(xs.length:Int):=by omega
   generalize hX:xs.getD k 0=X at*
   have hX':Hid (xs.getD k 0=X):=hX
   clear hX
   by_cases h0:X=0
   ·subst h0
    go_wp2
    go_round
    case rel=>
     refine⟨k+1,by omega,by go_num,fun j hj=>?_⟩
     rcases Nat.lt_or_ge j k with h | h
     ·exact hz'.out j h
     ·have:j=k:=by omega
      subst this;exact hX'.out
    case measure=>simp[intOf];omega
   ·have htz:=tz32_ok X w (by omega) d0.2 hT
    go_wp2_with (go_at_call 192;refine htz.mono ?_;rintro e w2 ⟨t,rfl,ht,ht2,rfl⟩)
    go_ret
    refine⟨32*k+t,by go_num,?_,by omega,rfl⟩
    obtain⟨m,hm⟩:=ht
    have hv:=zef k (by omega) hz'.out
    rw[zb6 xs k hk2,hX'.out] at hv
    have ep:(4294967296:Int)^k=2^(32*k):=by
     rw[Int.pow_mul]
     rfl
    obtain⟨d,hd⟩:∃d,32=t+(d+1):=⟨31 - t,by omega⟩
    have e32:(4294967296:Int)=2^t*(2^d*2):=by
     rw[<-Int.pow_succ,<-Int.pow_add,<-hd]
     rfl
    obtain⟨V,hV⟩:=Int.eq_ofNat_of_zero_le (zaf (zbi h1'.out (k+1)))
    refine⟨m+2^d*V,?_⟩
    rw[hv,hV,hm,Int.pow_add,<-ep,Int.mul_assoc]
    congr 1
    rw[e32,Int.mul_assoc (2^t),<-Int.mul_add]
    congr 1
    rw[Int.mul_assoc,Int.natCast_add,Int.natCast_mul,Int.mul_add,Int.mul_left_comm]
    simp
    omega
  ·exfalso
   have:k=xs.length:=by omega
   subst this
   have hv:=zef xs.length (Nat.le_refl _) hz'.out
   rw[List.drop_length] at hv
   have:=cR.out
   simp[val] at hv
   omega
theorem or_nat32 (a b:Nat) (ha:a<4294967296) (hb:b<4294967296):Go.bits .or .u32 (a:Int) (b:Int)=((a ||| b:Nat):Int):=by
 have hx:a ||| b<2^32:=Nat.or_lt_two_pow (by omega) (by omega)
 have h1:(BitVec.ofInt 32 (a:Int)).toNat=a:=by
  rw[BitVec.ofInt_natCast,BitVec.toNat_ofNat];exact Nat.mod_eq_of_lt (by omega)
 have h2:(BitVec.ofInt 32 (b:Int)).toNat=b:=by
  rw[BitVec.ofInt_natCast,BitVec.toNat_ofNat];exact Nat.mod_eq_of_lt (by omega)
 show IntKind.u32.wrap ((BitVec.ofInt 32 (a:Int) ||| BitVec.ofInt 32 (b:Int)).toNat:Int)=_
 rw[BitVec.toNat_or,h1,h2,IntKind.wrap_u32]
 omega
theorem zib (a b:Nat) (ha:a<18446744073709551616) (hb:b<18446744073709551616):Go.bits .or .u64 (a:Int) (b:Int)=((a ||| b:Nat):Int):=by
 have hx:a ||| b<2^64:=Nat.or_lt_two_pow (by omega) (by omega)
 have h1:(BitVec.ofInt 64 (a:Int)).toNat=a:=by
  rw[BitVec.ofInt_natCast,BitVec.toNat_ofNat];exact Nat.mod_eq_of_lt (by omega)
 have h2:(BitVec.ofInt 64 (b:Int)).toNat=b:=by
  rw[BitVec.ofInt_natCast,BitVec.toNat_ofNat];exact Nat.mod_eq_of_lt (by omega)
 show IntKind.u64.wrap ((BitVec.ofInt 64 (a:Int) ||| BitVec.ofInt 64 (b:Int)).toNat:Int)=_
 rw[BitVec.toNat_or,h1,h2,IntKind.wrap_u64]
 omega
theorem or_hi {x y:Int} (hx:0<=x/\x<=4294967295) (hy:0<=y/\y<=4294967295):Go.bits .or .u64 (x*4294967296) y=x*4294967296+y/\Go.bits .or .u64 y (x*4294967296)=y+x*4294967296:=by
 obtain⟨X,rfl⟩:=Int.eq_ofNat_of_zero_le hx.1
 obtain⟨Y,rfl⟩:=Int.eq_ofNat_of_zero_le hy.1
 have e:(X:Int)*4294967296=((2^32*X:Nat):Int):=by omega
 have h:=Nat.two_pow_add_eq_or_of_lt (i:=32) (b:=Y) (by omega) X
 rw[e,zib _ _ (by omega) (by omega),zib _ _ (by omega) (by omega),Nat.or_comm Y,<-h]
 omega
theorem or_lo {x c:Int} {s:Nat} (hx:0<=x/\x<=4294967295) (hs:s<=31) (hc:0<=c/\c<2^s):
  Go.bits .or .u32 c (x*2^s % 4294967296)=(x*2^s+c) % 4294967296/\x*2^s / 4294967296=(x*2^s+c) / 4294967296/\0<=x*2^s / 4294967296/\x*2^s / 4294967296<2^s:=by
 obtain⟨X,rfl⟩:=Int.eq_ofNat_of_zero_le hx.1
 obtain⟨C,rfl⟩:=Int.eq_ofNat_of_zero_le hc.1
 obtain⟨d,hd⟩:∃d,32=s+d:=⟨32 - s,by omega⟩
 have hp:0<2^s:=Nat.pow_pos (by decide)
 have hpd:0<2^d:=Nat.pow_pos (by decide)
 have e32:4294967296=2^s*2^d:=by rw[<-Nat.pow_add,<-hd]
 have hC:C<2^s:=by
  have:=hc.2
  rw[show ((2:Int)^s)=((2^s:Nat):Int) by simp] at this
  omega
 have hX:X<2^s*2^d:=by omega
 rw[show ((2:Int)^s)=((2^s:Nat):Int) by simp,show(X:Int)*((2^s:Nat):Int)=((2^s*X:Nat):Int) by rw[Int.natCast_mul,Int.mul_comm]]
 have m1:2^s*X % 4294967296=2^s*(X % 2^d):=by rw[e32,Nat.mul_mod_mul_left]
 have q1:2^s*X / 4294967296=X / 2^d:=by rw[e32,Nat.mul_div_mul_left _ _ hp]
 have hm:=Nat.mod_lt X hpd
 have hle:2^s*(X % 2^d)+2^s<=4294967296:=by
  rw[e32,<-Nat.mul_succ]
  exact Nat.mul_le_mul_left _ hm
 have hq:X / 2^d<2^s:=Nat.div_lt_of_lt_mul (by rwa [Nat.mul_comm])
 have h:=Nat.two_pow_add_eq_or_of_lt (i:=s) hC (X % 2^d)
 have hdm:=Nat.div_add_mod (2^s*X) 4294967296
 rw[m1,q1] at hdm
 have s1:(2^s*X+C) % 4294967296=2^s*(X % 2^d)+C:=by omega
 have s2:(2^s*X+C) / 4294967296=X / 2^d:=by omega
 refine⟨?_,?_,?_,?_⟩
 ·rw[show ((2^s*X:Nat):Int) % 4294967296=((2^s*X % 4294967296:Nat):Int) by omega,show(((2^s*X:Nat):Int)+(C:Int)) % 4294967296=(((2^s*X+C) % 4294967296:Nat):Int) by omega,m1,s1]
  rw[or_nat32 _ _ (by omega) (by omega),Nat.or_comm,<-h]
 ·rw[show ((2^s*X:Nat):Int) / 4294967296=((2^s*X / 4294967296:Nat):Int) by omega,show(((2^s*X:Nat):Int)+(C:Int)) / 4294967296=(((2^s*X+C) / 4294967296:Nat):Int) by omega,q1,s2]
 ·omega
 ·rw[show ((2^s*X:Nat):Int) / 4294967296=((2^s*X / 4294967296:Nat):Int) by omega,q1]
  omega
theorem set_two (out:List Int) (c x y:Int) (m:Nat):((out++c::List.replicate (m+1) 0).set out.length x).set (out.length+1) y=(out++[x])++y::List.replicate m 0:=by
 induction out with
 | nil=>simp[List.replicate_succ]
 | cons a l ih=>simpa using ih
theorem getD_two (out:List Int) (c:Int) (m:Nat):(out++c::List.replicate (m+1) 0).getD out.length 0=c:=by
 simp[List.getD]
theorem zff {s:Nat} (hs:s<=31):(2:Int)^s<=2147483648:=by
 have:2^s<=2^31:=Nat.pow_le_pow_right (by decide) hs
 rw[show ((2:Int)^s)=((2^s:Nat):Int) by simp]
 omega
theorem mul_le31 {x:Int} {s:Nat} (hs:s<=31) (hx:0<=x/\x<=4294967295):0<=x*2^s/\x*2^s<=9223372034707292160:=by
 have hp:=zaq s
 have h1:=zff hs
 have h2:=Int.mul_le_mul hx.2 h1 (by omega) (by omega)
 exact⟨Int.mul_nonneg hx.1 (by omega),by omega⟩
theorem zg5 {w:World} {g:Nat} {os:List Int} (hb:Blk w g os) (hd:Dig os) (hl:os.length<=549755813888):Sl w (.slice (some ⟨g,0,none⟩) os.length os.length) os:=by
 refine⟨hd,hl,some ⟨g,0,none⟩,os.length,rfl,Nat.le_refl _,.inr ⟨g,0,rfl,?_,fun i hi=>by simpa using hb.cell hi⟩⟩
 unfold Blk at hb
 exact(Array.getElem?_eq_some_iff.1 hb).1
theorem zeg {w:World} {v:Value} {xs:List Int} (h:Sl w v xs):∃r,(Calls Tryz.prog 108 #[v] w fun e w'=>e=.returned r/\w'=w)/\Sl w r (trim xs):=by
 obtain⟨u,h1,h2⟩:=zdl h
 exact⟨u,h2 w (Below.refl _ _),h1⟩
theorem zf6 (q:Option Addr) (cap:Nat) (s:Int) (w:World):Calls Tryz.prog 195 #[.slice q 0 cap,.int .i64 s] w fun e w'=>e=.returned (.slice none 0 0)/\w'=w:=by
 go_enter Tryz.func195,Tryz.ntmps195
 go_wp2
 go_ret
 exact⟨rfl,rfl⟩
theorem zi3 {w:World} {b o cap:Nat} {xs:List Int} (s:Nat) (hs1:s<=31) (hne:((xs.length:Int)==0)=false) (dx:Dig xs) (lx:xs.length<=274877906944) (hb:b<w.heap.size)
  (hcx:∀i,i<xs.length->w.cell? ⟨b,o+i,none⟩=some (.int .u32 (xs.getD i 0))):
  Calls Tryz.prog 195 #[.slice (some ⟨b,o,none⟩) xs.length cap,.int .i64 s] w fun e w'=>∃r out cy,e=.returned r/\Shb xs s xs.length out cy/\Sl w' r (trim (out++[cy]))/\Below w.heap.size w w':=by
 obtain⟨i0,hi,hz0,hz1,hz2⟩:=info_parts (show(Tryz.prog.info? 150).map (fun i=>(i.zero,i.size,i.bytes))=some (some (.int .u32 0),1,4) by kernel_rfl)
 have hq:(s:Int).tdiv 32=0:=by rw[Int.tdiv_eq_ediv_of_nonneg (by omega)];omega
 have hr:(s:Int).tmod 32=s:=by rw[Int.tmod_eq_emod_of_nonneg (by omega)];omega
 have cx':=zac hcx
 have dx':Hid (Dig xs):=dx
 clear hcx dx
 go_enter Tryz.func195,Tryz.ntmps195
 go_wp2_with (at_make;refine wpList_make_full _ rfl _ _ 25 rfl w.heap.size 150 i0 (.int .u32 0) 1 Tryz.underlying25 hi hz0 hz1 _ _ _ _ (xs.length+1) rfl rfl (by omega) (by omega) (by rw[hz2];omega) (by unfold maxLen;omega) (Nat.le_refl _) ?_)
 intro w1 aB aO
 have aP:Blk w1 w.heap.size (List.replicate (xs.length+1) 0):=zbq aB
 have bP:Below w.heap.size w w1:=(Below.refl _ _).grown aO (Nat.le_refl _) (fun _ h=>by cases h)
 clear aB aO hi hz0 hz1 hz2
 go_wp2
 go_loopw [27] (fun i wr=>∃(k:Nat) (out:List Int) (cy:Int),k<=xs.length/\i=.int .i64 k/\Hid (Shb xs s k out cy)/\Blk wr w.heap.size (out++cy::List.replicate (xs.length - k) 0)/\Below w.heap.size w wr) (fun i _=>xs.length - (intOf i).toNat)
 case atStart=>exact⟨0,[],0,Nat.zero_le _,rfl,Shb.zero xs s,by simpa [List.replicate_succ] using aP,bP⟩
 case round=>
  clear aP bP
  obtain⟨k,out,cy,hk,rfl,hsh,hbk,hbw⟩:=hrel
  have aj:=hsh.out.len
  have hcy:=hsh.out.c
  have h31:=zff hs1
  by_cases hlt:k<xs.length
  ·have aA:(k:Int)<(xs.length:Int):=by omega
   obtain⟨m,hm⟩:∃m,xs.length - k=m+1:=⟨xs.length - k - 1,by omega⟩
   rw[hm] at hbk
   have cc:wr.cell? ⟨b,o+k,none⟩=some (.int .u32 (xs.getD k 0)):=(hbw.cell (by exact hb)).trans (cx'.out k hlt)
   have c2:=hbk.cell (j:=k) (by simp;omega)
   rw[<-aj,getD_two,aj] at c2
   have c3:=hbk.cell (j:=k+1) (by simp;omega)
   have hfr:=hbk.frozen k
   have hfr1:=hbk.frozen (k+1)
   generalize (out++cy::List.replicate (m+1) 0).getD (k+1) 0=Z3 at c3
   have hxk:=dx'.out k
   obtain⟨X,hX⟩:∃X,Hid (xs.getD k 0=X):=⟨_,rfl⟩
   rw[hX.out] at cc hxk
   have hor:=or_lo hxk hs1 hcy
   have hml:=mul_le31 hs1 hxk
   have ak:=hsh.out.step dx'.out (S:=X*2^s+cy) (by rw[hX.out])
   obtain⟨P,hP⟩:∃P,X*2^s=P:=⟨_,rfl⟩
   rw[hP] at hor ak hml
   obtain⟨o1,o2,o3,o4⟩:=hor
   rw[<-o2] at ak
   obtain⟨D,hD⟩:∃D,(P+cy) % 4294967296=D:=⟨_,rfl⟩
   rw[hD] at o1 ak
   obtain⟨C,hC⟩:∃C,P / 4294967296=C:=⟨_,rfl⟩
   rw[hC] at o3 o4 ak
   have ba:=set_two out cy D C m
   rw[aj] at ba
   have hB2:=(hbk.set k D).set (k+1) C
   rw[ba] at hB2
   have hB3:Hid (Blk ((wr.setCell ⟨w.heap.size,k,none⟩ (.int .u32 D)).setCell ⟨w.heap.size,k+1,none⟩ (.int .u32 C)) w.heap.size (out++[D]++C::List.replicate m 0)):=hB2
   have aI:Hid (Shb xs s (k+1) (out++[D]) C):=ak
   have hC1:C<=2147483647:=by omega
   have hD':Hid ((P+cy) % 4294967296=D):=hD
   clear ba hB2 ak o2 hD o4 hcy h31
   go_wp2
   go_roundw
   case rel=>
    refine⟨k+1,out++[D],C,by omega,by go_num,aI,?_,(hbw.setCell (Nat.le_refl _) _).setCell (Nat.le_refl _) _⟩
    rw[show xs.length - (k+1)=m by omega]
    exact hB3.out
   case measure=>simp[intOf];omega
  ·obtain rfl:k=xs.length:=by omega
   rw[Nat.sub_self,List.replicate_zero] at hbk
   have hd:Dig (out++[cy]):=zel hsh.out.dig (by omega)
   have hsl:=zg5 hbk hd (by simp;omega)
   obtain⟨r,aw,hr⟩:=zeg hsl
   rw[show (out++[cy]).length=xs.length+1 by simp[aj]] at aw
   go_wp2_with (go_at_call 108;refine aw.mono ?_;rintro e w9 ⟨rfl,rfl⟩)
   go_ret
   exact⟨r,out,cy,rfl,hsh.out,hr,hbw⟩
theorem Shb.done {xs out:List Int} {s:Nat} {cy:Int} (h:Shb xs s xs.length out cy):val (trim (out++[cy]))=val xs*2^s:=by
 have:=h.eq
 rw[List.take_length] at this
 rw[zbl,zem,h.len,this]
theorem zic {w:World} {v:Value} {xs:List Int} (hx:Sl w v xs) (lx:xs.length<=274877906944) (s:Nat) (hs:s<=31):
  Calls Tryz.prog 195 #[v,.int .i64 s] w fun e w'=>∃r zs,e=.returned r/\Sl w' r zs/\Canon zs/\val zs=val xs*2^s/\zs.length<=xs.length+1/\Below w.heap.size w w':=by
 obtain⟨dx,_,q,cap,rfl,aH,hxx⟩:=hx
 rcases hxx with rfl | ⟨b,o,rfl,hb,hc⟩
 ·refine(zf6 q cap s w).mono ?_
  rintro e w' ⟨rfl,rfl⟩
  exact⟨_,[],rfl,Sl.nil _,zbb,by simp[val],by simp,Below.refl _ _⟩
 ·by_cases h0:xs=[]
  ·subst h0
   refine(zf6 _ cap s w).mono ?_
   rintro e w' ⟨rfl,rfl⟩
   exact⟨_,[],rfl,Sl.nil _,zbb,by simp[val],by simp,Below.refl _ _⟩
  ·have hne:((xs.length:Int)==0)=false:=by
    have:xs.length≠0:=fun h=>h0 (List.eq_nil_of_length_eq_zero h)
    simp;omega
   refine(zi3 s hs hne dx lx hb hc).mono ?_
   rintro e w' ⟨r,out,cy,rfl,hsh,hr,hbw⟩
   refine⟨r,trim (out++[cy]),rfl,hr,zak _,hsh.done,?_,hbw⟩
   rw[zai]
   have:=zam (out++[cy]) (out++[cy]).length
   have h2:=hsh.len
   simp at this
   simp
   omega
end Go.Proofs.YtaonejnicgbifaaGreatDoor
