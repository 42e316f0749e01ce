import Derived.Test.YtaonejnicgbifaaGreatDoorQk27
namespace Go.Proofs.YtaonejnicgbifaaGreatDoor
open Go Go.RowKit
set_option maxRecDepth 100000
set_option maxHeartbeats 16000000
def sdIx (n:Nat) (bs:Nat->Si) (s:ByteArray):Option Nat:=(List.range n).find? fun i=>decide ((bs i).m=s)
def ixV (o:Option Nat):Int:=match o with | some i=>i | none=>-1
theorem zdf {n:Nat} {bs:Nat->Si} {s:ByteArray} {k:Nat} (hk:k<n) (h:(bs k).m=s) (hb:∀j,j<k->¬(bs j).m=s):sdIx n bs s=some k:=by
 unfold sdIx
 rw[List.find?_eq_some_iff_getElem]
 refine⟨by simp[h],k,by simpa using hk,by simp,fun j hj=>?_⟩
 simpa using hb j hj
theorem zcp {n:Nat} {bs:Nat->Si} {s:ByteArray} (hb:∀j,j<n->¬(bs j).m=s):sdIx n bs s=none:=by
 unfold sdIx
 rw[List.find?_eq_none]
 intro j hj
 simpa using hb j (List.mem_range.1 hj)
theorem zfy {n:Nat} {bs:Nat->Si} {s:ByteArray} {k:Nat} (h:sdIx n bs s=some k):k<n/\(bs k).m=s/\∀j,j<k->¬(bs j).m=s:=by
 unfold sdIx at h
 rw[List.find?_eq_some_iff_getElem] at h
 obtain⟨h1,i,hi,h2,h3⟩:=h
 simp only[List.getElem_range] at h2
 subst h2
 refine⟨by simpa using hi,by simpa using h1,fun j hj=>?_⟩
 simpa using h3 j hj
theorem zit (a b:ByteArray):(a.toList==b.toList)=decide (a=b):=by
 by_cases h:a=b
 ·simp[h]
 ·rw[decide_eq_false h]
  rw[beq_eq_false_iff_ne]
  exact fun e=>h (zd3 e)
theorem si_row:∃d,Tryz.prog.underlying 58=some d/\d.isRow=true:=⟨_,Tryz.underlying58,rfl⟩
theorem zfz:(Tryz.prog.info? 58).map (·.size)=some 9:=by kernel_rfl
theorem Si.one' (s:Si) (d:Sv):(s.cells d).toArray.all (·.oneCell')=true:=by
 rw[List.all_toArray,List.all_eq_true]
 exact Si.one s d
theorem sd83_ok {w:World} (s:Si) (d:Sv) (nm:ByteArray) (B:Nat) (hB:B<w.heap.size) (hk:w.cell? ⟨B,0,none⟩=some (.string nm)):
  Calls Tryz.prog 83 #[.agg (s.cells d).toArray,.pointer (some ⟨B,0,none⟩)] w fun e w'=>e=.returned (.bool (decide (s.m=nm)))/\Below w.heap.size w w':=by
 have hb0:Below w.heap.size w (w.alloc (.cells (s.cells d).toArray 58)):=zaa w _
 have y0:(w.alloc (.cells (s.cells d).toArray 58)).cell? ⟨w.heap.size,0,none⟩=some (.string s.m):=by
  have h:BlkI (w.alloc (.cells (s.cells d).toArray 58)) w.heap.size 58 (s.cells d).toArray:=heap_alloc_new _ _
  rw[h.cell];rfl
 have hk':=(hb0.cell (p:=⟨B,0,none⟩) hB).trans hk
 have he:=zit s.m nm
 generalize decide (s.m=nm)=R at*
 have dj:=Si.one' s d
 clear hk
 unfold Si.cells Si.iv at*
 go_enter Tryz.func83,Tryz.ntmps83
 go_wp2_with fail
 go_ret
 exact⟨rfl,hb0⟩
theorem sd30_ok {w:World} (s:Si) (d:Sv) (nm:ByteArray) (B:Nat) (hB:B<w.heap.size) (hk:w.cell? ⟨B,0,none⟩=some (.string nm)):
  Calls Tryz.prog 30 #[.agg (s.cells d).toArray,.pointer (some ⟨B,0,none⟩)] w fun e w'=>e=.returned (.bool (decide (s.m=nm)))/\Below w.heap.size w w':=by
 have hb0:Below w.heap.size w (w.alloc (.cells (s.cells d).toArray 58)):=zaa w _
 have y0:(w.alloc (.cells (s.cells d).toArray 58)).cell? ⟨w.heap.size,0,none⟩=some (.string s.m):=by
  have h:BlkI (w.alloc (.cells (s.cells d).toArray 58)) w.heap.size 58 (s.cells d).toArray:=heap_alloc_new _ _
  rw[h.cell];rfl
 have hk':=(hb0.cell (p:=⟨B,0,none⟩) hB).trans hk
 have he:=zit s.m nm
 generalize decide (s.m=nm)=R at*
 have dj:=Si.one' s d
 clear hk
 unfold Si.cells Si.iv at*
 go_enter Tryz.func30,Tryz.ntmps30
 go_wp2_with fail
 go_ret
 exact⟨rfl,hb0⟩
theorem zfa {w:World} (q:Option Addr) (c:Nat) (f:Value):
  Calls Tryz.prog 29 #[.slice q 0 c,f] w fun x w'=>x=.returned (.int .i64 (-1))/\w'=w:=by
 go_enter Tryz.func29,Tryz.ntmps29
 go_wp2_with fail
 refine wp_loop_once ?_
 go_wp2_with fail
 go_ret
 exact⟨rfl,rfl⟩
theorem zj4 {w:World} (b o n c:Nat) (bs:Nat->Si) (ds:Nat->Sv) (hn:n<=1048576) (hb:b<w.heap.size) (hx:∀i,i<n->w.rangeAt b (o+i*9) ((bs i).cells (ds i)))
  (s:ByteArray) (B:Nat) (hB:B<w.heap.size) (hk:w.cell? ⟨B,0,none⟩=some (.string s)):
  Calls Tryz.prog 29 #[.slice (some ⟨b,o,none⟩) n c,.func (.func 83) #[] #[.pointer (some ⟨B,0,none⟩)]] w fun x w'=>x=.returned (.int .i64 (ixV (sdIx n bs s)))/\Below w.heap.size w w':=by
 have hx':Hid (∀i,i<n->w.rangeAt b (o+i*9) ((bs i).cells (ds i))):=hx
 obtain⟨dd,hu,hd⟩:=si_row
 have hHu:=zac hu
 have hk':=zac hk
 clear hx hu hk
 go_enter Tryz.func29,Tryz.ntmps29
 go_wp2_with fail
 go_loopw [8] (fun i wr=>∃k:Nat,k<=n/\i=.int .i64 k/\(∀j,j<k->¬(bs j).m=s)/\Below w.heap.size w wr) (fun i _=>n - (intOf i).toNat)
 case atStart=>exact⟨0,Nat.zero_le _,rfl,fun j hj=>by omega,Below.refl _ _⟩
 case round=>
  obtain⟨k,hk,rfl,aE,hbw⟩:=hrel
  have aN:Hid (∀j,j<k->¬(bs j).m=s):=aE
  clear aE
  by_cases hlt:k<n
  ·have aA:(k:Int)<(n:Int):=by omega
   have hx:=zad (hx'.out k hlt) hbw hb
   have lx:=Si.len (bs k) (ds k)
   have ox':Hid (((bs k).cells (ds k)).toArray.all (·.oneCell')=true):=Si.one' _ _
   have aw:=sd83_ok (w:=wr) (bs k) (ds k) s B (Nat.lt_of_lt_of_le hB hbw.size) ((hbw.cell (p:=⟨B,0,none⟩) hB).trans hk'.out)
   obtain⟨M,hM⟩:∃M,Hid ((bs k).m=M):=⟨_,rfl⟩
   rw[hM.out] at aw
   generalize (bs k).cells (ds k)=cx at*
   by_cases hq:M=s
   ·rw[decide_eq_true hq] at aw
    have hq':Hid (M=s):=hq
    clear hq
    go_wp2_with (first
     | (with_reducible refine wpList_load_mid (op:=⟨some 15,_,_,_,_,_⟩) ?_ 58 (.tmp 14) ?_ (b) (o+k*9) ?_ cx dd ?_ hHu.out hd ?_ ?_
        rotate_left 1
        ·with_reducible rfl
        ·kernel_rfl
        ·exact hx
        ·(rw[lx];exact zfz)
        rotate_left 1
        ·rfl)
     | (go_at_call 83;refine aw.mono ?_;rintro x w5 ⟨rfl,hb5⟩))
    go_ret
    refine⟨?_,hbw.trans (hb5.mono hbw.size)⟩
    rw[zdf hlt (hM.out.trans hq'.out) aN.out]
    rfl
   ·rw[decide_eq_false hq] at aw
    have hq':Hid (¬M=s):=hq
    clear hq
    go_wp2_with (first
     | (with_reducible refine wpList_load_mid (op:=⟨some 15,_,_,_,_,_⟩) ?_ 58 (.tmp 14) ?_ (b) (o+k*9) ?_ cx dd ?_ hHu.out hd ?_ ?_
        rotate_left 1
        ·with_reducible rfl
        ·kernel_rfl
        ·exact hx
        ·(rw[lx];exact zfz)
        rotate_left 1
        ·rfl)
     | (go_at_call 83;refine aw.mono ?_;rintro x w5 ⟨rfl,hb5⟩))
    go_roundw
    case rel=>
     refine⟨k+1,by omega,by go_num,fun j hj=>?_,hbw.trans (hb5.mono hbw.size)⟩
     rcases Nat.lt_or_ge j k with h | h
     ·exact aN.out j h
     ·obtain rfl:j=k:=by omega
      rw[hM.out]
      exact hq'.out
    case measure=>simp[intOf];omega
  ·obtain rfl:k=n:=by omega
   go_wp2_with fail
   go_ret
   refine⟨?_,hbw⟩
   rw[zcp aN.out]
   rfl
theorem idx83_ok {w:World} {q:Option Addr} {n:Nat} (c:Nat) {bs:Nat->Si} (h:SisOk w q n bs) (hn:n<=1048576) (s:ByteArray) (B:Nat) (hB:B<w.heap.size) (hk:w.cell? ⟨B,0,none⟩=some (.string s)):
  Calls Tryz.prog 29 #[.slice q n c,.func (.func 83) #[] #[.pointer (some ⟨B,0,none⟩)]] w fun x w'=>x=.returned (.int .i64 (ixV (sdIx n bs s)))/\Below w.heap.size w w':=by
 rcases h with rfl | ⟨b,o,rfl,hlt,ds,hds⟩
 ·refine(zfa q c _).mono ?_
  rintro x w' ⟨rfl,rfl⟩
  exact⟨rfl,Below.refl _ _⟩
 ·exact zj4 b o n c bs ds hn hlt (fun i hi=>(hds i hi).1) s B hB hk
theorem zj5 {w:World} (b o n c:Nat) (bs:Nat->Si) (ds:Nat->Sv) (hn:n<=1048576) (hb:b<w.heap.size) (hx:∀i,i<n->w.rangeAt b (o+i*9) ((bs i).cells (ds i)))
  (s:ByteArray) (B:Nat) (hB:B<w.heap.size) (hk:w.cell? ⟨B,0,none⟩=some (.string s)):
  Calls Tryz.prog 29 #[.slice (some ⟨b,o,none⟩) n c,.func (.func 30) #[] #[.pointer (some ⟨B,0,none⟩)]] w fun x w'=>x=.returned (.int .i64 (ixV (sdIx n bs s)))/\Below w.heap.size w w':=by
 have hx':Hid (∀i,i<n->w.rangeAt b (o+i*9) ((bs i).cells (ds i))):=hx
 obtain⟨dd,hu,hd⟩:=si_row
 have hHu:=zac hu
 have hk':=zac hk
 clear hx hu hk
 go_enter Tryz.func29,Tryz.ntmps29
 go_wp2_with fail
 go_loopw [8] (fun i wr=>∃k:Nat,k<=n/\i=.int .i64 k/\(∀j,j<k->¬(bs j).m=s)/\Below w.heap.size w wr) (fun i _=>n - (intOf i).toNat)
 case atStart=>exact⟨0,Nat.zero_le _,rfl,fun j hj=>by omega,Below.refl _ _⟩
 case round=>
  obtain⟨k,hk,rfl,aE,hbw⟩:=hrel
  have aN:Hid (∀j,j<k->¬(bs j).m=s):=aE
  clear aE
  by_cases hlt:k<n
  ·have aA:(k:Int)<(n:Int):=by omega
   have hx:=zad (hx'.out k hlt) hbw hb
   have lx:=Si.len (bs k) (ds k)
   have ox':Hid (((bs k).cells (ds k)).toArray.all (·.oneCell')=true):=Si.one' _ _
   have aw:=sd30_ok (w:=wr) (bs k) (ds k) s B (Nat.lt_of_lt_of_le hB hbw.size) ((hbw.cell (p:=⟨B,0,none⟩) hB).trans hk'.out)
   obtain⟨M,hM⟩:∃M,Hid ((bs k).m=M):=⟨_,rfl⟩
   rw[hM.out] at aw
   generalize (bs k).cells (ds k)=cx at*
   by_cases hq:M=s
   ·rw[decide_eq_true hq] at aw
    have hq':Hid (M=s):=hq
    clear hq
    go_wp2_with (first
     | (with_reducible refine wpList_load_mid (op:=⟨some 15,_,_,_,_,_⟩) ?_ 58 (.tmp 14) ?_ (b) (o+k*9) ?_ cx dd ?_ hHu.out hd ?_ ?_
        rotate_left 1
        ·with_reducible rfl
        ·kernel_rfl
        ·exact hx
        ·(rw[lx];exact zfz)
        rotate_left 1
        ·rfl)
     | (go_at_call 30;refine aw.mono ?_;rintro x w5 ⟨rfl,hb5⟩))
    go_ret
    refine⟨?_,hbw.trans (hb5.mono hbw.size)⟩
    rw[zdf hlt (hM.out.trans hq'.out) aN.out]
    rfl
   ·rw[decide_eq_false hq] at aw
    have hq':Hid (¬M=s):=hq
    clear hq
    go_wp2_with (first
     | (with_reducible refine wpList_load_mid (op:=⟨some 15,_,_,_,_,_⟩) ?_ 58 (.tmp 14) ?_ (b) (o+k*9) ?_ cx dd ?_ hHu.out hd ?_ ?_
        rotate_left 1
        ·with_reducible rfl
        ·kernel_rfl
        ·exact hx
        ·(rw[lx];exact zfz)
        rotate_left 1
        ·rfl)
     | (go_at_call 30;refine aw.mono ?_;rintro x w5 ⟨rfl,hb5⟩))
    go_roundw
    case rel=>
     refine⟨k+1,by omega,by go_num,fun j hj=>?_,hbw.trans (hb5.mono hbw.size)⟩
     rcases Nat.lt_or_ge j k with h | h
     ·exact aN.out j h
     ·obtain rfl:j=k:=by omega
      rw[hM.out]
      exact hq'.out
    case measure=>simp[intOf];omega
  ·obtain rfl:k=n:=by omega
   go_wp2_with fail
   go_ret
   refine⟨?_,hbw⟩
   rw[zcp aN.out]
   rfl
theorem idx30_ok {w:World} {q:Option Addr} {n:Nat} (c:Nat) {bs:Nat->Si} (h:SisOk w q n bs) (hn:n<=1048576) (s:ByteArray) (B:Nat) (hB:B<w.heap.size) (hk:w.cell? ⟨B,0,none⟩=some (.string s)):
  Calls Tryz.prog 29 #[.slice q n c,.func (.func 30) #[] #[.pointer (some ⟨B,0,none⟩)]] w fun x w'=>x=.returned (.int .i64 (ixV (sdIx n bs s)))/\Below w.heap.size w w':=by
 rcases h with rfl | ⟨b,o,rfl,hlt,ds,hds⟩
 ·refine(zfa q c _).mono ?_
  rintro x w' ⟨rfl,rfl⟩
  exact⟨rfl,Below.refl _ _⟩
 ·exact zj5 b o n c bs ds hn hlt (fun i hi=>(hds i hi).1) s B hB hk
theorem side_ok {w:World} {q:Option Addr} {n:Nat} (c:Nat) {bs:Nat->Si} (h:SisOk w q n bs) (hn:n<=1048576) (s:ByteArray):
  Calls Tryz.prog 53 #[.slice q n c,.string s] w fun x w'=>x=.returned (.int .i64 (ixV (sdIx n bs s)))/\Below w.heap.size w w':=by
 have hb0:Below w.heap.size w (w.alloc (.cells #[.string s] 9)):=zci _ _
 have aw:=idx83_ok c (h.below hb0) hn s w.heap.size (by simp) (by simp)
 generalize ixV (sdIx n bs s)=r at*
 go_enter Tryz.func53,Tryz.ntmps53
 go_wp2_with (go_at_call 29;refine aw.mono ?_;rintro x w5 ⟨rfl,hb5⟩)
 go_ret
 exact⟨rfl,hb0.trans (hb5.mono (by simp))⟩
theorem zgu {w:World} (b o n c:Nat) (bs:Nat->Si) (hn:n<=1048576) (hb:b<w.heap.size) (hx:∀i,i<n->w.cell? ⟨b,o+i*9,none⟩=some (.string (bs i).m)) (s:ByteArray):
  Calls Tryz.prog 64 #[.slice (some ⟨b,o,none⟩) n c,.string s] w fun x w'=>x=.returned (.int .i64 (ixV (sdIx n bs s)))/\Below w.heap.size w w':=by
 have hx':Hid (∀i,i<n->w.cell? ⟨b,o+i*9,none⟩=some (.string (bs i).m)):=hx
 clear hx
 go_enter Tryz.func64,Tryz.ntmps64
 go_wp2_with fail
 go_loopw [5] (fun i wr=>∃k:Nat,k<=n/\i=.int .i64 k/\(∀j,j<k->¬(bs j).m=s)/\Below w.heap.size w wr) (fun i _=>n - (intOf i).toNat)
 case atStart=>exact⟨0,Nat.zero_le _,rfl,fun j hj=>by omega,Below.refl _ _⟩
 case round=>
  obtain⟨k,hk,rfl,aE,hbw⟩:=hrel
  have aN:Hid (∀j,j<k->¬(bs j).m=s):=aE
  clear aE
  by_cases hlt:k<n
  ·have aA:(k:Int)<(n:Int):=by omega
   have x0:=(hbw.cell (p:=⟨b,o+k*9,none⟩) hb).trans (hx'.out k hlt)
   obtain⟨M,hM⟩:∃M,Hid ((bs k).m=M):=⟨_,rfl⟩
   rw[hM.out] at x0
   have he:=zit M s
   by_cases hq:M=s
   ·rw[decide_eq_true hq] at he
    have hq':Hid (M=s):=hq
    clear hq
    go_wp2_with fail
    go_ret
    exact⟨by rw[zdf hlt (hM.out.trans hq'.out) aN.out];rfl,hbw⟩
   ·rw[decide_eq_false hq] at he
    have hq':Hid (¬M=s):=hq
    clear hq
    go_wp2_with fail
    go_roundw
    case rel=>
     refine⟨k+1,by omega,by go_num,fun j hj=>?_,hbw⟩
     rcases Nat.lt_or_ge j k with h | h
     ·exact aN.out j h
     ·obtain rfl:j=k:=by omega
      rw[hM.out]
      exact hq'.out
    case measure=>simp[intOf];omega
  ·obtain rfl:k=n:=by omega
   go_wp2_with fail
   go_ret
   exact⟨by rw[zcp aN.out];rfl,hbw⟩
theorem zgv {w:World} (q:Option Addr) (c:Nat) (s:ByteArray):
  Calls Tryz.prog 64 #[.slice q 0 c,.string s] w fun x w'=>x=.returned (.int .i64 (-1))/\w'=w:=by
 go_enter Tryz.func64,Tryz.ntmps64
 go_wp2_with fail
 refine wp_loop_once ?_
 go_wp2_with fail
 go_ret
 exact⟨rfl,rfl⟩
theorem zj6 {w:World} {q:Option Addr} {n:Nat} (c:Nat) {bs:Nat->Si} (h:SisOk w q n bs) (hn:n<=1048576) (s:ByteArray):
  Calls Tryz.prog 64 #[.slice q n c,.string s] w fun x w'=>x=.returned (.int .i64 (ixV (sdIx n bs s)))/\Below w.heap.size w w':=by
 rcases h with rfl | ⟨b,o,rfl,hlt,ds,hds⟩
 ·refine(zgv q c s).mono ?_
  rintro x w' ⟨rfl,rfl⟩
  exact⟨rfl,Below.refl _ _⟩
 ·exact zgu b o n c bs hn hlt (fun i hi=>by simpa using (hds i hi).1 0 _ rfl) s
def cov (x:Ex) (n:Nat) (bs:Nat->Si):Bool:=x.nds.all fun p=>!decide (p.1=2)||(sdIx n bs p.2).isSome
theorem zh4 (x:Ex) (n:Nat) (bs:Nat->Si):cov x n bs=true↔∀s,(2,s)∈x.nds->(sdIx n bs s).isSome=true:=by
 unfold cov
 rw[List.all_eq_true]
 constructor
 ·intro h s hs
  simpa using h _ hs
 ·rintro h ⟨k,s⟩ hp
  by_cases hk:k=2
  ·subst hk
   simp[h s hp]
  ·simp[hk]
theorem zgw {x:Ex} {n:Nat} {bs:Nat->Si} {s:ByteArray} (h:(2,s)∈x.nds) (h2:sdIx n bs s=none):cov x n bs=false:=by
 rw[Bool.eq_false_iff]
 intro hc
 have:=(zh4 x n bs).1 hc s h
 rw[h2] at this
 cases this
theorem ixV_lt (o:Option Nat):decide (ixV o<0)=!o.isSome:=by
 cases o with
 | none=>rfl
 | some i=>
  rw[decide_eq_false (show ¬ixV (some i)<0 from fun h=>by simp only[ixV] at h;omega)]
  rfl
theorem cov_find {x:Ex} {n k:Nat} {bs:Nat->Si} {ns:Nat->ByteArray} (h:∀s,(∃i,i<k/\ns i=s)↔(2,s)∈x.nds):decide (ixV ((List.range k).find? fun i=>!(sdIx n bs (ns i)).isSome)>=0)=!cov x n bs:=by
 cases hf:(List.range k).find? fun i=>!(sdIx n bs (ns i)).isSome with
 | none=>
  rw[List.find?_eq_none] at hf
  have:cov x n bs=true:=by
   rw[zh4]
   intro s hs
   obtain⟨i,hi,rfl⟩:=(h s).2 hs
   have h1:=hf i (List.mem_range.2 hi)
   cases hq:(sdIx n bs (ns i)).isSome with
   | true=>rfl
   | false=>exact absurd (by rw[hq];rfl) h1
  rw[this]
  rfl
 | some i=>
  have h1:=List.find?_some hf
  have h2:=List.mem_of_find?_eq_some hf
  rw[zgw ((h (ns i)).1 ⟨i,List.mem_range.1 h2,rfl⟩) (by simpa using h1)]
  simp[ixV]
theorem cov52_ok {w:World} {q:Option Addr} {n:Nat} (c:Nat) {bs:Nat->Si} (h:SisOk w q n bs) (hn:n<=1048576) (s:ByteArray) (B:Nat) (_hB:B<w.heap.size) (hk:w.cell? ⟨B,0,none⟩=some (.slice q n c)):
  Calls Tryz.prog 52 #[.string s,.pointer (some ⟨B,0,none⟩)] w fun e w'=>e=.returned (.bool (!(sdIx n bs s).isSome))/\Below w.heap.size w w':=by
 have aw:=side_ok c h hn s
 rw[<-ixV_lt]
 generalize ixV (sdIx n bs s)=r at*
 clear h
 go_enter Tryz.func52,Tryz.ntmps52
 go_wp2_with (go_at_call 53;with_reducible refine aw.mono ?_;rintro x w5 ⟨rfl,hb5⟩)
 go_ret
 exact⟨rfl,hb5⟩
theorem zj7 {w:World} (b o k ck:Nat) (ns:Nat->ByteArray) (hk0:k<=1048576) (hb:b<w.heap.size) (hx:∀i,i<k->w.cell? ⟨b,o+i,none⟩=some (.string (ns i)))
  {q:Option Addr} {n c:Nat} {bs:Nat->Si} (h:SisOk w q n bs) (hn:n<=1048576) (B:Nat) (hB:B<w.heap.size) (hk:w.cell? ⟨B,0,none⟩=some (.slice q n c)):
  Calls Tryz.prog 82 #[.slice (some ⟨b,o,none⟩) k ck,.func (.func 52) #[] #[.pointer (some ⟨B,0,none⟩)]] w fun x w'=>x=.returned (.int .i64 (ixV ((List.range k).find? fun i=>!(sdIx n bs (ns i)).isSome)))/\Below w.heap.size w w':=by
 have hx':=zac hx
 have hk':=zac hk
 have h':Hid (SisOk w q n bs):=h
 clear hx hk h
 go_enter Tryz.func82,Tryz.ntmps82
 go_wp2_with fail
 go_loopw [8] (fun i wr=>∃j:Nat,j<=k/\i=.int .i64 j/\Hid (∀i,i<j->(sdIx n bs (ns i)).isSome=true)/\Below w.heap.size w wr) (fun i _=>k - (intOf i).toNat)
 case atStart=>exact⟨0,Nat.zero_le _,rfl,fun j hj=>by omega,Below.refl _ _⟩
 case round=>
  obtain⟨j,hj,rfl,aE,hbw⟩:=hrel
  by_cases hlt:j<k
  ·have aA:(j:Int)<(k:Int):=by omega
   have x0:=(hbw.cell (p:=⟨b,o+j,none⟩) hb).trans (hx'.out j hlt)
   have aw:=cov52_ok c (h'.out.below hbw) hn (ns j) B (Nat.lt_of_lt_of_le hB hbw.size) ((hbw.cell (p:=⟨B,0,none⟩) hB).trans hk'.out)
   obtain⟨R,hR⟩:∃R,Hid ((sdIx n bs (ns j)).isSome=R):=⟨_,rfl⟩
   rw[hR.out] at aw
   cases R with
   | false=>
    go_wp2_with (go_at_call 52;with_reducible refine aw.mono ?_;rintro x w5 ⟨rfl,hb5⟩)
    go_ret
    have hs:((List.range k).find? fun i=>!(sdIx n bs (ns i)).isSome)=some j:=by
     rw[List.find?_eq_some_iff_getElem]
     refine⟨by rw[hR.out];rfl,j,by simpa using hlt,by simp,fun i hi=>?_⟩
     have:=aE.out i hi
     simp[this]
    exact⟨by rw[hs];rfl,hbw.trans (hb5.mono hbw.size)⟩
   | true=>
    go_wp2_with (go_at_call 52;with_reducible refine aw.mono ?_;rintro x w5 ⟨rfl,hb5⟩)
    go_roundw
    case rel=>
     refine⟨j+1,by omega,by go_num,fun i hi=>?_,hbw.trans (hb5.mono hbw.size)⟩
     rcases Nat.lt_or_ge i j with h | h
     ·exact aE.out i h
     ·obtain rfl:i=j:=by omega
      exact hR.out
    case measure=>simp[intOf];omega
  ·obtain rfl:j=k:=by omega
   go_wp2_with fail
   go_ret
   have hs:((List.range j).find? fun i=>!(sdIx n bs (ns i)).isSome)=none:=by
    rw[List.find?_eq_none]
    intro i hi
    simp[aE.out i (List.mem_range.1 hi)]
   exact⟨by rw[hs];rfl,hbw⟩
theorem zj8 {w:World} (q:Option Addr) (c:Nat) (f:Value):Calls Tryz.prog 82 #[.slice q 0 c,f] w fun x w'=>x=.returned (.int .i64 (-1))/\w'=w:=by
 go_enter Tryz.func82,Tryz.ntmps82
 go_wp2_with fail
 refine wp_loop_once ?_
 go_wp2_with fail
 go_ret
 exact⟨rfl,rfl⟩
theorem has52_ok {w:World} {q0:Option Addr} {k ck:Nat} {ns:Nat->ByteArray} (hs:StrsOk w q0 k ns) (hk0:k<=1048576) {q:Option Addr} {n c:Nat} {bs:Nat->Si} (h:SisOk w q n bs) (hn:n<=1048576) (B:Nat) (hB:B<w.heap.size) (hk:w.cell? ⟨B,0,none⟩=some (.slice q n c)):
  Calls Tryz.prog 51 #[.slice q0 k ck,.func (.func 52) #[] #[.pointer (some ⟨B,0,none⟩)]] w fun x w'=>x=.returned (.bool (decide (ixV ((List.range k).find? fun i=>!(sdIx n bs (ns i)).isSome)>=0)))/\Below w.heap.size w w':=by
 have aw:Calls Tryz.prog 82 #[.slice q0 k ck,.func (.func 52) #[] #[.pointer (some ⟨B,0,none⟩)]] w fun x w'=>x=.returned (.int .i64 (ixV ((List.range k).find? fun i=>!(sdIx n bs (ns i)).isSome)))/\Below w.heap.size w w':=by
  rcases hs with rfl | ⟨b,o,rfl,hlt,hc⟩
  ·refine(zj8 q0 ck _).mono ?_
   rintro x w' ⟨rfl,rfl⟩
   exact⟨rfl,Below.refl _ _⟩
  ·exact zj7 b o k ck ns hk0 hlt hc h hn B hB hk
 generalize ixV _=r at*
 clear hs h hk
 go_enter Tryz.func51,Tryz.ntmps51
 go_wp2_with (go_at_call 82;with_reducible refine aw.mono ?_;rintro x w5 ⟨rfl,hb5⟩)
 go_ret
 exact⟨rfl,hb5⟩
theorem zfb {w:World} {x:Ex} {d:Nd} {a:Nat} (hx:ExOk w x d) (hT:Tb w) (hv:x.cnt 1 0=some a) {q:Option Addr} {n:Nat} (c:Nat) {bs:Nat->Si} (h:SisOk w q n bs) (hn:n<=1048576):
  Calls Tryz.prog 27 #[d.val,.slice q n c] w fun e w'=>e=.returned (.bool (cov x n bs))/\Below w.heap.size w w':=by
 have hb0:Below w.heap.size w ((w.alloc (.cells (nA d) 30)).alloc (.cells #[.slice q n c] 31)):=zah w _ _
 have hva:=zka (hx.below hb0) (hT.below hb0) hv
 simp only[Nd.val] at hva ⊢
 have aQ:=zac hb0
 have hh:=fun z (hz:Below w.heap.size w z) q0 k ck ns (hs:StrsOk z q0 k ns) (hk:k<=300) (hk1:∀s,(∃i,i<k/\ns i=s)↔(2,s)∈x.nds) (B:Nat) (hB:B<z.heap.size) (hk2:z.cell? ⟨B,0,none⟩=some (.slice q n c))=>
  (has52_ok (ck:=ck) hs (by omega) (h.below hz) hn B hB hk2).mono (R':=fun e w'=>e=.returned (.bool (!cov x n bs))/\Below z.heap.size z w') fun e w' he=>by rw[cov_find hk1] at he;exact he
 have hh':Hid (∀z,Below w.heap.size w z->∀q0 k ck ns,StrsOk z q0 k ns->k<=300->(∀s,(∃i,i<k/\ns i=s)↔(2,s)∈x.nds)->∀B,B<z.heap.size->z.cell? ⟨B,0,none⟩=some (.slice q n c)->Calls Tryz.prog 51 #[.slice q0 k ck,.func (.func 52) #[] #[.pointer (some ⟨B,0,none⟩)]] z fun e w'=>e=.returned (.bool (!cov x n bs))/\Below z.heap.size z w'):=hh
 generalize cov x n bs=R at*
 clear hh hb0 h hx
 go_enter Tryz.func27,Tryz.ntmps27
 go_wp2_with (first
  | (go_at_call 50;with_reducible refine hva.mono ?_;rintro e w3 ⟨⟨q0,k,ck,ns,rfl,g1,g2,g3⟩,hb3⟩
     have y0:w3.cell? ⟨w.heap.size+1,0,none⟩=some (.slice q n c):=(hb3.cell (p:=⟨w.heap.size+1,0,none⟩) (by show w.heap.size+1<_;simp)).trans (by simp)
     have j7:w.heap.size+1<w3.heap.size:=Nat.lt_of_lt_of_le (by simp) hb3.size
     have hw3:Hid (Below w.heap.size w w3):=aQ.out.trans (hb3.mono aQ.out.size)
     have hc3:=hh'.out w3 hw3.out q0 k ck ns g1 g2 g3 (w.heap.size+1) j7 y0
     clear hva hb3 g1 g2 g3)
  | (go_at_call 51;with_reducible refine hc3.mono ?_;rintro e w4 ⟨rfl,hb4⟩))
 go_ret
 exact⟨by simp,hw3.out.trans (hb4.mono hw3.out.size)⟩
theorem zgx {w:World} {x:Ex} {d:Nd} {a:Nat} (hx:ExOk w x d) (hv:x.cnt 1 0=some a) {q:Option Addr} {n:Nat} (c:Nat) {bs:Nat->Si} (h:SisOk w q n bs) (hn:n<=1048576):
  Calls Tryz.prog 37 #[d.val,.slice q n c] w fun e w'=>e=.returned (.bool (cov x n bs))/\Below w.heap.size w w':=by
 have hb0:Below w.heap.size w (w.alloc (.cells (nA d) 30)):=zaa w _
 have hle:=Ex.cnt_le x 1 0 a hv
 have aj:=(zhr x 1 0 a hv).1
 have hnm:=names_ok x d _ none 0 0 [] (hx.below hb0) ⟨rfl,Nat.le_refl _,Nat.zero_le _,.inl ⟨rfl,rfl,rfl⟩⟩ (by simp only[List.length_nil];omega)
 simp only[Nd.val] at hnm ⊢
 have aQ:=zac hb0
 have h':Hid (SisOk w q n bs):=h
 clear hb0 h hx
 go_enter Tryz.func37,Tryz.ntmps37
 go_wp2_with (go_at_call 63;with_reducible refine hnm.mono ?_;rintro e w3 ⟨q',n',c',rfl,hN3,hb3⟩)
 have hw3:Hid (Below w.heap.size w w3):=aQ.out.trans (hb3.mono aQ.out.size)
 obtain⟨L,g1,g2,g3⟩:=hN3
 have g3':Hid (∀t,t∈L↔(2,t)∈x.nds):=fun t=>by rw[g3 t,cnt_nms x 1 0 a hv];simp
 simp only[List.length_nil] at g2
 obtain⟨rfl,e2,e3,e4⟩:=g1
 have e4':=zac e4
 clear g3 e4 hb3 hnm
 go_loopw [6] (fun i wr=>∃j:Nat,j<=L.length/\i=.int .i64 j/\Hid (∀i k,i<j->L[i]?=some k->(sdIx n bs k).isSome=true)/\Below w3.heap.size w3 wr) (fun i _=>L.length - (intOf i).toNat)
 case atStart=>exact⟨0,Nat.zero_le _,rfl,fun i k hi=>by omega,Below.refl _ _⟩
 case round=>
  obtain⟨j,hj,rfl,aE,hbw⟩:=hrel
  by_cases hlt:j<L.length
  ·have aA:(j:Int)<(L.length:Int):=by omega
   obtain⟨b,o,rfl,hbl,hc⟩:=e4'.out.resolve_left (by omega)
   have aS:L[j]?=some L[j]:=List.getElem?_eq_getElem hlt
   have x0:=(hbw.cell (p:=⟨b,o+j,none⟩) hbl).trans (hc j _ aS)
   have hsd:=zj6 c (h'.out.below (hw3.out.trans (hbw.mono hw3.out.size))) hn L[j]
   have hlv:=ixV_lt (sdIx n bs L[j])
   have fJ:Hid (L[j]?=some L[j]):=aS
   obtain⟨O,hO⟩:∃O,sdIx n bs L[j]=O:=⟨_,rfl⟩
   have hO:Hid (sdIx n bs L[j]=O):=hO
   rw[hO.out] at hsd hlv
   generalize hs:L[j]=s at*
   clear aS hc hs
   cases O with
   | none=>
    have cZ:(ixV none:Int)<0:=by decide
    generalize ixV none=r at*
    go_wp2_with (go_at_call 64;with_reducible refine hsd.mono ?_;rintro e w5 ⟨rfl,hb5⟩)
    go_ret
    refine⟨?_,hw3.out.trans ((hbw.trans (hb5.mono hbw.size)).mono hw3.out.size)⟩
    rw[zgw ((g3'.out s).1 (List.mem_of_getElem? fJ.out)) hO.out]
    rfl
   | some i=>
    have cZ:¬(ixV (some i):Int)<0:=fun h=>by simp only[ixV] at h;omega
    generalize ixV (some i)=r at*
    go_wp2_with (go_at_call 64;with_reducible refine hsd.mono ?_;rintro e w5 ⟨rfl,hb5⟩)
    go_roundw
    case rel=>
     refine⟨j+1,by omega,by go_num,fun i' k hi hk=>?_,hbw.trans (hb5.mono hbw.size)⟩
     rcases Nat.lt_or_ge i' j with h | h
     ·exact aE.out i' k h hk
     ·obtain rfl:i'=j:=by omega
      rw[fJ.out] at hk
      cases hk
      rw[hO.out]
      rfl
    case measure=>simp[intOf];omega
  ·obtain rfl:j=L.length:=by omega
   go_wp2_with fail
   go_ret
   refine⟨?_,hw3.out.trans (hbw.mono hw3.out.size)⟩
   have:cov x n bs=true:=by
    rw[zh4]
    intro s hs
    obtain⟨i,hi,he⟩:=List.getElem_of_mem ((g3'.out s).2 hs)
    exact aE.out i s hi (by rw[List.getElem?_eq_getElem hi,he])
   rw[this]
   rfl
end Go.Proofs.YtaonejnicgbifaaGreatDoor
