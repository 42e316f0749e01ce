import Derived.Test.YtfhjhnofkaiceaaGreatDoorLbE
import Derived.Test.YtfhjhnofkaiceaaGreatDoorLbC
import Derived.Test.YtfhjhnofkaiceaaGreatDoorLbD
namespace Go.Proofs.YtfhjhnofkaiceaaGreatDoor
open Go Go.RowKit
set_option maxRecDepth 100000 in
set_option maxHeartbeats 1000000 in
theorem in_ok {w:World} {q:Option Addr} {n c:Nat} {K:List Ky} (h:KsOk w q n c K) (hn:n<=2097152) (k0:Ky):
  Calls Tryz.prog 37 #[.slice q n c,.agg #[.string k0.1,.int .i64 k0.2]] w fun x w'=>x=.returned (.bool (decide (k0∈K)))/\Below w.heap.size w w':=by
 have hb0:Below w.heap.size w (w.alloc (.cells #[.string k0.1,.int .i64 k0.2] 24)):=zaa _ _
 have e0:(w.alloc (.cells #[.string k0.1,.int .i64 k0.2] 24)).cell? ⟨w.heap.size,0,none⟩=some (.string k0.1):=by simp
 have e1:(w.alloc (.cells #[.string k0.1,.int .i64 k0.2] 24)).cell? ⟨w.heap.size,1,none⟩=some (.int .i64 k0.2):=by simp
 have ez:w.heap.size+1<=(w.alloc (.cells #[.string k0.1,.int .i64 k0.2] 24)).heap.size:=by simp
 obtain⟨hL,_,_,h4⟩:=h
 rcases Nat.eq_zero_or_pos n with h0 | hpos
 ·subst h0
  obtain rfl:K=[]:=List.eq_nil_of_length_eq_zero hL
  clear h4 e0 e1 ez
  rw[show decide (k0∈([]:List Ky))=false by simp]
  go_enter Tryz.func37,Tryz.ntmps37
  go_wp2_with fail
  refine wp_loop_once ?_
  go_wp2_with fail
  go_ret
  exact⟨rfl,hb0⟩
 rcases h4 with⟨_,h,_⟩ | ⟨b,o,rfl,hlt,hc⟩
 ·omega
 have hc':Hid (∀i k,K[i]?=some k->w.rangeAt b (o+i*2) (kcells k)):=hc
 clear hc
 go_enter Tryz.func37,Tryz.ntmps37
 go_wp2_with fail
 go_loopw [9] (fun i wr=>∃k:Nat,k<=n/\i=.int .i64 k/\(∀x∈K.take k,¬x=k0)/\Below w.heap.size w wr/\w.heap.size+1<=wr.heap.size/\wr.cell? ⟨w.heap.size,0,none⟩=some (.string k0.1)/\wr.cell? ⟨w.heap.size,1,none⟩=some (.int .i64 k0.2)) (fun i _=>n - (intOf i).toNat)
 case atStart=>exact⟨0,Nat.zero_le _,rfl,by simp,hb0,ez,e0,e1⟩
 case round=>
  clear hb0 e0 e1 ez
  obtain⟨k,hk,rfl,hlow,hbw,hsz,c0,c1⟩:=hrel
  have hlow':Hid (∀x∈K.take k,¬x=k0):=hlow
  clear hlow
  by_cases hlt2:k<n
  ·have hlt':(k:Int)<(n:Int):=by omega
   obtain⟨a,ha⟩:∃a,K[k]?=some a:=⟨_,List.getElem?_eq_getElem (by omega)⟩
   have hr:=rangeAt_below (hc'.out k a ha) hbw hlt
   have d0:=hr 0 _ rfl
   have d1:=hr 1 _ rfl
   rw[Nat.add_zero] at d0
   have ha':Hid (K[k]?=some a):=ha
   have f0:∀ob,(wr.alloc ob).cell? ⟨w.heap.size,0,none⟩=some (.string k0.1):=fun ob=>(World.cell?_alloc_lt _ _ _ (by show w.heap.size<_;omega)).trans c0
   have f1:∀ob,(wr.alloc ob).cell? ⟨w.heap.size,1,none⟩=some (.int .i64 k0.2):=fun ob=>(World.cell?_alloc_lt _ _ _ (by show w.heap.size<_;omega)).trans c1
   have hb2:∀ob,Below w.heap.size w (wr.alloc ob):=fun ob=>hbw.alloc hbw.size _
   clear ha hr
   by_cases he:a=k0
   ·subst he
    go_wp2_with fail
    go_ret
    have hm:a∈K:=List.mem_of_getElem? ha'.out
    exact⟨by rw[decide_eq_true hm];rfl,hb2 _⟩
   ·have he':Hid (¬a=k0):=he
    have hd:=ky_ne he
    clear he
    rcases hd with heb | ⟨heb,hav⟩
    ·go_wp2_with fail
     go_roundw
     case rel=>
      refine⟨k+1,by omega,by go_num,fun x hx=>?_,hb2 _,by simp;omega,f0 _,f1 _⟩
      rw[List.take_add_one,ha'.out] at hx
      rcases List.mem_append.1 hx with hx | hx
      ·exact hlow'.out x hx
      ·simp at hx
       exact hx ▸ he'.out
     case measure=>simp[intOf];omega
    ·go_wp2_with fail
     go_roundw
     case rel=>
      refine⟨k+1,by omega,by go_num,fun x hx=>?_,hb2 _,by simp;omega,f0 _,f1 _⟩
      rw[List.take_add_one,ha'.out] at hx
      rcases List.mem_append.1 hx with hx | hx
      ·exact hlow'.out x hx
      ·simp at hx
       exact hx ▸ he'.out
     case measure=>simp[intOf];omega
  ·obtain rfl:k=n:=by omega
   go_wp2_with fail
   go_ret
   have hm:¬k0∈K:=fun hm=>hlow'.out k0 (by rw[List.take_of_length_le (by omega)];exact hm) rfl
   exact⟨by rw[decide_eq_false hm];rfl,hbw⟩
set_option maxRecDepth 100000 in
set_option maxHeartbeats 1000000 in
theorem zfr {w:World} {q:Option Addr} {n c:Nat} {K:List Ky} (h:KsOk w q n c K) (hn:n<=2097152) (k0:Ky):
  Calls Tryz.prog 52 #[.slice q n c,.agg #[.string k0.1,.int .i64 k0.2]] w fun x w'=>x=.returned (.int .i64 (ixI K k0))/\Below w.heap.size w w':=by
 have hb0:Below w.heap.size w (w.alloc (.cells #[.string k0.1,.int .i64 k0.2] 24)):=zaa _ _
 have e0:(w.alloc (.cells #[.string k0.1,.int .i64 k0.2] 24)).cell? ⟨w.heap.size,0,none⟩=some (.string k0.1):=by simp
 have e1:(w.alloc (.cells #[.string k0.1,.int .i64 k0.2] 24)).cell? ⟨w.heap.size,1,none⟩=some (.int .i64 k0.2):=by simp
 obtain⟨hL,_,_,h4⟩:=h
 rcases Nat.eq_zero_or_pos n with h0 | hpos
 ·subst h0
  obtain rfl:K=[]:=List.eq_nil_of_length_eq_zero hL
  clear h4 e0 e1
  rw[show ixI ([]:List Ky) k0=-1 from rfl]
  go_enter Tryz.func52,Tryz.ntmps52
  go_wp2_with fail
  refine wp_loop_once ?_
  go_wp2_with fail
  go_ret
  exact⟨rfl,hb0⟩
 rcases h4 with⟨_,h,_⟩ | ⟨b,o,rfl,hlt,hc⟩
 ·omega
 have hc':Hid (∀i k,K[i]?=some k->w.rangeAt b (o+i*2) (kcells k)):=hc
 clear hc
 go_enter Tryz.func52,Tryz.ntmps52
 go_wp2_with fail
 go_loopw [8] (fun i wr=>∃k:Nat,k<=n/\i=.int .i64 k/\(∀j a,j<k->K[j]?=some a->¬a=k0)/\∃nn,wr=(w.alloc (.cells #[.string k0.1,.int .i64 k0.2] 24)).drewN nn) (fun i _=>n - (intOf i).toNat)
 case atStart=>exact⟨0,Nat.zero_le _,rfl,fun j a hj=>by omega,0,rfl⟩
 case round=>
  obtain⟨k,hk,rfl,hlow,nn,rfl⟩:=hrel
  have hlow':Hid (∀j a,j<k->K[j]?=some a->¬a=k0):=hlow
  clear hlow
  by_cases hlt2:k<n
  ·have hlt':(k:Int)<(n:Int):=by omega
   obtain⟨a,ha⟩:∃a,K[k]?=some a:=⟨_,List.getElem?_eq_getElem (by omega)⟩
   have hr:=rangeAt_below (hc'.out k a ha) hb0 hlt
   have d0:=hr 0 _ rfl
   have d1:=hr 1 _ rfl
   rw[Nat.add_zero] at d0
   have ha':Hid (K[k]?=some a):=ha
   clear ha hr
   by_cases he:k0=a
   ·subst he
    go_wp2_with fail
    go_quiet (fail)
    go_wp2_with fail
    go_ret
    have hs:ixK K k0=some k:=zcr ha'.out hlow'.out
    refine⟨?_,below_drewN (below_drewN hb0 _) _⟩
    unfold ixI
    rw[hs]
    rfl
   ·have he':Hid (¬k0=a):=he
    have hd:=ky_ne he
    clear he
    rcases hd with heb | ⟨heb,hav⟩
    ·go_wp2_with fail
     go_quiet (fail)
     go_wp2_with fail
     go_roundw
     case rel=>
      refine⟨k+1,by omega,by go_num,fun j x hj hx=>?_,_,rfl⟩
      rcases Nat.lt_or_ge j k with h | h
      ·exact hlow'.out j x h hx
      ·obtain rfl:j=k:=by omega
       rw[ha'.out] at hx
       cases hx
       exact fun e=>he'.out e.symm
     case measure=>simp[intOf];omega
    ·go_wp2_with fail
     go_quiet (fail)
     go_wp2_with fail
     go_roundw
     case rel=>
      refine⟨k+1,by omega,by go_num,fun j x hj hx=>?_,_,rfl⟩
      rcases Nat.lt_or_ge j k with h | h
      ·exact hlow'.out j x h hx
      ·obtain rfl:j=k:=by omega
       rw[ha'.out] at hx
       cases hx
       exact fun e=>he'.out e.symm
     case measure=>simp[intOf];omega
  ·obtain rfl:k=n:=by omega
   go_wp2_with fail
   go_ret
   have hs:ixK K k0=none:=zcs fun j a ha=>hlow'.out j a (by
    have:=(List.getElem?_eq_some_iff.1 ha).1
    omega) ha
   refine⟨?_,below_drewN hb0 _⟩
   unfold ixI
   rw[hs]
   rfl
set_option maxRecDepth 100000 in
theorem zdw {w:World} {q:Option Addr} {n c:Nat} {K:List Ky} (h:KsOk w q n c K) (hn:n<=2097152) (k0:Ky):
  Calls Tryz.prog 33 #[.slice q n c,.agg #[.string k0.1,.int .i64 k0.2]] w fun x w'=>x=.returned (.bool (decide (k0∈K)))/\Below w.heap.size w w':=by
 have hb0:Below w.heap.size w (w.alloc (.cells #[.string k0.1,.int .i64 k0.2] 24)):=zaa _ _
 have hcall:=zfr (h.below hb0) hn k0
 rw[<-zeu]
 unfold ixI at hcall
 cases hi:ixK K k0 with
 | none=>
  rw[hi] at hcall
  simp only[Option.isSome_none] at hcall ⊢
  clear hi h
  go_enter Tryz.func33,Tryz.ntmps33
  go_wp2_with (go_at_call 52;refine hcall.mono ?_;rintro x w5 ⟨rfl,hb5⟩)
  go_ret
  exact⟨rfl,hb0.trans (hb5.mono (by simp))⟩
 | some i=>
  rw[hi] at hcall
  simp only[Option.isSome_some] at hcall ⊢
  have hi0:(0:Int)<=(i:Int):=by omega
  clear hi h
  go_enter Tryz.func33,Tryz.ntmps33
  go_wp2_with (go_at_call 52;refine hcall.mono ?_;rintro x w5 ⟨rfl,hb5⟩)
  go_ret
  exact⟨rfl,hb0.trans (hb5.mono (by simp))⟩
end Go.Proofs.YtfhjhnofkaiceaaGreatDoor
