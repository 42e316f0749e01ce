import Derived.Laws.EntriesVeiled
import Derived.Test.YtnnhofmknilopaaGreatDoorPk16
namespace Go.Proofs.YtnnhofmknilopaaGreatDoor
open Go Go.Proofs.YtnnhofmknilopaaGreatDoor.Gx Go.RowKit
set_option maxRecDepth 100000
set_option maxHeartbeats 16000000
def cntF (P:Nat->Nat->Option Nat):Nat->Nat->Option Nat
 | 0,n=>some n
 | c+1,n=>(cntF P c n).bind (P c)
def Ex.cnt:Ex->Nat->Nat->Option Nat
 | .non,_,_=>none
 | .mk k f ng nu de m c ar,d,n=>if n+1<=300/\d<=30/\nodeOk k f ng (val nu) (val de) m c=true then cntF (fun i a=>(ar i).cnt (d+1) a) c (n+1) else none
def resP (o:Option Nat):Int:=match o with | some n=>n | none=>301
def resQ (o:Option Nat):Int:=match o with | some n=>300 - n | none=>-1
theorem cntF_le {P:Nat->Nat->Option Nat} (hP:∀i a a',P i a=some a'->a'<=300):∀{c n a:Nat},n<=300->cntF P c n=some a->a<=300
 | 0,n,a,hn,h=>by
  simp only[cntF,Option.some.injEq] at h
  omega
 | c+1,n,a,hn,h=>by
  unfold cntF at h
  cases hq:cntF P c n with
  | none=>rw[hq] at h;cases h
  | some x=>rw[hq] at h;exact hP _ _ _ h
theorem Ex.cnt_le:∀(x:Ex) (d n a:Nat),x.cnt d n=some a->a<=300:=by
 intro x
 induction x with
 | non=>intro d n a h;cases h
 | mk k f ng nu de m c ar ih=>
  intro d n a h
  unfold Ex.cnt at h
  split at h
  ·rename_i hc
   exact cntF_le (fun i a a'=>ih i _ a a') hc.1 h
  ·cases h
theorem zhu {P:Nat->Nat->Option Nat} {i a c n:Nat} (h1:cntF P i n=some a) (h2:P i a=none) (hi:i<c):cntF P c n=none:=by
 induction c with
 | zero=>omega
 | succ c ih=>
  unfold cntF
  rcases Nat.lt_or_ge i c with h | h
  ·rw[ih h];rfl
  ·have:i=c:=by omega
   subst this
   rw[h1]
   exact h2
theorem zkq {w:World} {k f:Int} {ng:Bool} {aq cq sq:Option Addr} {ac cc sc n:Nat} {nu de:List Int} {m:ByteArray} {dep cn:Nat} {ds:Nat->Nd} {P:Nat->Nat->Option Nat} (h1:Sl w (.slice aq nu.length ac) nu) (h2:Sl w (.slice cq de.length cc) de) (ln:nu.length<=1048576) (ld:de.length<=1048576) (hT:Tb w) (hn:n<=1099511627776) (bA:n=0\/∃b o,sq=some ⟨b,o,none⟩/\b<w.heap.size/\∀i,i<n->NdAt w b (o+i*7) (ds i)) (eH:∀i a a',P i a=some a'->a'<=300) (hd:dep<=31) (hcn:cn<=300)
  (hP:∀i,i<n->dep<=30->∀a:Nat,a<=300->∀w1,Below w.heap.size w w1->Calls Tryz.prog 119 #[(ds i).val,.int .i64 ((dep:Int)+1),.int .i64 a] w1 (Rt w1 (.int .i64 (resP (P i a))))):
  Calls Tryz.prog 119 #[.agg #[.int .i64 k,.int .i64 f,.bool ng,.slice aq nu.length ac,.slice cq de.length cc,.string m,.slice sq n sc],.int .i64 dep,.int .i64 cn] w (Rt w (.int .i64 (resP (if cn+1<=300/\dep<=30/\nodeOk k f ng (val nu) (val de) m n=true then cntF P n (cn+1) else none)))):=by
 have hb0:Hid (Below w.heap.size w (w.alloc (.cells #[.int .i64 k,.int .i64 f,.bool ng,.slice aq nu.length ac,.slice cq de.length cc,.string m,.slice sq n sc] 27))):=zaa w _
 have hfl:=zlq (k:=k) (f:=f) (ng:=ng) (sq:=sq) (sc:=sc) (n:=n) (m:=m) (h1.below hb0.out) (h2.below hb0.out) (by omega) (by omega) (hT.below hb0.out)
 have bF:=zab bA
 have eI:=zab eH
 obtain⟨A,hA⟩:∃A,Hid (nodeOk k f ng (val nu) (val de) m n=A):=⟨_,rfl⟩
 rw[hA.out] at hfl ⊢
 have hP':=zab hP
 clear h1 h2 hT bA eH hP
 by_cases c1:cn+1<=300
 ·have c1':¬(cn:Int)+1 > 300:=by omega
  by_cases c2:dep<=30
  ·have c2':¬(dep:Int) > 30:=by omega
   cases A with
   | false=>
    rw[if_neg (by simp)]
    go_enter Tryz.func119,Tryz.ntmps119
    go_wp2_with (go_at_call 211;with_reducible refine hfl.mono ?_;rintro e w1 ⟨rfl,hb1⟩)
    go_ret
    exact⟨rfl,hb0.out.trans (hb1.mono hb0.out.size)⟩
   | true=>
    rw[if_pos ⟨c1,c2,rfl⟩]
    obtain⟨R,hR⟩:∃R,Hid (resP (cntF P n (cn+1))=R):=⟨_,rfl⟩
    rw[hR.out]
    clear hA
    go_enter Tryz.func119,Tryz.ntmps119
    go_wp2_with (go_at_call 211;with_reducible refine hfl.mono ?_;rintro e w1 ⟨rfl,hb1⟩
                 have x6:w1.cell? ⟨w.heap.size,6,none⟩=some (.slice sq n sc):=(hb1.cell (by show w.heap.size<_;simp)).trans (by simp)
                 have hw1:Hid (Below w.heap.size w w1):=hb0.out.trans (hb1.mono hb0.out.size)
                 clear hb1)
    go_loopw [2,25] (fun t2 t25 wr=>∃(i a:Nat),i<=n/\a<=300/\t25=.int .i64 i/\t2=.int .i64 a/\Hid (cntF P i (cn+1)=some a)/\Below w1.heap.size w1 wr) (fun _ t25 _=>n - (intOf t25).toNat)
    case atStart=>exact⟨0,cn+1,Nat.zero_le _,c1,rfl,by go_num,rfl,Below.refl _ _⟩
    case round=>
     obtain⟨i,a,hi,ha,rfl,rfl,hc,hbw⟩:=hrel
     clear x6 hfl
     by_cases hlt:i<n
     ·have aF:(i:Int)<(n:Int):=by omega
      obtain⟨b,o,rfl,hbl,hnd⟩:=bF.out.resolve_left (by omega)
      have hW:Below w.heap.size w wr:=hw1.out.trans (hbw.mono hw1.out.size)
      obtain⟨x0,x1,x2,x3,x4,x5,x6⟩:=(hnd i hlt).below hW hbl
      have hb2:Hid (Below wr.heap.size wr (wr.alloc (.cells #[.int .i64 (ds i).k,.int .i64 (ds i).f,.bool (ds i).neg,.slice (ds i).aq (ds i).an (ds i).ac,.slice (ds i).cq (ds i).cn (ds i).cc,.string (ds i).m,.slice (ds i).sq (ds i).sn (ds i).sc] 27))):=zaa wr _
      have hPk:=hP'.out i hlt c2 a ha _ (hW.trans (hb2.out.mono hW.size))
      simp only[Nd.val] at hPk
      have aH:Hid (Below w1.heap.size w1 wr):=hbw
      clear hbw hnd hW
      cases hp:P i a with
      | none=>
       rw[hp] at hPk
       have hRv:R=301:=by rw[<-hR.out,zhu hc.out hp hlt];rfl
       subst hRv
       clear hp
       simp only[resP] at hPk
       go_wp2_with (go_at_call 119;with_reducible refine hPk.mono ?_;rintro e w3 ⟨rfl,hb3⟩)
       go_ret
       exact⟨rfl,hw1.out.trans ((aH.out.trans ((hb2.out.trans (hb3.mono hb2.out.size)).mono aH.out.size)).mono hw1.out.size)⟩
      | some a'=>
       rw[hp] at hPk
       have ha':=eI.out _ _ _ hp
       have hgt:¬(a':Int) > 300:=by omega
       have hc':Hid (cntF P (i+1) (cn+1)=some a'):=by
        show cntF P (i+1) (cn+1)=some a'
        unfold cntF
        rw[hc.out]
        exact hp
       clear hp hc
       simp only[resP] at hPk
       go_wp2_with (go_at_call 119;with_reducible refine hPk.mono ?_;rintro e w3 ⟨rfl,hb3⟩)
       go_roundw
       case rel=>exact⟨i+1,a',by omega,ha',by go_num,rfl,hc',aH.out.trans ((hb2.out.trans (hb3.mono hb2.out.size)).mono aH.out.size)⟩
       case measure=>simp[intOf];omega
     ·obtain rfl:i=n:=by omega
      have hRv:R=(a:Int):=by rw[<-hR.out,hc.out];rfl
      subst hRv
      clear hc
      go_wp2
      go_ret
      exact⟨rfl,hw1.out.trans (hbw.mono hw1.out.size)⟩
  ·have c2':(dep:Int) > 30:=by omega
   rw[if_neg (by omega)]
   clear hfl
   go_enter Tryz.func119,Tryz.ntmps119
   go_wp2
   go_ret
   exact⟨rfl,hb0.out⟩
 ·have c1':(cn:Int)+1 > 300:=by omega
  rw[if_neg (by omega)]
  clear hfl
  go_enter Tryz.func119,Tryz.ntmps119
  go_wp2
  go_ret
  exact⟨rfl,hb0.out⟩
theorem zkr {w:World} {k f:Int} {ng:Bool} {aq cq sq:Option Addr} {ac cc sc n:Nat} {nu de:List Int} {m:ByteArray} {dep cn:Nat} {ds:Nat->Nd} {P:Nat->Nat->Option Nat} (h1:Sl w (.slice aq nu.length ac) nu) (h2:Sl w (.slice cq de.length cc) de) (ln:nu.length<=1048576) (ld:de.length<=1048576) (hn:n<=1099511627776) (bA:n=0\/∃b o,sq=some ⟨b,o,none⟩/\b<w.heap.size/\∀i,i<n->NdAt w b (o+i*7) (ds i)) (eH:∀i a a',P i a=some a'->a'<=300) (hd:dep<=31) (hcn:cn<=300)
  (hP:∀i,i<n->dep<=30->∀a:Nat,a<=300->∀w1,Below w.heap.size w w1->Calls Tryz.prog 186 #[(ds i).val,.int .i64 ((dep:Int)+1),.int .i64 (300 - (a:Int))] w1 (Rt w1 (.int .i64 (resQ (P i a))))):
  Calls Tryz.prog 186 #[.agg #[.int .i64 k,.int .i64 f,.bool ng,.slice aq nu.length ac,.slice cq de.length cc,.string m,.slice sq n sc],.int .i64 dep,.int .i64 (300 - (cn:Int))] w (Rt w (.int .i64 (resQ (if cn+1<=300/\dep<=30/\nodeOk k f ng (val nu) (val de) m n=true then cntF P n (cn+1) else none)))):=by
 have hb0:Hid (Below w.heap.size w (w.alloc (.cells #[.int .i64 k,.int .i64 f,.bool ng,.slice aq nu.length ac,.slice cq de.length cc,.string m,.slice sq n sc] 27))):=zaa w _
 have hfl:=node_ok (k:=k) (f:=f) (ng:=ng) (sq:=sq) (sc:=sc) (n:=n) (m:=m) (h1.below hb0.out) (h2.below hb0.out) (by omega) (by omega)
 have bF:=zab bA
 have eI:=zab eH
 obtain⟨A,hA⟩:∃A,Hid (nodeOk k f ng (val nu) (val de) m n=A):=⟨_,rfl⟩
 rw[hA.out] at hfl ⊢
 have hP':=zab hP
 clear h1 h2 bA eH hP
 by_cases c2:dep<=30
 ·have c2':¬(dep:Int) > 30:=by omega
  by_cases c1:cn+1<=300
  ·have c1':¬300 - (cn:Int)<=0:=by omega
   cases A with
   | false=>
    rw[if_neg (by simp)]
    go_enter Tryz.func186,Tryz.ntmps186
    go_wp2_with (go_at_call 298;with_reducible refine hfl.mono ?_;rintro e w1 ⟨rfl,hb1⟩)
    go_ret
    exact⟨rfl,hb0.out.trans (hb1.mono hb0.out.size)⟩
   | true=>
    rw[if_pos ⟨c1,c2,rfl⟩]
    obtain⟨R,hR⟩:∃R,Hid (resQ (cntF P n (cn+1))=R):=⟨_,rfl⟩
    rw[hR.out]
    clear hA
    go_enter Tryz.func186,Tryz.ntmps186
    go_wp2_with (go_at_call 298;with_reducible refine hfl.mono ?_;rintro e w1 ⟨rfl,hb1⟩
                 have x6:w1.cell? ⟨w.heap.size,6,none⟩=some (.slice sq n sc):=(hb1.cell (by show w.heap.size<_;simp)).trans (by simp)
                 have hs1:w.heap.size<w1.heap.size:=by have:=hb1.size;simp at this;omega
                 have hw1:Hid (Below w.heap.size w w1):=hb0.out.trans (hb1.mono hb0.out.size)
                 clear hb1)
    go_loopw [2,7] (fun t2 t7 wr=>∃(i a:Nat),i<=n/\a<=300/\t7=.int .i64 i/\t2=.int .i64 (300 - (a:Int))/\Hid (cntF P i (cn+1)=some a)/\Below w1.heap.size w1 wr) (fun _ t7 _=>n - (intOf t7).toNat)
    case atStart=>exact⟨0,cn+1,Nat.zero_le _,c1,rfl,by go_num,rfl,Below.refl _ _⟩
    case round=>
     obtain⟨i,a,hi,ha,rfl,rfl,hc,hbw⟩:=hrel
     have y6:=(hbw.cell (p:=⟨w.heap.size,6,none⟩) (by exact hs1)).trans x6
     clear x6 hfl
     by_cases hlt:i<n
     ·have aF:(i:Int)<(n:Int):=by omega
      obtain⟨b,o,rfl,hbl,hnd⟩:=bF.out.resolve_left (by omega)
      have hW:Below w.heap.size w wr:=hw1.out.trans (hbw.mono hw1.out.size)
      obtain⟨x0,x1,x2,x3,x4,x5,x6⟩:=(hnd i hlt).below hW hbl
      have hPk:=hP'.out i hlt c2 a ha _ hW
      simp only[Nd.val] at hPk
      have aH:Hid (Below w1.heap.size w1 wr):=hbw
      clear hbw hnd hW
      cases hp:P i a with
      | none=>
       rw[hp] at hPk
       have hRv:R=-1:=by rw[<-hR.out,zhu hc.out hp hlt];rfl
       subst hRv
       clear hp
       simp only[resQ] at hPk
       go_wp2_with (go_at_call 186;with_reducible refine hPk.mono ?_;rintro e w3 ⟨rfl,hb3⟩)
       go_ret
       exact⟨rfl,hw1.out.trans ((aH.out.trans (hb3.mono aH.out.size)).mono hw1.out.size)⟩
      | some a'=>
       rw[hp] at hPk
       have ha':=eI.out _ _ _ hp
       have hgt:¬300 - (a':Int)<0:=by omega
       have hc':Hid (cntF P (i+1) (cn+1)=some a'):=by
        show cntF P (i+1) (cn+1)=some a'
        unfold cntF
        rw[hc.out]
        exact hp
       clear hp hc
       simp only[resQ] at hPk
       go_wp2_with (go_at_call 186;with_reducible refine hPk.mono ?_;rintro e w3 ⟨rfl,hb3⟩)
       go_roundw
       case rel=>exact⟨i+1,a',by omega,ha',by go_num,rfl,hc',aH.out.trans (hb3.mono aH.out.size)⟩
       case measure=>simp[intOf];omega
     ·obtain rfl:i=n:=by omega
      have hRv:R=300 - (a:Int):=by rw[<-hR.out,hc.out];rfl
      subst hRv
      clear hc
      go_wp2
      go_ret
      exact⟨rfl,hw1.out.trans (hbw.mono hw1.out.size)⟩
  ·have c1':300 - (cn:Int)<=0:=by omega
   rw[if_neg (by omega)]
   clear hfl
   go_enter Tryz.func186,Tryz.ntmps186
   go_wp2
   go_ret
   exact⟨rfl,hb0.out⟩
 ·have c2':(dep:Int) > 30:=by omega
  rw[if_neg (by omega)]
  clear hfl
  go_enter Tryz.func186,Tryz.ntmps186
  go_wp2
  go_ret
  exact⟨rfl,hb0.out⟩
theorem count_ok:∀(x:Ex) (d:Nd) (w:World) (dep cn:Nat),ExOk w x d->dep<=31->cn<=300->Tb w->
  Calls Tryz.prog 119 #[d.val,.int .i64 dep,.int .i64 cn] w (Rt w (.int .i64 (resP (x.cnt dep cn)))):=by
 intro x
 induction x with
 | non=>intro d w dep cn h;exact h.elim
 | mk k f ng nu de m c ar ih=>
  intro d w dep cn h hd hcn hT
  obtain⟨k',f',ng',aq,an,ac,cq,cn',cc,m',sq,sn,sc⟩:=d
  unfold ExOk at h
  obtain⟨⟨rfl,rfl,rfl,rfl,rfl⟩,h1,h2,ln,ld,hn,hk⟩:=h
  simp only at h1 h2 hk hn
  obtain⟨_,_,e1⟩:=h1.form
  obtain⟨_,_,e2⟩:=h2.form
  simp only[Value.slice.injEq] at e1 e2
  obtain⟨rfl,rfl,rfl⟩:=e1
  obtain⟨rfl,rfl,rfl⟩:=e2
  have hds:∃ds:Nat->Nd,(sn=0\/∃b o,sq=some ⟨b,o,none⟩/\b<w.heap.size/\∀i,i<sn->NdAt w b (o+i*7) (ds i))/\∀i,i<sn->ExOk w (ar i) (ds i):=by
   rcases hk with rfl | ⟨b,o,e,hb,ds,hds⟩
   ·exact⟨fun _=>⟨0,0,false,none,0,0,none,0,0,⟨#[]⟩,none,0,0⟩,.inl rfl,fun i hi=>absurd hi (by omega)⟩
   ·exact⟨ds,.inr ⟨b,o,e,hb,fun i hi=>(hds i hi).1⟩,fun i hi=>(hds i hi).2⟩
  obtain⟨ds,gj,gk⟩:=hds
  have hw:=zkq (k:=k') (f:=f') (ng:=ng') (m:=m') (sc:=sc) (dep:=dep) (cn:=cn) (P:=fun i a=>(ar i).cnt (dep+1) a) h1 h2 ln ld hT hn gj (fun i a a'=>Ex.cnt_le (ar i) _ a a') hd hcn (fun i hi jF a ha w1 hb1=>by
   have:=ih i (ds i) w1 (dep+1) a ((gk i hi).below hb1) (by omega) ha (hT.below hb1)
   simpa using this)
  unfold Ex.cnt
  exact hw
theorem walkQ_ok:∀(x:Ex) (d:Nd) (w:World) (dep cn:Nat),ExOk w x d->dep<=31->cn<=300->
  Calls Tryz.prog 186 #[d.val,.int .i64 dep,.int .i64 (300 - (cn:Int))] w (Rt w (.int .i64 (resQ (x.cnt dep cn)))):=by
 intro x
 induction x with
 | non=>intro d w dep cn h;exact h.elim
 | mk k f ng nu de m c ar ih=>
  intro d w dep cn h hd hcn
  obtain⟨k',f',ng',aq,an,ac,cq,cn',cc,m',sq,sn,sc⟩:=d
  unfold ExOk at h
  obtain⟨⟨rfl,rfl,rfl,rfl,rfl⟩,h1,h2,ln,ld,hn,hk⟩:=h
  simp only at h1 h2 hk hn
  obtain⟨_,_,e1⟩:=h1.form
  obtain⟨_,_,e2⟩:=h2.form
  simp only[Value.slice.injEq] at e1 e2
  obtain⟨rfl,rfl,rfl⟩:=e1
  obtain⟨rfl,rfl,rfl⟩:=e2
  have hds:∃ds:Nat->Nd,(sn=0\/∃b o,sq=some ⟨b,o,none⟩/\b<w.heap.size/\∀i,i<sn->NdAt w b (o+i*7) (ds i))/\∀i,i<sn->ExOk w (ar i) (ds i):=by
   rcases hk with rfl | ⟨b,o,e,hb,ds,hds⟩
   ·exact⟨fun _=>⟨0,0,false,none,0,0,none,0,0,⟨#[]⟩,none,0,0⟩,.inl rfl,fun i hi=>absurd hi (by omega)⟩
   ·exact⟨ds,.inr ⟨b,o,e,hb,fun i hi=>(hds i hi).1⟩,fun i hi=>(hds i hi).2⟩
  obtain⟨ds,gj,gk⟩:=hds
  have hw:=zkr (k:=k') (f:=f') (ng:=ng') (m:=m') (sc:=sc) (dep:=dep) (cn:=cn) (P:=fun i a=>(ar i).cnt (dep+1) a) h1 h2 ln ld hn gj (fun i a a'=>Ex.cnt_le (ar i) _ a a') hd hcn (fun i hi jF a ha w1 hb1=>by
   have:=ih i (ds i) w1 (dep+1) a ((gk i hi).below hb1) (by omega) ha
   simpa using this)
  unfold Ex.cnt
  exact hw
theorem zfj {w:World} {x:Ex} {d:Nd} (h:ExOk w x d) (hT:Tb w):Calls Tryz.prog 68 #[d.val] w (Rt w (.bool (x.cnt 1 0).isSome)):=by
 have hb0:Below w.heap.size w (w.alloc (.cells #[.int .i64 d.k,.int .i64 d.f,.bool d.neg,.slice d.aq d.an d.ac,.slice d.cq d.cn d.cc,.string d.m,.slice d.sq d.sn d.sc] 27)):=zaa w _
 have hc:=count_ok x d _ 1 0 (h.below hb0) (by omega) (by omega) (hT.below hb0)
 rw[show ((1:Nat):Int)=1 from rfl,show((0:Nat):Int)=0 from rfl] at hc
 unfold Nd.val at hc ⊢
 have hle:=x.cnt_le 1 0
 generalize x.cnt 1 0=C at*
 cases C with
 | none=>
  simp only[resP] at hc
  go_enter Tryz.func68,Tryz.ntmps68
  go_wp2_with (go_at_call 119;with_reducible refine hc.mono ?_;rintro e w1 ⟨rfl,hb1⟩)
  go_ret
  exact⟨rfl,hb0.trans (hb1.mono hb0.size)⟩
 | some a=>
  have ha:=hle a rfl
  have ha':(a:Int)<=300:=by omega
  simp only[resP] at hc
  clear hle
  go_enter Tryz.func68,Tryz.ntmps68
  go_wp2_with (go_at_call 119;with_reducible refine hc.mono ?_;rintro e w1 ⟨rfl,hb1⟩)
  go_ret
  exact⟨by simp<;>omega,hb0.trans (hb1.mono hb0.size)⟩
theorem zfk {w:World} {x:Ex} {d:Nd} (h:ExOk w x d):Calls Tryz.prog 102 #[d.val] w (Rt w (.bool (x.cnt 1 0).isSome)):=by
 have hb0:Below w.heap.size w (w.alloc (.cells #[.int .i64 d.k,.int .i64 d.f,.bool d.neg,.slice d.aq d.an d.ac,.slice d.cq d.cn d.cc,.string d.m,.slice d.sq d.sn d.sc] 27)):=zaa w _
 have hc:=walkQ_ok x d _ 1 0 (h.below hb0) (by omega) (by omega)
 rw[show ((1:Nat):Int)=1 from rfl,show(300 - ((0:Nat):Int))=300 from rfl] at hc
 unfold Nd.val at hc ⊢
 have hle:=x.cnt_le 1 0
 generalize x.cnt 1 0=C at*
 cases C with
 | none=>
  simp only[resQ] at hc
  go_enter Tryz.func102,Tryz.ntmps102
  go_wp2_with (go_at_call 186;with_reducible refine hc.mono ?_;rintro e w1 ⟨rfl,hb1⟩)
  go_ret
  exact⟨rfl,hb0.trans (hb1.mono hb0.size)⟩
 | some a=>
  have ha:=hle a rfl
  have ha':300 - (a:Int)>=0:=by omega
  simp only[resQ] at hc
  clear hle
  go_enter Tryz.func102,Tryz.ntmps102
  go_wp2_with (go_at_call 186;with_reducible refine hc.mono ?_;rintro e w1 ⟨rfl,hb1⟩)
  go_ret
  exact⟨by simp<;>omega,hb0.trans (hb1.mono hb0.size)⟩
def tx (l:List UInt8):Value:=.string ⟨l.toArray⟩
def KR.val (r:KR):Value:=.agg #[tx r.nm,tx r.fl,.int .i64 r.k,.func (.func r.f) #[] #[]]
theorem func_inv {B:Nat->Prop} {w:World} {f:FuncId} {u:Value} (h:VRel B w phi0 (.func f [] []) u):u=.func (.func f) #[] #[]:=by
 cases h with
 | @func _ _ _ _ a' c' ha hc hav hcv=>
  have h1:a'=#[]:=Array.eq_empty_of_size_eq_zero (by simpa using ha.symm)
  have h2:c'=#[]:=Array.eq_empty_of_size_eq_zero (by simpa using hc.symm)
  rw[h1,h2]
theorem av_inv {B:Nat->Prop} {w:World} {r:KR} {u:Value} (h:VRel B w phi0 r.av u):u=r.val:=by
 obtain⟨vs,rfl,hl⟩:=VRel.agg_inv h
 obtain⟨v1,r1,e1,h1,hl1⟩:=LRel.inv_cons hl
 obtain⟨v2,r2,rfl,h2,hl2⟩:=LRel.inv_cons hl1
 obtain⟨v3,r3,rfl,h3,hl3⟩:=LRel.inv_cons hl2
 obtain⟨v4,r4,rfl,h4,hl4⟩:=LRel.inv_cons hl3
 obtain rfl:=LRel.inv_nil hl4
 rw[arr_of_list e1,h1.str_inv,h2.str_inv,h3.int_inv,func_inv h4]
 rfl
theorem func_mk {B:Nat->Prop} {w:World} (f:FuncId):VRel B w phi0 (.func f [] []) (.func (.func f) #[] #[]):=
 .func rfl rfl (fun j x v hx=>by simp at hx) (fun j x v hx=>by simp at hx)
theorem av_mk {B:Nat->Prop} {w:World} (r:KR):VRel B w phi0 r.av r.val:=
 VRel.agg_mk (LRel.cons (.str _) (LRel.cons (.str _) (LRel.cons (.int _ _) (LRel.cons (func_mk _) .nil))))
theorem t4 {x} (h:x∈kT4):x∈kTab1:=List.mem_append_right _ (List.mem_append_right _ (List.mem_append_right _ (List.mem_append_left _ h)))
theorem t5 {x} (h:x∈kT5):x∈kTab1:=List.mem_append_right _ (List.mem_append_right _ (List.mem_append_right _ (List.mem_append_right _ (List.mem_append_left _ h))))
theorem t6 {x} (h:x∈kT6):x∈kTab1:=List.mem_append_right _ (List.mem_append_right _ (List.mem_append_right _ (List.mem_append_right _ (List.mem_append_right _ h))))
theorem zgs {r:KR} (hr:r∈kR) (w:World):Calls Tryz.prog 20 #[.int .i64 r.n] w (Rt w (.tuple #[r.val,.bool true])):=by
 refine(ze3 (f:=20) (args:=[.int .i64 r.n]) (v:=.tup [r.av,.bool true]) (t4 (List.mem_map.2 ⟨_,hr,rfl⟩)) (zbq (.int _ _))).mono ?_
 rintro e w' ⟨⟨u,rfl,hu⟩,hb⟩
 obtain⟨vs,rfl,hl⟩:=VRel.tup_inv hu
 obtain⟨v1,r1,e1,h1,hl1⟩:=LRel.inv_cons hl
 obtain⟨v2,r2,rfl,h2,hl2⟩:=LRel.inv_cons hl1
 obtain rfl:=LRel.inv_nil hl2
 rw[arr_of_list e1,av_inv h1,h2.bool_inv]
 exact⟨rfl,hb⟩
theorem zgt {r:KR} (hr:r∈kR) {c:UInt8} (hc:c∈letP) (w:World):Calls Tryz.prog 21 #[r.val,.int .u8 c.toNat] w (Rt w (.bool (decide (c∈r.fl)))):=by
 refine(kCall2 (f:=21) (args:=[r.av,.int .u8 c.toNat]) (v:=.bool (decide (c∈r.fl))) (List.mem_flatMap.2 ⟨r,hr,List.mem_map.2 ⟨c,hc,rfl⟩⟩) (zi5 (av_mk r) (.int _ _))).mono ?_
 rintro e w' ⟨⟨u,rfl,hu⟩,hb⟩
 rw[hu.bool_inv]
 exact⟨rfl,hb⟩
theorem row_ok {r:KR} (hr:r∈kQ) (w:World):Calls Tryz.prog 56 #[.int .i64 r.n] w (Rt w (.agg #[tx r.nm,tx r.fl,.int .i64 r.k])):=by
 refine(ze3 (f:=56) (args:=[.int .i64 r.n]) (v:=.agg [.str r.nm,.str r.fl,.int .i64 r.k]) (t5 (List.mem_map.2 ⟨_,hr,rfl⟩)) (zbq (.int _ _))).mono ?_
 rintro e w' ⟨⟨u,rfl,hu⟩,hb⟩
 obtain⟨vs,rfl,hl⟩:=VRel.agg_inv hu
 obtain⟨v1,r1,e1,h1,hl1⟩:=LRel.inv_cons hl
 obtain⟨v2,r2,rfl,h2,hl2⟩:=LRel.inv_cons hl1
 obtain⟨v3,r3,rfl,h3,hl3⟩:=LRel.inv_cons hl2
 obtain rfl:=LRel.inv_nil hl3
 rw[arr_of_list e1,h1.str_inv,h2.str_inv,h3.int_inv]
 exact⟨rfl,hb⟩
theorem rname_ok {r:KR} (hr:r∈kQ) (w:World):Calls Tryz.prog 99 #[.int .i64 r.n] w (Rt w (tx r.nm)):=by
 refine(kCall3 (f:=99) (args:=[.int .i64 r.n]) (v:=.str r.nm) (List.mem_append_left _ (List.mem_map.2 ⟨_,hr,rfl⟩)) (zbq (.int _ _))).mono ?_
 rintro e w' ⟨⟨u,rfl,hu⟩,hb⟩
 rw[hu.str_inv]
 exact⟨rfl,hb⟩
theorem zfl {r:KR} (hr:r∈kQ) {c:UInt8} (hc:c∈letQ) (w:World):Calls Tryz.prog 54 #[.int .i64 r.n,.int .u8 c.toNat] w (Rt w (.bool (decide (c∈r.fl)))):=by
 refine(kCall3 (f:=54) (args:=[.int .i64 r.n,.int .u8 c.toNat]) (v:=.bool (decide (c∈r.fl))) (List.mem_append_right _ (List.mem_flatMap.2 ⟨r,hr,List.mem_map.2 ⟨c,hc,rfl⟩⟩)) (zi5 (.int _ _) (.int _ _))).mono ?_
 rintro e w' ⟨⟨u,rfl,hu⟩,hb⟩
 rw[hu.bool_inv]
 exact⟨rfl,hb⟩
def usesL (r:KR) (ls:List UInt8):List Bool:=ls.map fun c=>decide (c∈r.fl)
theorem tables:kR.map (fun r=>(r.n,r.nm,r.k,usesL r letP))=kQ.map (fun r=>(r.n,r.nm,r.k,usesL r letQ)):=by decide +kernel
theorem zjl {r:KR} (hr:r∈kR):∃q∈kQ,q.n=r.n/\q.nm=r.nm/\q.k=r.k/\usesL q letQ=usesL r letP:=by
 have h:(r.n,r.nm,r.k,usesL r letP)∈kQ.map (fun r=>(r.n,r.nm,r.k,usesL r letQ)):=by
  rw[<-tables]
  exact List.mem_map.2 ⟨r,hr,rfl⟩
 obtain⟨q,hq,e⟩:=List.mem_map.1 h
 simp only[Prod.mk.injEq] at e
 exact⟨q,hq,e⟩
theorem name_ne:∀r∈kQ,r.nm≠[]:=by decide
theorem zee (n:Int):(∃r∈kR,r.n=n)\/(n<1\/21<n):=by
 by_cases h:n<1\/21<n
 ·exact .inr h
 ·left
  have aB:∀i:Fin 21,∃r∈kR,r.n=(i.val:Int)+1:=by decide
  obtain⟨r,hr,e⟩:=aB ⟨(n - 1).toNat,by omega⟩
  refine⟨r,hr,?_⟩
  rw[e]
  simp only
  omega
theorem rules_ok (w:World):Calls Tryz.prog 43 #[] w fun e w'=>∃q cap,e=.returned (.slice q 21 cap)/\Below w.heap.size w w':=by
 refine(ze3 (f:=43) (args:=[]) (v:=.isl 21 (kR.flatMap fun r=>[.str r.nm,.str r.fl,.int .i64 r.k,.func r.f [] []]) (some 21)) (t6 (by unfold kT6;simp)) .nil).mono ?_
 rintro e w' ⟨⟨u,rfl,hu⟩,hb⟩
 cases hu with
 | @isl _ _ _ _ a ccap vs hx hl hbk hc hv=>exact⟨_,_,rfl,hb⟩
theorem rule_row:∃d,Tryz.prog.underlying 60=some d/\d.isRow=true:=⟨_,Tryz.underlying60,rfl⟩
theorem zhv:(Tryz.prog.info? 60).map (·.size)=some 4:=by kernel_rfl
theorem form_row:∃d,Tryz.prog.underlying 114=some d/\d.isRow=true:=⟨_,Tryz.underlying114,rfl⟩
theorem zhw:(Tryz.prog.info? 114).map (·.size)=some 3:=by kernel_rfl
theorem zks {n:Int} (h:n<1\/21<n) (w:World):Calls Tryz.prog 99 #[.int .i64 n] w (Rt w (.string ⟨#[]⟩)):=by
 have af:Calls Tryz.prog 56 #[.int .i64 n] w (Rt w (.agg #[.string ⟨#[]⟩,.string ⟨#[]⟩,.int .i64 0])):=by
  obtain⟨dd,hu,hd⟩:=form_row
  have hr:(w.alloc (.cells #[.string ⟨#[]⟩,.string ⟨#[]⟩,.int .i64 0] 114)).rangeAt w.heap.size 0 [.string ⟨#[]⟩,.string ⟨#[]⟩,.int .i64 0]:=zah w [.string ⟨#[]⟩,.string ⟨#[]⟩,.int .i64 0] 114
  rcases h with h | h
  ·go_enter Tryz.func56,Tryz.ntmps56
   go_wp2
   refine bodyPost_ret (zaj rfl _ _ w.heap.size _ dd rfl hr hu hd zhw) rfl ?_
   exact⟨rfl,zaa _ _⟩
  ·have h2:¬n<1:=by omega
   have h3:n > 21:=h
   go_enter Tryz.func56,Tryz.ntmps56
   go_wp2
   refine bodyPost_ret (zaj rfl _ _ w.heap.size _ dd rfl hr hu hd zhw) rfl ?_
   exact⟨rfl,zaa _ _⟩
 have hfd:∀w:World,(Instr.field 114 (.agg #[.string ⟨#[]⟩,.string ⟨#[]⟩,.int .i64 0]) 0).run Tryz.prog w=.ok (.string ⟨#[]⟩) w:=fun _=>by kernel_rfl
 go_enter Tryz.func99,Tryz.ntmps99
 go_wp2_with (go_at_call 56;with_reducible refine af.mono ?_;rintro e w1 ⟨rfl,hb⟩)
 go_ret
 exact⟨rfl,hb⟩
theorem zm8 {n:Int} (h:n<1\/21<n) (w:World):Calls Tryz.prog 20 #[.int .i64 n] w fun e w'=>∃a b c,e=.returned (.tuple #[.agg #[.string a,.string b,.int .i64 c,.nilFunc],.bool false])/\Below w.heap.size w w':=by
 have hrl:=rules_ok (w.alloc (.cells #[.string ⟨#[]⟩,.string ⟨#[]⟩,.int .i64 0,.nilFunc] 60))
 have hb0:Below w.heap.size w (w.alloc (.cells #[.string ⟨#[]⟩,.string ⟨#[]⟩,.int .i64 0,.nilFunc] 60)):=zaa w _
 obtain⟨dd,hu,hd⟩:=rule_row
 have key:∀w1,Below (w.alloc (.cells #[.string ⟨#[]⟩,.string ⟨#[]⟩,.int .i64 0,.nilFunc] 60)).heap.size (w.alloc (.cells #[.string ⟨#[]⟩,.string ⟨#[]⟩,.int .i64 0,.nilFunc] 60)) w1->
   Hid (w1.heap[w.heap.size]?=some (.cells #[.string ⟨#[]⟩,.string ⟨#[]⟩,.int .i64 0,.nilFunc] 60 (0,0))):=fun w1 h1=>by
  rw[h1.block w.heap.size (by simp)]
  exact heap_alloc_new w _
 rcases h with h | h
 ·skip
  go_enter Tryz.func20,Tryz.ntmps20
  go_wp2_with (go_at_call 43;with_reducible refine hrl.mono ?_;rintro e w1 ⟨q,cap,rfl,hb1⟩
               have hk:=key w1 hb1
               have c0:w1.cell? ⟨w.heap.size,0,none⟩=some (.string ⟨#[]⟩):=by simp[World.cell?,hk.out]
               have c1:w1.cell? ⟨w.heap.size,1,none⟩=some (.string ⟨#[]⟩):=by simp[World.cell?,hk.out]
               have c2:w1.cell? ⟨w.heap.size,2,none⟩=some (.int .i64 0):=by simp[World.cell?,hk.out]
               have c3:w1.cell? ⟨w.heap.size,3,none⟩=some .nilFunc:=by simp[World.cell?,hk.out]
               have fr:∀j,w1.frozen? ⟨w.heap.size,j,none⟩=false:=fun j=>by simp[World.frozen?,hk.out]
               have hw1:Hid (Below w.heap.size w w1):=hb0.trans (hb1.mono hb0.size)
               have af:((((w1.setCell ⟨w.heap.size,0,none⟩ (.string ⟨#[]⟩)).setCell ⟨w.heap.size,1,none⟩ (.string ⟨#[]⟩)).setCell ⟨w.heap.size,2,none⟩ (.int .i64 0)).setCell ⟨w.heap.size,3,none⟩ .nilFunc).rangeAt w.heap.size 0 [.string ⟨#[]⟩,.string ⟨#[]⟩,.int .i64 0,.nilFunc]:=by
                intro j v hv
                match j,hv with
                | 0,hv=>simp at hv;subst hv;simp[World.cell?_setCell_other,World.cell?_setCell_same,c0]
                | 1,hv=>simp at hv;subst hv;simp[World.cell?_setCell_other,World.cell?_setCell_same,c1]
                | 2,hv=>simp at hv;subst hv;simp[World.cell?_setCell_other,World.cell?_setCell_same,c2]
                | 3,hv=>simp at hv;subst hv;simp[World.cell?_setCell_other,World.cell?_setCell_same,c3]
               clear hb1)
  refine bodyPost_ret (zau rfl _ _ w.heap.size _ dd rfl af hu hd zhv) rfl ?_
  exact⟨_,_,_,rfl,(((hw1.out.setCell (Nat.le_refl _) _).setCell (Nat.le_refl _) _).setCell (Nat.le_refl _) _).setCell (Nat.le_refl _) _⟩
 ·have h2:¬n<1:=by omega
  have h3:n > 21:=h
  go_enter Tryz.func20,Tryz.ntmps20
  go_wp2_with (go_at_call 43;with_reducible refine hrl.mono ?_;rintro e w1 ⟨q,cap,rfl,hb1⟩
               have hk:=key w1 hb1
               have c0:w1.cell? ⟨w.heap.size,0,none⟩=some (.string ⟨#[]⟩):=by simp[World.cell?,hk.out]
               have c1:w1.cell? ⟨w.heap.size,1,none⟩=some (.string ⟨#[]⟩):=by simp[World.cell?,hk.out]
               have c2:w1.cell? ⟨w.heap.size,2,none⟩=some (.int .i64 0):=by simp[World.cell?,hk.out]
               have c3:w1.cell? ⟨w.heap.size,3,none⟩=some .nilFunc:=by simp[World.cell?,hk.out]
               have fr:∀j,w1.frozen? ⟨w.heap.size,j,none⟩=false:=fun j=>by simp[World.frozen?,hk.out]
               have hw1:Hid (Below w.heap.size w w1):=hb0.trans (hb1.mono hb0.size)
               have af:((((w1.setCell ⟨w.heap.size,0,none⟩ (.string ⟨#[]⟩)).setCell ⟨w.heap.size,1,none⟩ (.string ⟨#[]⟩)).setCell ⟨w.heap.size,2,none⟩ (.int .i64 0)).setCell ⟨w.heap.size,3,none⟩ .nilFunc).rangeAt w.heap.size 0 [.string ⟨#[]⟩,.string ⟨#[]⟩,.int .i64 0,.nilFunc]:=by
                intro j v hv
                match j,hv with
                | 0,hv=>simp at hv;subst hv;simp[World.cell?_setCell_other,World.cell?_setCell_same,c0]
                | 1,hv=>simp at hv;subst hv;simp[World.cell?_setCell_other,World.cell?_setCell_same,c1]
                | 2,hv=>simp at hv;subst hv;simp[World.cell?_setCell_other,World.cell?_setCell_same,c2]
                | 3,hv=>simp at hv;subst hv;simp[World.cell?_setCell_other,World.cell?_setCell_same,c3]
               clear hb1)
  refine bodyPost_ret (zau rfl _ _ w.heap.size _ dd rfl af hu hd zhv) rfl ?_
  exact⟨_,_,_,rfl,(((hw1.out.setCell (Nat.le_refl _) _).setCell (Nat.le_refl _) _).setCell (Nat.le_refl _) _).setCell (Nat.le_refl _) _⟩
end Go.Proofs.YtnnhofmknilopaaGreatDoor
