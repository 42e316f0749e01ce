import Derived.Test.YtaonejnicgbifaaGreatDoorQk17
namespace Go.Proofs.YtaonejnicgbifaaGreatDoor
open Go Go.Proofs.YtaonejnicgbifaaGreatDoor.Gx Go.RowKit
set_option maxRecDepth 100000
set_option maxHeartbeats 16000000
def cntF (P:Nat->Nat->Option Nat):Nat->Nat->Option Nat
 | 0,n=>some n
 | c+1,n=>(cntF P c n).bind (P c)
def Ex.cnt:Ex->Nat->Nat->Option Nat
 | .non,_,_=>none
 | .mk k f ng nu de m c ar,d,n=>if n+1<=300/\d<=30/\nodeOk k f ng (val nu) (val de) m c=true then cntF (fun i a=>(ar i).cnt (d+1) a) c (n+1) else none
def resP (o:Option Nat):Int:=match o with | some n=>n | none=>301
def resQ (o:Option Nat):Int:=match o with | some n=>300 - n | none=>-1
theorem cntF_le {P:Nat->Nat->Option Nat} (hP:∀i a a',P i a=some a'->a'<=300):∀{c n a:Nat},n<=300->cntF P c n=some a->a<=300
 | 0,n,a,hn,h=>by
  simp only[cntF,Option.some.injEq] at h
  omega
 | c+1,n,a,hn,h=>by
  unfold cntF at h
  cases hq:cntF P c n with
  | none=>rw[hq] at h;cases h
  | some x=>rw[hq] at h;exact hP _ _ _ h
theorem Ex.cnt_le:∀(x:Ex) (d n a:Nat),x.cnt d n=some a->a<=300:=by
 intro x
 induction x with
 | non=>intro d n a h;cases h
 | mk k f ng nu de m c ar ih=>
  intro d n a h
  unfold Ex.cnt at h
  split at h
  ·rename_i hc
   exact cntF_le (fun i a a'=>ih i _ a a') hc.1 h
  ·cases h
theorem zgc {P:Nat->Nat->Option Nat} {i a c n:Nat} (h1:cntF P i n=some a) (h2:P i a=none) (hi:i<c):cntF P c n=none:=by
 induction c with
 | zero=>omega
 | succ c ih=>
  unfold cntF
  rcases Nat.lt_or_ge i c with h | h
  ·rw[ih h];rfl
  ·have:i=c:=by omega
   subst this
   rw[h1]
   exact h2
theorem zjd {w:World} {k f:Int} {ng:Bool} {aq cq sq:Option Addr} {ac cc sc n:Nat} {nu de:List Int} {m:ByteArray} {dep cn:Nat} {ds:Nat->Nd} {P:Nat->Nat->Option Nat} (h1:Sl w (.slice aq nu.length ac) nu) (h2:Sl w (.slice cq de.length cc) de) (ln:nu.length<=1048576) (ld:de.length<=1048576) (hT:Tb w) (hn:n<=1099511627776) (db:n=0\/∃b o,sq=some ⟨b,o,none⟩/\b<w.heap.size/\∀i,i<n->NdAt w b (o+i*7) (ds i)) (eG:∀i a a',P i a=some a'->a'<=300) (hd:dep<=31) (hcn:cn<=300)
  (hP:∀i,i<n->dep<=30->∀a:Nat,a<=300->∀w1,Below w.heap.size w w1->Calls Tryz.prog 49 #[(ds i).val,.int .i64 ((dep:Int)+1),.int .i64 a] w1 fun e w'=>e=.returned (.int .i64 (resP (P i a)))/\Below w1.heap.size w1 w'):
  Calls Tryz.prog 49 #[.agg (mA k f ng aq nu.length ac cq de.length cc m sq n sc),.int .i64 dep,.int .i64 cn] w fun e w'=>e=.returned (.int .i64 (resP (if cn+1<=300/\dep<=30/\nodeOk k f ng (val nu) (val de) m n=true then cntF P n (cn+1) else none)))/\Below w.heap.size w w':=by
 have hb0:Hid (Below w.heap.size w (w.alloc (.cells (mA k f ng aq nu.length ac cq de.length cc m sq n sc) 30))):=zaa w _
 have hfl:=zmc (k:=k) (f:=f) (ng:=ng) (sq:=sq) (sc:=sc) (n:=n) (m:=m) (h1.below hb0.out) (h2.below hb0.out) (by omega) (by omega) (hT.below hb0.out)
 have dI:=zac db
 have eH:=zac eG
 obtain⟨A,hA⟩:∃A,Hid (nodeOk k f ng (val nu) (val de) m n=A):=⟨_,rfl⟩
 rw[hA.out] at hfl ⊢
 have hP':=zac hP
 clear h1 h2 hT db eG hP
 by_cases c1:cn+1<=300
 ·have c1':¬(cn:Int)+1 > 300:=by omega
  by_cases c2:dep<=30
  ·have c2':¬(dep:Int) > 30:=by omega
   cases A with
   | false=>
    rw[if_neg (by simp)]
    go_enter Tryz.func49,Tryz.ntmps49
    go_wp2_with (go_at_call 78;with_reducible refine hfl.mono ?_;rintro e w1 ⟨rfl,hb1⟩)
    go_ret
    exact⟨rfl,hb0.out.trans (hb1.mono hb0.out.size)⟩
   | true=>
    rw[if_pos ⟨c1,c2,rfl⟩]
    obtain⟨R,hR⟩:∃R,Hid (resP (cntF P n (cn+1))=R):=⟨_,rfl⟩
    rw[hR.out]
    clear hA
    go_enter Tryz.func49,Tryz.ntmps49
    go_wp2_with (go_at_call 78;with_reducible refine hfl.mono ?_;rintro e w1 ⟨rfl,hb1⟩
                 have x6:w1.cell? ⟨w.heap.size,6,none⟩=some (.slice sq n sc):=(hb1.cell (by show w.heap.size<_;simp)).trans (by simp)
                 have hw1:Hid (Below w.heap.size w w1):=hb0.out.trans (hb1.mono hb0.out.size)
                 clear hb1)
    go_loopw [2,25] (fun t2 t25 wr=>∃(i a:Nat),i<=n/\a<=300/\t25=.int .i64 i/\t2=.int .i64 a/\Hid (cntF P i (cn+1)=some a)/\Below w1.heap.size w1 wr) (fun _ t25 _=>n - (intOf t25).toNat)
    case atStart=>exact⟨0,cn+1,Nat.zero_le _,c1,rfl,by go_num,rfl,Below.refl _ _⟩
    case round=>
     obtain⟨i,a,hi,ha,rfl,rfl,hc,hbw⟩:=hrel
     clear x6 hfl
     by_cases hlt:i<n
     ·have aA:(i:Int)<(n:Int):=by omega
      obtain⟨b,o,rfl,hbl,hnd⟩:=dI.out.resolve_left (by omega)
      have hW:Below w.heap.size w wr:=hw1.out.trans (hbw.mono hw1.out.size)
      obtain⟨x0,x1,x2,x3,x4,x5,x6⟩:=(hnd i hlt).below hW hbl
      have hb2:Hid (Below wr.heap.size wr (wr.alloc (.cells (nA (ds i)) 30))):=zaa wr _
      have hPk:=hP'.out i hlt c2 a ha _ (hW.trans (hb2.out.mono hW.size))
      simp only[Nd.val] at hPk
      have bC:Hid (Below w1.heap.size w1 wr):=hbw
      clear hbw hnd hW
      cases hp:P i a with
      | none=>
       rw[hp] at hPk
       have hRv:R=301:=by rw[<-hR.out,zgc hc.out hp hlt];rfl
       subst hRv
       clear hp
       simp only[resP] at hPk
       go_wp2_with (go_at_call 49;with_reducible refine hPk.mono ?_;rintro e w3 ⟨rfl,hb3⟩)
       go_ret
       exact⟨rfl,hw1.out.trans ((bC.out.trans ((hb2.out.trans (hb3.mono hb2.out.size)).mono bC.out.size)).mono hw1.out.size)⟩
      | some a'=>
       rw[hp] at hPk
       have ha':=eH.out _ _ _ hp
       have hgt:¬(a':Int) > 300:=by omega
       have hc':Hid (cntF P (i+1) (cn+1)=some a'):=by
        show cntF P (i+1) (cn+1)=some a'
        unfold cntF
        rw[hc.out]
        exact hp
       clear hp hc
       simp only[resP] at hPk
       go_wp2_with (go_at_call 49;with_reducible refine hPk.mono ?_;rintro e w3 ⟨rfl,hb3⟩)
       go_roundw
       case rel=>exact⟨i+1,a',by omega,ha',by go_num,rfl,hc',bC.out.trans ((hb2.out.trans (hb3.mono hb2.out.size)).mono bC.out.size)⟩
       case measure=>simp[intOf];omega
     ·obtain rfl:i=n:=by omega
      have hRv:R=(a:Int):=by rw[<-hR.out,hc.out];rfl
      subst hRv
      clear hc
      go_wp2
      go_ret
      exact⟨rfl,hw1.out.trans (hbw.mono hw1.out.size)⟩
  ·have c2':(dep:Int) > 30:=by omega
   rw[if_neg (by omega)]
   clear hfl
   go_enter Tryz.func49,Tryz.ntmps49
   go_wp2
   go_ret
   exact⟨rfl,hb0.out⟩
 ·have c1':(cn:Int)+1 > 300:=by omega
  rw[if_neg (by omega)]
  clear hfl
  go_enter Tryz.func49,Tryz.ntmps49
  go_wp2
  go_ret
  exact⟨rfl,hb0.out⟩
theorem zje {w:World} {k f:Int} {ng:Bool} {aq cq sq:Option Addr} {ac cc sc n:Nat} {nu de:List Int} {m:ByteArray} {dep cn:Nat} {ds:Nat->Nd} {P:Nat->Nat->Option Nat} (h1:Sl w (.slice aq nu.length ac) nu) (h2:Sl w (.slice cq de.length cc) de) (ln:nu.length<=1048576) (ld:de.length<=1048576) (hn:n<=1099511627776) (db:n=0\/∃b o,sq=some ⟨b,o,none⟩/\b<w.heap.size/\∀i,i<n->NdAt w b (o+i*7) (ds i)) (eG:∀i a a',P i a=some a'->a'<=300) (hd:dep<=31) (hcn:cn<=300)
  (hP:∀i,i<n->dep<=30->∀a:Nat,a<=300->∀w1,Below w.heap.size w w1->Calls Tryz.prog 60 #[(ds i).val,.int .i64 ((dep:Int)+1),.int .i64 (300 - (a:Int))] w1 fun e w'=>e=.returned (.int .i64 (resQ (P i a)))/\Below w1.heap.size w1 w'):
  Calls Tryz.prog 60 #[.agg (mA k f ng aq nu.length ac cq de.length cc m sq n sc),.int .i64 dep,.int .i64 (300 - (cn:Int))] w fun e w'=>e=.returned (.int .i64 (resQ (if cn+1<=300/\dep<=30/\nodeOk k f ng (val nu) (val de) m n=true then cntF P n (cn+1) else none)))/\Below w.heap.size w w':=by
 have hb0:Hid (Below w.heap.size w (w.alloc (.cells (mA k f ng aq nu.length ac cq de.length cc m sq n sc) 30))):=zaa w _
 have hfl:=node_ok (k:=k) (f:=f) (ng:=ng) (sq:=sq) (sc:=sc) (n:=n) (m:=m) (h1.below hb0.out) (h2.below hb0.out) (by omega) (by omega)
 have dI:=zac db
 have eH:=zac eG
 obtain⟨A,hA⟩:∃A,Hid (nodeOk k f ng (val nu) (val de) m n=A):=⟨_,rfl⟩
 rw[hA.out] at hfl ⊢
 have hP':=zac hP
 clear h1 h2 db eG hP
 by_cases c2:dep<=30
 ·have c2':¬(dep:Int) > 30:=by omega
  by_cases c1:cn+1<=300
  ·have c1':¬300 - (cn:Int)<=0:=by omega
   cases A with
   | false=>
    rw[if_neg (by simp)]
    go_enter Tryz.func60,Tryz.ntmps60
    go_wp2_with (go_at_call 90;with_reducible refine hfl.mono ?_;rintro e w1 ⟨rfl,hb1⟩)
    go_ret
    exact⟨rfl,hb0.out.trans (hb1.mono hb0.out.size)⟩
   | true=>
    rw[if_pos ⟨c1,c2,rfl⟩]
    obtain⟨R,hR⟩:∃R,Hid (resQ (cntF P n (cn+1))=R):=⟨_,rfl⟩
    rw[hR.out]
    clear hA
    go_enter Tryz.func60,Tryz.ntmps60
    go_wp2_with (go_at_call 90;with_reducible refine hfl.mono ?_;rintro e w1 ⟨rfl,hb1⟩
                 have x6:w1.cell? ⟨w.heap.size,6,none⟩=some (.slice sq n sc):=(hb1.cell (by show w.heap.size<_;simp)).trans (by simp)
                 have hs1:w.heap.size<w1.heap.size:=by have:=hb1.size;simp at this;omega
                 have hw1:Hid (Below w.heap.size w w1):=hb0.out.trans (hb1.mono hb0.out.size)
                 clear hb1)
    go_loopw [2,7] (fun t2 t7 wr=>∃(i a:Nat),i<=n/\a<=300/\t7=.int .i64 i/\t2=.int .i64 (300 - (a:Int))/\Hid (cntF P i (cn+1)=some a)/\Below w1.heap.size w1 wr) (fun _ t7 _=>n - (intOf t7).toNat)
    case atStart=>exact⟨0,cn+1,Nat.zero_le _,c1,rfl,by go_num,rfl,Below.refl _ _⟩
    case round=>
     obtain⟨i,a,hi,ha,rfl,rfl,hc,hbw⟩:=hrel
     have y6:=(hbw.cell (p:=⟨w.heap.size,6,none⟩) (by exact hs1)).trans x6
     clear x6 hfl
     by_cases hlt:i<n
     ·have aA:(i:Int)<(n:Int):=by omega
      obtain⟨b,o,rfl,hbl,hnd⟩:=dI.out.resolve_left (by omega)
      have hW:Below w.heap.size w wr:=hw1.out.trans (hbw.mono hw1.out.size)
      obtain⟨x0,x1,x2,x3,x4,x5,x6⟩:=(hnd i hlt).below hW hbl
      have hPk:=hP'.out i hlt c2 a ha _ hW
      simp only[Nd.val] at hPk
      have bC:Hid (Below w1.heap.size w1 wr):=hbw
      clear hbw hnd hW
      cases hp:P i a with
      | none=>
       rw[hp] at hPk
       have hRv:R=-1:=by rw[<-hR.out,zgc hc.out hp hlt];rfl
       subst hRv
       clear hp
       simp only[resQ] at hPk
       go_wp2_with (go_at_call 60;with_reducible refine hPk.mono ?_;rintro e w3 ⟨rfl,hb3⟩)
       go_ret
       exact⟨rfl,hw1.out.trans ((bC.out.trans (hb3.mono bC.out.size)).mono hw1.out.size)⟩
      | some a'=>
       rw[hp] at hPk
       have ha':=eH.out _ _ _ hp
       have hgt:¬300 - (a':Int)<0:=by omega
       have hc':Hid (cntF P (i+1) (cn+1)=some a'):=by
        show cntF P (i+1) (cn+1)=some a'
        unfold cntF
        rw[hc.out]
        exact hp
       clear hp hc
       simp only[resQ] at hPk
       go_wp2_with (go_at_call 60;with_reducible refine hPk.mono ?_;rintro e w3 ⟨rfl,hb3⟩)
       go_roundw
       case rel=>exact⟨i+1,a',by omega,ha',by go_num,rfl,hc',bC.out.trans (hb3.mono bC.out.size)⟩
       case measure=>simp[intOf];omega
     ·obtain rfl:i=n:=by omega
      have hRv:R=300 - (a:Int):=by rw[<-hR.out,hc.out];rfl
      subst hRv
      clear hc
      go_wp2
      go_ret
      exact⟨rfl,hw1.out.trans (hbw.mono hw1.out.size)⟩
  ·have c1':300 - (cn:Int)<=0:=by omega
   rw[if_neg (by omega)]
   clear hfl
   go_enter Tryz.func60,Tryz.ntmps60
   go_wp2
   go_ret
   exact⟨rfl,hb0.out⟩
 ·have c2':(dep:Int) > 30:=by omega
  rw[if_neg (by omega)]
  clear hfl
  go_enter Tryz.func60,Tryz.ntmps60
  go_wp2
  go_ret
  exact⟨rfl,hb0.out⟩
theorem count_ok:∀(x:Ex) (d:Nd) (w:World) (dep cn:Nat),ExOk w x d->dep<=31->cn<=300->Tb w->
  Calls Tryz.prog 49 #[d.val,.int .i64 dep,.int .i64 cn] w fun e w'=>e=.returned (.int .i64 (resP (x.cnt dep cn)))/\Below w.heap.size w w':=by
 intro x
 induction x with
 | non=>intro d w dep cn h;exact h.elim
 | mk k f ng nu de m c ar ih=>
  intro d w dep cn h hd hcn hT
  obtain⟨k',f',ng',aq,an,ac,cq,cn',cc,m',sq,sn,sc⟩:=d
  unfold ExOk at h
  obtain⟨⟨rfl,rfl,rfl,rfl,rfl⟩,h1,h2,ln,ld,hn,hk⟩:=h
  simp only at h1 h2 hk hn
  obtain⟨_,_,e1⟩:=h1.form
  obtain⟨_,_,e2⟩:=h2.form
  simp only[Value.slice.injEq] at e1 e2
  obtain⟨rfl,rfl,rfl⟩:=e1
  obtain⟨rfl,rfl,rfl⟩:=e2
  have hds:∃ds:Nat->Nd,(sn=0\/∃b o,sq=some ⟨b,o,none⟩/\b<w.heap.size/\∀i,i<sn->NdAt w b (o+i*7) (ds i))/\∀i,i<sn->ExOk w (ar i) (ds i):=by
   rcases hk with rfl | ⟨b,o,e,hb,ds,hds⟩
   ·exact⟨fun _=>⟨0,0,false,none,0,0,none,0,0,⟨#[]⟩,none,0,0⟩,.inl rfl,fun i hi=>absurd hi (by omega)⟩
   ·exact⟨ds,.inr ⟨b,o,e,hb,fun i hi=>(hds i hi).1⟩,fun i hi=>(hds i hi).2⟩
  obtain⟨ds,ga,gb⟩:=hds
  have hw:=zjd (k:=k') (f:=f') (ng:=ng') (m:=m') (sc:=sc) (dep:=dep) (cn:=cn) (P:=fun i a=>(ar i).cnt (dep+1) a) h1 h2 ln ld hT hn ga (fun i a a'=>Ex.cnt_le (ar i) _ a a') hd hcn (fun i hi jw a ha w1 hb1=>by
   have:=ih i (ds i) w1 (dep+1) a ((gb i hi).below hb1) (by omega) ha (hT.below hb1)
   simpa using this)
  unfold Ex.cnt
  exact hw
theorem walkQ_ok:∀(x:Ex) (d:Nd) (w:World) (dep cn:Nat),ExOk w x d->dep<=31->cn<=300->
  Calls Tryz.prog 60 #[d.val,.int .i64 dep,.int .i64 (300 - (cn:Int))] w fun e w'=>e=.returned (.int .i64 (resQ (x.cnt dep cn)))/\Below w.heap.size w w':=by
 intro x
 induction x with
 | non=>intro d w dep cn h;exact h.elim
 | mk k f ng nu de m c ar ih=>
  intro d w dep cn h hd hcn
  obtain⟨k',f',ng',aq,an,ac,cq,cn',cc,m',sq,sn,sc⟩:=d
  unfold ExOk at h
  obtain⟨⟨rfl,rfl,rfl,rfl,rfl⟩,h1,h2,ln,ld,hn,hk⟩:=h
  simp only at h1 h2 hk hn
  obtain⟨_,_,e1⟩:=h1.form
  obtain⟨_,_,e2⟩:=h2.form
  simp only[Value.slice.injEq] at e1 e2
  obtain⟨rfl,rfl,rfl⟩:=e1
  obtain⟨rfl,rfl,rfl⟩:=e2
  have hds:∃ds:Nat->Nd,(sn=0\/∃b o,sq=some ⟨b,o,none⟩/\b<w.heap.size/\∀i,i<sn->NdAt w b (o+i*7) (ds i))/\∀i,i<sn->ExOk w (ar i) (ds i):=by
   rcases hk with rfl | ⟨b,o,e,hb,ds,hds⟩
   ·exact⟨fun _=>⟨0,0,false,none,0,0,none,0,0,⟨#[]⟩,none,0,0⟩,.inl rfl,fun i hi=>absurd hi (by omega)⟩
   ·exact⟨ds,.inr ⟨b,o,e,hb,fun i hi=>(hds i hi).1⟩,fun i hi=>(hds i hi).2⟩
  obtain⟨ds,ga,gb⟩:=hds
  have hw:=zje (k:=k') (f:=f') (ng:=ng') (m:=m') (sc:=sc) (dep:=dep) (cn:=cn) (P:=fun i a=>(ar i).cnt (dep+1) a) h1 h2 ln ld hn ga (fun i a a'=>Ex.cnt_le (ar i) _ a a') hd hcn (fun i hi jw a ha w1 hb1=>by
   have:=ih i (ds i) w1 (dep+1) a ((gb i hi).below hb1) (by omega) ha
   simpa using this)
  unfold Ex.cnt
  exact hw
theorem zcj {w:World} {x:Ex} {d:Nd} (h:ExOk w x d) (hT:Tb w):Calls Tryz.prog 26 #[d.val] w fun e w'=>e=.returned (.bool (x.cnt 1 0).isSome)/\Below w.heap.size w w':=by
 have hb0:Below w.heap.size w (w.alloc (.cells (nA d) 30)):=zaa w _
 have hc:=count_ok x d _ 1 0 (h.below hb0) (by omega) (by omega) (hT.below hb0)
 rw[show ((1:Nat):Int)=1 from rfl,show((0:Nat):Int)=0 from rfl] at hc
 unfold Nd.val at hc ⊢
 have hle:=x.cnt_le 1 0
 generalize x.cnt 1 0=C at*
 cases C with
 | none=>
  simp only[resP] at hc
  go_enter Tryz.func26,Tryz.ntmps26
  go_wp2_with (go_at_call 49;with_reducible refine hc.mono ?_;rintro e w1 ⟨rfl,hb1⟩)
  go_ret
  exact⟨rfl,hb0.trans (hb1.mono hb0.size)⟩
 | some a=>
  have ha:=hle a rfl
  have ha':(a:Int)<=300:=by omega
  simp only[resP] at hc
  clear hle
  go_enter Tryz.func26,Tryz.ntmps26
  go_wp2_with (go_at_call 49;with_reducible refine hc.mono ?_;rintro e w1 ⟨rfl,hb1⟩)
  go_ret
  exact⟨by simp<;>omega,hb0.trans (hb1.mono hb0.size)⟩
theorem zc7 {w:World} {x:Ex} {d:Nd} (h:ExOk w x d):Calls Tryz.prog 35 #[d.val] w fun e w'=>e=.returned (.bool (x.cnt 1 0).isSome)/\Below w.heap.size w w':=by
 have hb0:Below w.heap.size w (w.alloc (.cells (nA d) 30)):=zaa w _
 have hc:=walkQ_ok x d _ 1 0 (h.below hb0) (by omega) (by omega)
 rw[show ((1:Nat):Int)=1 from rfl,show(300 - ((0:Nat):Int))=300 from rfl] at hc
 unfold Nd.val at hc ⊢
 have hle:=x.cnt_le 1 0
 generalize x.cnt 1 0=C at*
 cases C with
 | none=>
  simp only[resQ] at hc
  go_enter Tryz.func35,Tryz.ntmps35
  go_wp2_with (go_at_call 60;with_reducible refine hc.mono ?_;rintro e w1 ⟨rfl,hb1⟩)
  go_ret
  exact⟨rfl,hb0.trans (hb1.mono hb0.size)⟩
 | some a=>
  have ha:=hle a rfl
  have ha':300 - (a:Int)>=0:=by omega
  simp only[resQ] at hc
  clear hle
  go_enter Tryz.func35,Tryz.ntmps35
  go_wp2_with (go_at_call 60;with_reducible refine hc.mono ?_;rintro e w1 ⟨rfl,hb1⟩)
  go_ret
  exact⟨by simp<;>omega,hb0.trans (hb1.mono hb0.size)⟩
end Go.Proofs.YtaonejnicgbifaaGreatDoor
namespace Go.Proofs.YtaonejnicgbifaaGreatDoor
open Go Go.RowKit
set_option maxRecDepth 100000
theorem zk3:∃d,Tryz.prog.underlying 48=some d/\d.isRow=true:=by
 have h:(Tryz.prog.underlying 48).map TypeDesc.isRow=some true:=by kernel_rfl
 cases hd:Tryz.prog.underlying 48 with
 | none=>rw[hd] at h;cases h
 | some d=>rw[hd] at h;exact⟨d,rfl,by simpa using h⟩
theorem zdn:(Tryz.prog.info? 48).map (·.size)=some 33:=by kernel_rfl
theorem ky_row:∃d,Tryz.prog.underlying 24=some d/\d.isRow=true:=by
 have h:(Tryz.prog.underlying 24).map TypeDesc.isRow=some true:=by kernel_rfl
 cases hd:Tryz.prog.underlying 24 with
 | none=>rw[hd] at h;cases h
 | some d=>rw[hd] at h;exact⟨d,rfl,by simpa using h⟩
theorem zk4:(Tryz.prog.info? 24).map (·.size)=some 2:=by kernel_rfl
structure En where
 k:Ky
 r:List Value
def En.cells (e:En):List Value:=.string e.k.1::.int .i64 e.k.2::e.r
structure En.Ok (e:En):Prop where
 len:e.r.length=31
 one:∀u∈e.r,u.oneCell'=true
 key:KyOk e.k
theorem En.Ok.len' {e:En} (h:e.Ok):e.cells.length=33:=by simp[En.cells,h.len]
theorem En.Ok.one' {e:En} (h:e.Ok):e.cells.toArray.all (·.oneCell')=true:=by
 rw[List.all_toArray,List.all_eq_true]
 intro u hu
 rcases List.mem_cons.1 hu with rfl | hu
 ·rfl
 ·rcases List.mem_cons.1 hu with rfl | hu
  ·rfl
  ·exact h.one u hu
theorem En.c0 (e:En):e.cells[0]?=some (.string e.k.1):=rfl
theorem En.c1 (e:En):e.cells[1]?=some (.int .i64 e.k.2):=rfl
def LibOk (w:World) (q:Option Addr) (n:Nat) (L:List En):Prop:=
 L.length=n/\n<=1048576/\(∀e∈L,e.Ok)/\(n=0\/∃b o,q=some ⟨b,o,none⟩/\b<w.heap.size/\∀i e,L[i]?=some e->w.rangeAt b (o+i*33) e.cells)
theorem LibOk.below {w w':World} (hb:Below w.heap.size w w') {q:Option Addr} {n:Nat} {L:List En} (h:LibOk w q n L):LibOk w' q n L:=by
 refine⟨h.1,h.2.1,h.2.2.1,h.2.2.2.imp id ?_⟩
 rintro⟨b,o,e,hlt,hc⟩
 exact⟨b,o,e,Nat.lt_of_lt_of_le hlt hb.size,fun i k hk=>zad (hc i k hk) hb hlt⟩
theorem ky_eq (a b:Ky):decide (a=b)=(a.1.toList==b.1.toList&&a.2==b.2):=by
 obtain⟨n,v⟩:=a
 obtain⟨n',v'⟩:=b
 by_cases h1:n.toList=n'.toList
 ·by_cases h2:v=v'
  ·simp[zd3 h1,h2]
  ·simp[h2]
 ·have:¬n=n':=fun e=>h1 (by rw[e])
  simp[h1,this]
theorem key28_ok (e:En) (he:e.Ok) (w:World):Calls Tryz.prog 24 #[.agg e.cells.toArray] w fun x w'=>x=.returned (.agg #[.string e.k.1,.int .i64 e.k.2])/\Below w.heap.size w w':=by
 have h0:=e.c0
 have h1:=e.c1
 have hl:=he.len'
 obtain⟨⟨n,v⟩,r⟩:=e
 simp only at h0 h1 ⊢
 generalize En.cells _=cs at*
 have hr:=zbh w cs 48
 have c0:∀ob,((w.alloc (.cells cs.toArray 48)).alloc ob).cell? ⟨w.heap.size,0,none⟩=some (.string n):=fun ob=>by
  have:=World.rangeAt_alloc hr ob 0 _ h0
  simpa using this
 have c1:∀ob,((w.alloc (.cells cs.toArray 48)).alloc ob).cell? ⟨w.heap.size,1,none⟩=some (.int .i64 v):=fun ob=>by
  have:=World.rangeAt_alloc hr ob 1 _ h1
  simpa using this
 have hb:∀ob,Below w.heap.size w ((w.alloc (.cells cs.toArray 48)).alloc ob):=fun ob=>zah w _ _
 clear hr
 go_enter Tryz.func24,Tryz.ntmps24
 go_wp2_with fail
 exact bodyPost_ret (v:=.agg #[.string n,.int .i64 v]) (by simp[results,go_sem]) rfl ⟨rfl,hb _⟩
theorem key27_ok (e:En) (he:e.Ok) (w:World):Calls Tryz.prog 34 #[.agg e.cells.toArray] w fun x w'=>x=.returned (.agg #[.string e.k.1,.int .i64 e.k.2])/\Below w.heap.size w w':=by
 have h0:=e.c0
 have h1:=e.c1
 have hl:=he.len'
 obtain⟨⟨n,v⟩,r⟩:=e
 simp only at h0 h1 ⊢
 generalize En.cells _=cs at*
 have hr:=zbh w cs 48
 have c0:∀ob,((w.alloc (.cells cs.toArray 48)).alloc ob).cell? ⟨w.heap.size,0,none⟩=some (.string n):=fun ob=>by
  have:=World.rangeAt_alloc hr ob 0 _ h0
  simpa using this
 have c1:∀ob,((w.alloc (.cells cs.toArray 48)).alloc ob).cell? ⟨w.heap.size,1,none⟩=some (.int .i64 v):=fun ob=>by
  have:=World.rangeAt_alloc hr ob 1 _ h1
  simpa using this
 have hb:∀ob,Below w.heap.size w ((w.alloc (.cells cs.toArray 48)).alloc ob):=fun ob=>zah w _ _
 clear hr
 go_enter Tryz.func34,Tryz.ntmps34
 go_wp2_with fail
 exact bodyPost_ret (v:=.agg #[.string n,.int .i64 v]) (by simp[results,go_sem]) rfl ⟨rfl,hb _⟩
theorem idx1_ok {w:World} (e:En) (he:e.Ok) (k:Ky) (B:Nat) (hB:B<w.heap.size) (hk:w.rangeAt B 0 (kcells k)):
  Calls Tryz.prog 23 #[.agg e.cells.toArray,.pointer (some ⟨B,0,none⟩)] w fun x w'=>x=.returned (.bool (decide (e.k=k)))/\Below w.heap.size w w':=by
 have aw:=fun z=>key28_ok e he z
 have hl:=he.len'
 obtain⟨dd,hu,hd⟩:=zk3
 have hHu:=zac hu
 obtain⟨dk,hku,hkd⟩:=ky_row
 have hHk:=zac hku
 have hq:(e.k.1.toList==k.1.toList&&e.k.2==k.2)=decide (e.k=k):=(ky_eq _ _).symm
 clear hu hku he
 generalize decide (e.k=k)=eq at*
 generalize e.k=ek at*
 generalize e.cells=cs at*
 have hb0:Below w.heap.size w (w.alloc (.cells cs.toArray 48)):=zci _ _
 have hz0:(w.alloc (.cells cs.toArray 48)).heap.size=w.heap.size+1:=by simp
 have D0:Hid ((w.alloc (.cells cs.toArray 48)).rangeAt w.heap.size 0 cs):=zbh w cs 48
 have B0:Hid ((w.alloc (.cells cs.toArray 48)).rangeAt B 0 (kcells k)):=World.rangeAt_alloc hk _
 clear hk
 go_enter Tryz.func23,Tryz.ntmps23
 go_wp2_with fail
 try simp only[Act.put]
 refine wp_region_held_drew (S:=fun z=>z.rangeAt w.heap.size 0 cs/\z.rangeAt B 0 (kcells k)) (by kernel_rfl) (by exact⟨D0.out,B0.out⟩) (fun ah=>?_)
 refine wpAnyH_take (i:=0) (oi:=?op0x1) (v:=.agg cs.toArray) ?ta0x1 ?tb0x1 ?tc0x1 ?td0x1 ?tq0x1 ?ty0x1 ah ?_
 case ta0x1=>rfl
 case tb0x1=>kernel_rfl
 case tc0x1=>kernel_rfl
 case td0x1=>kernel_rfl
 case tq0x1=>exact fun _ _ _ h=>h
 case ty0x1=>
  refine yieldsIf_load_mid ?tw0x1 48 (.tmp 2) ?to0x1 w.heap.size 0 ?tx0x1 cs dd (fun z hz=>hz.1) hHu.out hd (by rw[hl];exact zdn)
  case tw0x1=>kernel_rfl
  case to0x1=>rfl
  case tx0x1=>kernel_rfl
 simp only[pz]
 refine wpAnyH_take (i:=2) (oi:=?op2x2) (v:=.agg (kcells k).toArray) ?ta2x2 ?tb2x2 ?tc2x2 ?td2x2 ?tq2x2 ?ty2x2 ah ?_
 case ta2x2=>rfl
 case tb2x2=>kernel_rfl
 case tc2x2=>kernel_rfl
 case td2x2=>kernel_rfl
 case tq2x2=>exact fun _ _ _ h=>h
 case ty2x2=>
  refine yieldsIf_load_mid ?tw2x2 24 (.tmp 1) ?to2x2 B 0 ?tx2x2 (kcells k) dk (fun z hz=>hz.2) hHk.out hkd zk4
  case tw2x2=>kernel_rfl
  case to2x2=>rfl
  case tx2x2=>kernel_rfl
 simp only[pz]
 refine wpAnyH_ready (rs:=[1]) (by kernel_rfl) (by simp) ?_
 refine AllReadyH.cons rfl (fun K' hKK=>?_) AllReadyH.nil
 go_simp
 refine(aw _).mono ?_
 rintro x w2 ⟨rfl,hb2⟩
 have hs2:=hb2.size
 have W2:Below w.heap.size w w2:=hb0.drew.trans (hb2.mono (by show w.heap.size<=(w.alloc (.cells cs.toArray 48)).heap.size;omega))
 have D2:w2.rangeAt w.heap.size 0 cs:=zad (w:=(w.alloc (.cells cs.toArray 48)).drew) D0.out hb2 (by show w.heap.size<(w.alloc (.cells cs.toArray 48)).heap.size;omega)
 have B2:w2.rangeAt B 0 (kcells k):=zad (w:=(w.alloc (.cells cs.toArray 48)).drew) B0.out hb2 (by show B<(w.alloc (.cells cs.toArray 48)).heap.size;omega)
 refine hKK.out _ _ ⟨D2,B2⟩ (fun al=>?_)
 clear hKK K'
 refine wpAnyH_take (i:=3) (oi:=?op3x3) (v:=.bool eq) ?ta3x3 ?tb3x3 ?tc3x3 ?td3x3 ?tq3x3 ?ty3x3 al ?_
 case ta3x3=>rfl
 case tb3x3=>kernel_rfl
 case tc3x3=>kernel_rfl
 case td3x3=>kernel_rfl
 case tq3x3=>exact fun _ _ _ h=>h
 case ty3x3=>
  refine Or.inl ⟨by rfl,?_⟩
  intro z hSz
  have u3:=Tryz.underlying3
  have u9:=Tryz.underlying9
  simp only[kcells]
  go_simp
  rw[<-hq]
  by_cases h1:ek.1.toList=k.1.toList<;>by_cases h2:ek.2=k.2<;>simp[h1,h2]
 simp only[pz]
 refine wpAnyH_take (i:=4) (oi:=?op4x4) (v:=.bool eq) ?ta4x4 ?tb4x4 ?tc4x4 ?td4x4 ?tq4x4 ?ty4x4 al ?_
 case ta4x4=>rfl
 case tb4x4=>kernel_rfl
 case tc4x4=>kernel_rfl
 case td4x4=>kernel_rfl
 case tq4x4=>exact fun _ _ _ h=>h
 case ty4x4=>exact Or.inl ⟨by rfl,by intro z hSz;go_simp⟩
 simp only[pz]
 refine wpAnyH_done (by kernel_rfl) ?_ _
 go_wp2_with fail
 go_ret
 exact⟨rfl,W2⟩
set_option maxHeartbeats 16000000
theorem zgd {w:World} (b o n c:Nat) (L:List En) (hL:L.length=n) (hn:n<=1048576) (eI:∀e∈L,e.Ok) (hb:b<w.heap.size) (hx:∀i e,L[i]?=some e->w.rangeAt b (o+i*33) e.cells)
  (k0:Ky) (B:Nat) (hB:B<w.heap.size) (hk:w.rangeAt B 0 (kcells k0)):
  Calls Tryz.prog 22 #[.slice (some ⟨b,o,none⟩) n c,.func (.func 23) #[] #[.pointer (some ⟨B,0,none⟩)]] w fun x w'=>x=.returned (.int .i64 (ixI (L.map (·.k)) k0))/\Below w.heap.size w w':=by
 have hx':Hid (∀i e,L[i]?=some e->w.rangeAt b (o+i*33) e.cells):=hx
 have eJ:Hid (∀e∈L,e.Ok):=eI
 obtain⟨dd,hu,hd⟩:=zk3
 have hHu:=zac hu
 have hk':Hid (w.rangeAt B 0 (kcells k0)):=hk
 clear hx eI hu hk
 go_enter Tryz.func22,Tryz.ntmps22
 go_wp2_with fail
 go_loopw [8] (fun i wr=>∃k:Nat,k<=n/\i=.int .i64 k/\(∀j a,j<k->(L.map (·.k))[j]?=some a->¬a=k0)/\Below w.heap.size w wr) (fun i _=>n - (intOf i).toNat)
 case atStart=>exact⟨0,Nat.zero_le _,rfl,fun j a hj=>by omega,Below.refl _ _⟩
 case round=>
  obtain⟨k,hk,rfl,aE,hbw⟩:=hrel
  have aN:=zac aE
  clear aE
  by_cases hlt:k<n
  ·have aA:(k:Int)<(n:Int):=by omega
   obtain⟨e,he⟩:∃e,L[k]?=some e:=⟨_,List.getElem?_eq_getElem (by omega)⟩
   have heL:=List.mem_of_getElem? he
   have hek:=eJ.out e heL
   have hx:=zad (hx'.out k e he) hbw hb
   have lx:=hek.len'
   have ox':Hid (e.cells.toArray.all (·.oneCell')=true):=hek.one'
   have aw:=idx1_ok (w:=wr) e hek k0 B (Nat.lt_of_lt_of_le hB hbw.size) (zad hk'.out hbw hB)
   have hel:Hid ((L.map (·.k))[k]?=some e.k):=by show(L.map (·.k))[k]?=some e.k;rw[List.getElem?_map,he];rfl
   clear he heL hek
   generalize hee:e.k=ek at*
   generalize e.cells=cx at*
   clear hee
   by_cases hq:ek=k0
   ·rw[decide_eq_true hq] at aw
    have hq':Hid (ek=k0):=hq
    clear hq
    go_wp2_with (first
     | (with_reducible refine wpList_load_mid (op:=⟨some 15,_,_,_,_,_⟩) ?_ 48 (.tmp 14) ?_ (b) (o+k*33) ?_ cx dd ?_ hHu.out hd ?_ ?_
        rotate_left 1
        ·with_reducible rfl
        ·kernel_rfl
        ·exact hx
        ·(rw[lx];exact zdn)
        rotate_left 1
        ·rfl)
     | (go_at_call 23;refine aw.mono ?_;rintro x w5 ⟨rfl,hb5⟩))
    go_ret
    have hs:ixK (L.map (·.k)) k0=some k:=zid (by rw[<-hq'.out];exact hel.out) aN.out
    refine⟨?_,hbw.trans (hb5.mono hbw.size)⟩
    unfold ixI
    rw[hs]
    rfl
   ·rw[decide_eq_false hq] at aw
    have hq':Hid (¬ek=k0):=hq
    clear hq
    go_wp2_with (first
     | (with_reducible refine wpList_load_mid (op:=⟨some 15,_,_,_,_,_⟩) ?_ 48 (.tmp 14) ?_ (b) (o+k*33) ?_ cx dd ?_ hHu.out hd ?_ ?_
        rotate_left 1
        ·with_reducible rfl
        ·kernel_rfl
        ·exact hx
        ·(rw[lx];exact zdn)
        rotate_left 1
        ·rfl)
     | (go_at_call 23;refine aw.mono ?_;rintro x w5 ⟨rfl,hb5⟩))
    go_roundw
    case rel=>
     refine⟨k+1,by omega,by go_num,fun j a hj ha=>?_,hbw.trans (hb5.mono hbw.size)⟩
     rcases Nat.lt_or_ge j k with h | h
     ·exact aN.out j a h ha
     ·obtain rfl:j=k:=by omega
      rw[hel.out] at ha
      cases ha
      exact hq'.out
    case measure=>simp[intOf];omega
  ·obtain rfl:k=n:=by omega
   go_wp2_with fail
   go_ret
   have hs:ixK (L.map (·.k)) k0=none:=zie fun j a ha=>aN.out j a (by
    have:=(List.getElem?_eq_some_iff.1 ha).1
    simp at this
    omega) ha
   refine⟨?_,hbw⟩
   unfold ixI
   rw[hs]
   rfl
theorem zge {w:World} (q:Option Addr) (c:Nat) (f:Value):
  Calls Tryz.prog 22 #[.slice q 0 c,f] w fun x w'=>x=.returned (.int .i64 (-1))/\w'=w:=by
 go_enter Tryz.func22,Tryz.ntmps22
 go_wp2_with fail
 refine wp_loop_once ?_
 go_wp2_with fail
 go_ret
 exact⟨rfl,rfl⟩
theorem zjf {w:World} {q:Option Addr} {n:Nat} (c:Nat) {L:List En} (h:LibOk w q n L) (k0:Ky) (B:Nat) (hB:B<w.heap.size) (hk:w.rangeAt B 0 (kcells k0)):
  Calls Tryz.prog 22 #[.slice q n c,.func (.func 23) #[] #[.pointer (some ⟨B,0,none⟩)]] w fun x w'=>x=.returned (.int .i64 (ixI (L.map (·.k)) k0))/\Below w.heap.size w w':=by
 obtain⟨h1,h2,h3,h4⟩:=h
 rcases h4 with rfl | ⟨b,o,rfl,hlt,hc⟩
 ·obtain rfl:L=[]:=List.eq_nil_of_length_eq_zero h1
  refine(zge q c _).mono ?_
  rintro x w' ⟨rfl,rfl⟩
  exact⟨rfl,Below.refl _ _⟩
 ·exact zgd b o n c L h1 h2 h3 hlt hc k0 B hB hk
theorem index_ok {w:World} {q:Option Addr} {n:Nat} (c:Nat) {L:List En} (h:LibOk w q n L) (k0:Ky):
  Calls Tryz.prog 9 #[.slice q n c,.agg #[.string k0.1,.int .i64 k0.2]] w fun x w'=>x=.returned (.int .i64 (ixI (L.map (·.k)) k0))/\Below w.heap.size w w':=by
 have hb0:Below w.heap.size w (w.alloc (.cells #[.string k0.1,.int .i64 k0.2] 24)):=zci _ _
 have hr:=zbh w (kcells k0) 24
 have aw:=zjf c (h.below hb0) k0 w.heap.size (by simp) hr
 clear hr
 generalize ixI (L.map (·.k)) k0=r at*
 go_enter Tryz.func9,Tryz.ntmps9
 go_wp2_with (go_at_call 22;refine aw.mono ?_;rintro x w5 ⟨rfl,hb5⟩)
 go_ret
 exact⟨rfl,hb0.trans (hb5.mono (by simp))⟩
def fndV (L:List Ky) (k:Ky):Value:=match ixK L k with | some i=>.tuple #[.int .i64 i,.bool true] | none=>.tuple #[.int .i64 0,.bool false]
end Go.Proofs.YtaonejnicgbifaaGreatDoor
