import Derived.Test.YtnnhofmknilopaaGreatDoorPk14
import Derived.Test.YtnnhofmknilopaaGreatDoorPk22
namespace Go.Proofs.YtnnhofmknilopaaGreatDoor
open Go Go.RowKit
set_option maxRecDepth 100000
set_option maxHeartbeats 16000000
theorem un_chain (f g:Nat->Bool):((g 0||f 0)&&((g 1||f 1)&&((g 2||f 2)&&((g 3||f 3)&&((g 4||f 4)&&((g 5||f 5)&&((g 6||f 6)&&((g 7||f 7)&&((g 8||f 8)&&((g 9||f 9)&&((g 10||f 10))))))))))))=(List.range 11).all fun j=>f j||g j:=by
 have h:List.range 11=[0,1,2,3,4,5,6,7,8,9,10]:=rfl
 rw[h]
 simp only[List.all_cons,List.all_nil,Bool.and_true]
 rw[Bool.or_comm (g 0),Bool.or_comm (g 1),Bool.or_comm (g 2),Bool.or_comm (g 3),Bool.or_comm (g 4),Bool.or_comm (g 5),Bool.or_comm (g 6),Bool.or_comm (g 7),Bool.or_comm (g 8),Bool.or_comm (g 9),Bool.or_comm (g 10)]
theorem zk5 {q r:KR} (h:usesL q letQ=usesL r letP) (j:Nat) (hj:j<11):decide (letQ.getD j 0∈q.fl)=decide (letP.getD j 0∈r.fl):=by
 have h1:=congrArg (fun l=>l.getD j false) h
 have h2:j=0\/j=1\/j=2\/j=3\/j=4\/j=5\/j=6\/j=7\/j=8\/j=9\/j=10:=by omega
 rcases h2 with rfl | rfl | rfl | rfl | rfl | rfl | rfl | rfl | rfl | rfl | rfl<;>exact h1
theorem zjq (r:KR) (s:Sc) (X Y:Int) (x:Ex) (pn:Nat) (ps:Nat->Pt) (bn:Nat) (bs:Nat->Bd) (ue:Bool):
  (unB r (zsS s pn bn (decide (X=0)) x.no)&&contB ue X Y x pn ps bn bs)=(unB r (zsS s pn bn (!large X Y&&decide (X=0)) x.no)&&contB ue X Y x pn ps bn bs):=by
 cases h:large X Y with
 | false=>rfl
 | true=>
  have hc:contB ue X Y x pn ps bn bs=false:=by unfold contB;rw[h];simp
  rw[hc,Bool.and_false,Bool.and_false]
theorem formQ_ok {w:World} {t:St} {d:Sd} (h:StOk w t d):Calls Tryz.prog 53 #[d.val] w (Rt w (.bool t.form)):=by
 cases t with
 | non=>exact h.elim
 | mk s nu de x pn ps bn bs n ki=>
  unfold StOk at h
  obtain⟨⟨rfl,rfl,rfl,rfl⟩,h1,h2,ln,ld,hX,hP,hB,_,_⟩:=h
  show Calls Tryz.prog 53 #[.agg (sV d)] w (Rt w (.bool (formS d.s (val nu) (val de) x d.pon ps d.arn bs d.kin)))
  rcases zee d.s.ru with⟨r,hr,e⟩ | hno
  ·obtain⟨q,hq,eqn,_,eqk,equ⟩:=zjl hr
   have hru:d.s.ru=q.n:=by rw[eqn,e]
   have hu:=fun j hj=>zk5 equ j hj
   have hc:∀j,j<11->∀z,Calls Tryz.prog 54 #[.int .i64 d.s.ru,.int .u8 (letQ.getD j 0).toNat] z (Rt z (.bool (decide (letP.getD j 0∈r.fl)))):=fun j hj z=>by
    rw[<-hu j hj,hru]
    refine zfl hq ?_ z
    have h2:j=0\/j=1\/j=2\/j=3\/j=4\/j=5\/j=6\/j=7\/j=8\/j=9\/j=10:=by omega
    rcases h2 with rfl | rfl | rfl | rfl | rfl | rfl | rfl | rfl | rfl | rfl | rfl<;>decide
   rw[zcc (by rw[<-e];exact zda hr),<-zjq]
   have hUE:decide ((101:UInt8)∈q.fl)=decide ((101:UInt8)∈r.fl):=hu 6 (by decide)
   have hf:=zhl hq h1 h2 ln ld hX hP hB hru (U:=unB r (zsS d.s d.pon d.arn (decide (val nu=0)) x.no)) hUE (fun z hz=>
    zil (h1.below hz) (h2.below hz) ln ld (hX.below hz) (hP.below hz) (hB.below hz) (ZA:=decide (val nu=0)) (ZE:=x.no) rfl rfl
     (hc 0 (by decide)) (hc 1 (by decide)) (hc 2 (by decide)) (hc 3 (by decide)) (hc 4 (by decide)) (hc 5 (by decide)) (hc 6 (by decide)) (hc 7 (by decide)) (hc 8 (by decide)) (hc 9 (by decide)) (hc 10 (by decide))
     rfl rfl rfl rfl rfl rfl rfl rfl rfl rfl rfl
     (un_chain (fun j=>(zsS d.s d.pon d.arn (decide (val nu=0)) x.no).getD j false) (fun j=>decide (letP.getD j 0∈r.fl))))
   rw[eqk,Bool.and_assoc] at hf
   exact hf
  ·rw[zec (zdb hno)]
   exact zhk h1 h2 ln ld hX hP hB hno
def St.formed:St->Bool
 | .non=>false
 | .mk s nu de x pn ps bn bs n ki=>(St.mk s nu de x pn ps bn bs n ki).form&&(List.range n).all fun i=>(ki i).formed
def St.steps:St->Nat->Nat
 | .non,a=>a
 | .mk _ _ _ _ _ _ _ _ n ki,a=>cntN (fun i=>(ki i).steps) n (a+1)
theorem St.steps_le:∀(t:St) (a:Nat),a<=2000->t.steps a<=2001
 | .non,a,h=>by show a<=2001;omega
 | .mk _ _ _ _ _ _ _ _ n ki,a,h=>zlb (fun i b hb=>(ki i).steps_le b hb) (by omega) n
def St.dep:St->Nat->Nat
 | .non,_=>0
 | .mk _ _ _ _ _ _ _ _ n ki,l=>if l<=1 then 1 else maxN (fun i=>(ki i).dep (l - 1)) n+1
theorem St.dep_le:∀(t:St) (l:Nat),1<=l->t.dep l<=l
 | .non,l,_=>Nat.zero_le _
 | .mk _ _ _ _ _ _ _ _ n ki,l,h=>by
  unfold St.dep
  split
  ·exact h
  ·have:=zgc (f:=fun i=>(ki i).dep (l - 1)) (m:=l - 1) (fun i=>(ki i).dep_le (l - 1) (by omega)) n
   omega
theorem walkF_ok:∀(t:St) (d:Sd) (w:World),StOk w t d->Tb w->
  Calls Tryz.prog 8 #[d.val,.func (.func 19) #[] #[]] w (Rt w (.bool t.formed)):=by
 intro t
 induction t with
 | non=>exact fun d w h _=>h.elim
 | mk s nu de x pn ps bn bs n ki ih=>
  intro d w h hT
  have hf:=h
  unfold StOk at h
  obtain⟨⟨_,_,_,rfl⟩,_,_,_,_,_,_,_,h9,h10⟩:=h
  have hV:∀z,Below w.heap.size w z->Calls Tryz.prog 19 #[d.val] z (Rt z (.bool (St.mk s nu de x pn ps bn bs d.kin ki).form)):=fun z hz=>wfP_ok (hf.below hz) (hT.below hz)
  rcases h10 with h0 | ⟨b,o,e,hlt,ds,hds⟩
  ·exact zfr (fun _=>d) (fun i=>(ki i).formed) h9 (.inl h0) hV (fun i hi=>by omega)
  ·exact zfr ds (fun i=>(ki i).formed) h9 (.inr ⟨b,o,e,hlt,fun i hi=>(hds i hi).1⟩) hV (fun i hi z hz=>ih i (ds i) z ((hds i hi).2.below hz) (hT.below hz))
theorem zjr:∀(t:St) (d:Sd) (w:World),StOk w t d->
  Calls Tryz.prog 32 #[d.val] w (Rt w (.bool t.formed)):=by
 intro t
 induction t with
 | non=>exact fun d w h=>h.elim
 | mk s nu de x pn ps bn bs n ki ih=>
  intro d w h
  have hf:=h
  unfold StOk at h
  obtain⟨⟨_,_,_,rfl⟩,_,_,_,_,_,_,_,h9,h10⟩:=h
  have hV:∀z,Below w.heap.size w z->Calls Tryz.prog 53 #[d.val] z (Rt z (.bool (St.mk s nu de x pn ps bn bs d.kin ki).form)):=fun z hz=>formQ_ok (hf.below hz)
  rcases h10 with h0 | ⟨b,o,e,hlt,ds,hds⟩
  ·exact ze1 (fun _=>d) (fun i=>(ki i).formed) h9 (.inl h0) hV (fun i hi=>by omega)
  ·exact ze1 ds (fun i=>(ki i).formed) h9 (.inr ⟨b,o,e,hlt,fun i hi=>(hds i hi).1⟩) hV (fun i hi z hz=>ih i (ds i) z ((hds i hi).2.below hz))
theorem walkN_ok {w0:World}:∀(t:St) (d:Sd),StOk w0 t d->∀(w:World) (O n:Nat),Below w0.heap.size w0 w->w0.heap.size<=O->Cnt w O n->n<=2000->
  Calls Tryz.prog 8 #[d.val,.func (.func 38) #[] #[.pointer (some ⟨O,0,none⟩)]] w fun e w'=>e=.returned (.bool (decide (t.steps n<=2000)))/\Cnt w' O (t.steps n)/\Tick O w w':=by
 intro t
 induction t with
 | non=>exact fun d h=>h.elim
 | mk s nu de x pn ps bn bs n ki ih=>
  intro d h w O m hw hO hc hm
  unfold StOk at h
  obtain⟨⟨_,_,_,rfl⟩,_,_,_,_,_,_,_,h9,h10⟩:=h
  rcases h10 with h0 | ⟨b,o,e,hlt,ds,hds⟩
  ·exact zfs (fun _=>d) (fun i=>(ki i).steps) hc hm (fun i a ha=>(ki i).steps_le a ha) h9 (.inl h0) (fun i hi=>by omega)
  ·exact zfs ds (fun i=>(ki i).steps) hc hm (fun i a ha=>(ki i).steps_le a ha) h9 (.inr ⟨b,o,e,by omega,fun i hi=>zac (hds i hi).1 hw hlt⟩)
    (fun i hi z a hz hca ha=>ih i (ds i) (hds i hi).2 z O a (hw.trans (hz.mono hO)) hO hca ha)
theorem zk6:∀(t:St) (d:Sd) (w:World) (n:Nat),StOk w t d->n<=2000->
  Calls Tryz.prog 51 #[d.val,.int .i64 n] w (Rt w (.int .i64 (t.steps n))):=by
 intro t
 induction t with
 | non=>exact fun d w n h=>h.elim
 | mk s nu de x pn ps bn bs n ki ih=>
  intro d w m h hm
  unfold StOk at h
  obtain⟨⟨_,_,_,rfl⟩,_,_,_,_,_,_,_,h9,h10⟩:=h
  rcases h10 with h0 | ⟨b,o,e,hlt,ds,hds⟩
  ·exact zft (fun _=>d) (fun i=>(ki i).steps) hm (fun i a ha=>(ki i).steps_le a ha) h9 (.inl h0) (fun i hi=>by omega)
  ·exact zft ds (fun i=>(ki i).steps) hm (fun i a ha=>(ki i).steps_le a ha) h9 (.inr ⟨b,o,e,hlt,fun i hi=>(hds i hi).1⟩)
    (fun i hi z a hz ha=>ih i (ds i) z a ((hds i hi).2.below hz) ha)
theorem zjs {w:World} {d:Sd}:
  Calls Tryz.prog 39 #[.agg (sV d),.int .i64 42] w (Rt w (.int .i64 42)):=by
 have hb0:Hid (Below w.heap.size w (w.alloc (.cells (sV d) 32))):=zaa w _
 go_enter Tryz.func39,Tryz.ntmps39
 go_wp2_with fail
 go_ret
 exact⟨rfl,hb0.out⟩
theorem zk7 {w:World} {d:Sd}:
  Calls Tryz.prog 52 #[.agg (sV d),.int .i64 1] w (Rt w (.int .i64 1)):=by
 have hb0:Hid (Below w.heap.size w (w.alloc (.cells (sV d) 32))):=zaa w _
 go_enter Tryz.func52,Tryz.ntmps52
 go_wp2_with fail
 go_ret
 exact⟨rfl,hb0.out⟩
theorem zk8:∀(t:St) (d:Sd) (w:World) (L l:Nat),StOk w t d->L+l=43->1<=L->1<=l->
  Calls Tryz.prog 39 #[d.val,.int .i64 L] w (Rt w (.int .i64 ((L:Int) - 1+t.dep l))):=by
 intro t
 induction t with
 | non=>exact fun d w L l h=>h.elim
 | mk s nu de x pn ps bn bs n ki ih=>
  intro d w L l h hL h1 h2
  unfold StOk at h
  obtain⟨⟨_,_,_,rfl⟩,_,_,_,_,_,_,_,h9,h10⟩:=h
  unfold St.dep
  by_cases hl:l<=1
  ·obtain rfl:L=42:=by omega
   rw[if_pos hl]
   exact zjs
  ·rw[if_neg hl]
   have hz:∀m:Nat,((L:Int) - 1+((m+1:Nat):Int))=(L:Int)+m:=fun m=>by omega
   rw[hz]
   have hf:∀i,(ki i).dep (l - 1)<=42:=fun i=>Nat.le_trans ((ki i).dep_le (l - 1) (by omega)) (by omega)
   rcases h10 with h0 | ⟨b,o,e,hlt,ds,hds⟩
   ·exact zfu (fun _=>d) (fun i=>(ki i).dep (l - 1)) (by omega) hf h9 (.inl h0) (fun i hi=>by omega)
   ·refine zfu ds (fun i=>(ki i).dep (l - 1)) (by omega) hf h9 (.inr ⟨b,o,e,hlt,fun i hi=>(hds i hi).1⟩) (fun i hi z hz=>?_)
    have:=ih i (ds i) z (L+1) (l - 1) ((hds i hi).2.below hz) (by omega) (by omega) (by omega)
    rw[show (((L+1:Nat):Int) - 1+((ki i).dep (l - 1):Int))=(L:Int)+((ki i).dep (l - 1):Int) by omega,show((L+1:Nat):Int)=(L:Int)+1 by omega] at this
    exact this
theorem deepT_ok:∀(t:St) (d:Sd) (w:World) (l:Nat),StOk w t d->1<=l->l<=42->
  Calls Tryz.prog 52 #[d.val,.int .i64 l] w (Rt w (.int .i64 (t.dep l))):=by
 intro t
 induction t with
 | non=>exact fun d w l h=>h.elim
 | mk s nu de x pn ps bn bs n ki ih=>
  intro d w l h h1 h2
  unfold StOk at h
  obtain⟨⟨_,_,_,rfl⟩,_,_,_,_,_,_,_,h9,h10⟩:=h
  unfold St.dep
  by_cases hl:l<=1
  ·obtain rfl:l=1:=by omega
   rw[if_pos hl]
   exact zk7
  ·rw[if_neg hl]
   have hz:∀m:Nat,((m+1:Nat):Int)=(m:Int)+1:=fun m=>by omega
   rw[hz]
   have hf:∀i,(ki i).dep (l - 1)<=42:=fun i=>Nat.le_trans ((ki i).dep_le (l - 1) (by omega)) (by omega)
   rcases h10 with h0 | ⟨b,o,e,hlt,ds,hds⟩
   ·exact zg4 (fun _=>d) (fun i=>(ki i).dep (l - 1)) (by omega) h2 hf h9 (.inl h0) (fun i hi=>by omega)
   ·refine zg4 ds (fun i=>(ki i).dep (l - 1)) (by omega) h2 hf h9 (.inr ⟨b,o,e,hlt,fun i hi=>(hds i hi).1⟩) (fun i hi z hz=>?_)
    have:=ih i (ds i) z (l - 1) ((hds i hi).2.below hz) (by omega) (by omega)
    rw[show ((l - 1:Nat):Int)=(l:Int) - 1 by omega] at this
    exact this
theorem zd3 {P:Program} {ops:Array Oper} {rest:List Oper} {op:Oper} {a:Act} {w:World} {Q:Exit->Act->World->Prop} (hg:Region.wanted op (yielded ops a.tmps)=true) (ty:TypeId) (x:Operand) (ho:op.op=.load ty x)
  (b o:Nat) (hx:a.eval x=.pointer (some ⟨b,o,none⟩)) (cs:List Value) (d:TypeDesc) (hc:w.rangeAt b o cs)
  (hu:P.underlying ty=some d) (hd:d.isRow=true) (hi:(P.info? ty).map (·.size)=some cs.length)
  (h:wpList P ops Q rest (a.put op.dst (.agg cs.toArray)) w):wpList P ops Q (op::rest) a w:=
 BigFrame.wpList_want hg fun _ hK=>wp_load_mid ty x ho b o hx cs d hc hu hd hi (hK _ _ h)
theorem ldg {ops:Array Oper} {rest:List Oper} {op:Oper} {a:Act} {w:World} {Q:Exit->Act->World->Prop} (s b o:Nat) (cs:List Value) (hc:w.rangeAt b o cs) (hl:cs.length=21) (h:wpList Tryz.prog ops Q rest (a.put op.dst (.agg cs.toArray)) w) (ho:op.op=.load 32 (.tmp s):=by with_reducible rfl) (hx:a.eval (.tmp s)=.pointer (some ⟨b,o,none⟩):=by kernel_rfl) (hg:Region.wanted op (yielded ops a.tmps)=true:=by kernel_rfl):wpList Tryz.prog ops Q (op::rest) a w:=by
 obtain⟨d,hu,hd⟩:=zay
 exact zd3 hg 32 (.tmp s) ho b o hx cs d hc hu hd (by rw[hl];exact zcd) h
theorem zjt {w:World} {d:Sd} {m:Nat}
  (hW:∀z,Below w.heap.size w z->Cnt z (w.heap.size+1) 0->Calls Tryz.prog 8 #[.agg d.cells.toArray,.func (.func 38) #[] #[.pointer (some ⟨w.heap.size+1,0,none⟩)]] z fun e w'=>(∃b,e=.returned (.bool b))/\Cnt w' (w.heap.size+1) m/\Tick (w.heap.size+1) z w'):
  Calls Tryz.prog 17 #[.agg (sV d)] w (Rt w (.int .i64 m)):=by
 obtain⟨dd,hu,hd⟩:=zay
 have hHu:=zab hu
 clear hu
 have hb0:Below w.heap.size w ((w.alloc (.cells (sV d) 32)).alloc (.cells #[.int .i64 0] 3)):=zdg w _ _
 have hz0:((w.alloc (.cells (sV d) 32)).alloc (.cells #[.int .i64 0] 3)).heap.size=w.heap.size+2:=by simp
 have D0:Hid (((w.alloc (.cells (sV d) 32)).alloc (.cells #[.int .i64 0] 3)).rangeAt (w.heap.size) 0 d.cells):=World.rangeAt_alloc (zah w d.cells 32) _
 have hc0:Cnt ((w.alloc (.cells (sV d) 32)).alloc (.cells #[.int .i64 0] 3)) (w.heap.size+1) 0:=⟨by omega,by
  have h:=heap_alloc_last (w.alloc (.cells (sV d) 32)) (.cells #[.int .i64 0] 3 (0,0))
  rwa [show (w.alloc (.cells (sV d) 32)).heap.size=w.heap.size+1 by simp] at h⟩
 have hw1:=hW _ hb0 hc0
 clear hW hc0
 have cI:=zab hb0
 clear hb0
 go_enter Tryz.func17,Tryz.ntmps17
 go_wp2_with (first
  | (with_reducible refine ldm (op:=⟨some 4,_,_,_,_,_⟩) 1 w.heap.size 0 d.cells D0.out d.len ?_)
  | (go_at_call 8;refine hw1.mono ?_;rintro e w2 ⟨⟨b,rfl⟩,hc2,hb2⟩
     have c2:=hc2.cell))
 go_ret
 exact⟨rfl,cI.out.trans ((hb2.below (by omega)).mono (by omega))⟩
theorem zh6 {w:World} {d:Sd} {m:Nat} (hm:m<=2001)
  (hW:∀z,Below w.heap.size w z->Calls Tryz.prog 51 #[.agg d.cells.toArray,.int .i64 0] z (Rt z (.int .i64 m))):
  Calls Tryz.prog 30 #[.agg (sV d)] w (Rt w (.int .i64 m)):=by
 obtain⟨dd,hu,hd⟩:=zay
 have hHu:=zab hu
 clear hu
 have hb0:Hid (Below w.heap.size w (w.alloc (.cells (sV d) 32))):=zaa w _
 have D0:Hid ((w.alloc (.cells (sV d) 32)).rangeAt (w.heap.size) 0 d.cells):=zah w d.cells 32
 have hz0:(w.alloc (.cells (sV d) 32)).heap.size=w.heap.size+1:=by simp
 have hw1:=hW _ hb0.out
 clear hW
 have hmin:min (m:Int) 2001=(m:Int):=by omega
 go_enter Tryz.func30,Tryz.ntmps30
 go_wp2_with (first
  | (with_reducible refine ldm (op:=⟨some 3,_,_,_,_,_⟩) 1 w.heap.size 0 d.cells D0.out d.len ?_)
  | (go_at_call 51;refine hw1.mono ?_;rintro e w2 ⟨rfl,hb2⟩))
 go_ret
 exact⟨rfl,hb0.out.trans (hb2.mono hb0.out.size)⟩
theorem zju {w:World} {d:Sd} {m:Int}
  (hW:∀z,Below w.heap.size w z->Calls Tryz.prog 39 #[.agg d.cells.toArray,.int .i64 1] z (Rt z (.int .i64 m))):
  Calls Tryz.prog 18 #[.agg (sV d)] w (Rt w (.int .i64 m)):=by
 obtain⟨dd,hu,hd⟩:=zay
 have hHu:=zab hu
 clear hu
 have hb0:Hid (Below w.heap.size w (w.alloc (.cells (sV d) 32))):=zaa w _
 have D0:Hid ((w.alloc (.cells (sV d) 32)).rangeAt (w.heap.size) 0 d.cells):=zah w d.cells 32
 have hz0:(w.alloc (.cells (sV d) 32)).heap.size=w.heap.size+1:=by simp
 have hw1:=hW _ hb0.out
 clear hW
 go_enter Tryz.func18,Tryz.ntmps18
 go_wp2_with (first
  | (with_reducible refine ldm (op:=⟨some 3,_,_,_,_,_⟩) 1 w.heap.size 0 d.cells D0.out d.len ?_)
  | (go_at_call 39;refine hw1.mono ?_;rintro e w2 ⟨rfl,hb2⟩))
 go_ret
 exact⟨rfl,hb0.out.trans (hb2.mono hb0.out.size)⟩
theorem zh7 {w:World} {d:Sd} {m:Int}
  (hW:∀z,Below w.heap.size w z->Calls Tryz.prog 52 #[.agg d.cells.toArray,.int .i64 42] z (Rt z (.int .i64 m))):
  Calls Tryz.prog 31 #[.agg (sV d)] w (Rt w (.int .i64 m)):=by
 obtain⟨dd,hu,hd⟩:=zay
 have hHu:=zab hu
 clear hu
 have hb0:Hid (Below w.heap.size w (w.alloc (.cells (sV d) 32))):=zaa w _
 have D0:Hid ((w.alloc (.cells (sV d) 32)).rangeAt (w.heap.size) 0 d.cells):=zah w d.cells 32
 have hz0:(w.alloc (.cells (sV d) 32)).heap.size=w.heap.size+1:=by simp
 have hw1:=hW _ hb0.out
 clear hW
 go_enter Tryz.func31,Tryz.ntmps31
 go_wp2_with (first
  | (with_reducible refine ldm (op:=⟨some 3,_,_,_,_,_⟩) 1 w.heap.size 0 d.cells D0.out d.len ?_)
  | (go_at_call 52;refine hw1.mono ?_;rintro e w2 ⟨rfl,hb2⟩))
 go_ret
 exact⟨rfl,hb0.out.trans (hb2.mono hb0.out.size)⟩
theorem zjv {w:World} {d:Sd} {n m:Int} {B:Bool}
  (h1:∀z,Below w.heap.size w z->Calls Tryz.prog 17 #[.agg d.cells.toArray] z (Rt z (.int .i64 n)))
  (h2:∀z,Below w.heap.size w z->Calls Tryz.prog 18 #[.agg d.cells.toArray] z (Rt z (.int .i64 m)))
  (h3:∀z,Below w.heap.size w z->Calls Tryz.prog 8 #[.agg d.cells.toArray,.func (.func 19) #[] #[]] z (Rt z (.bool B))):
  Calls Tryz.prog 7 #[.agg (sV d)] w (Rt w (.int .i64 (if n > 2000 then 4 else if m > 41 then 4 else if B then 0 else 70))):=by
 obtain⟨dd,hu,hd⟩:=zay
 have hHu:=zab hu
 clear hu
 have hb0:Hid (Below w.heap.size w (w.alloc (.cells (sV d) 32))):=zaa w _
 have D0:Hid ((w.alloc (.cells (sV d) 32)).rangeAt (w.heap.size) 0 d.cells):=zah w d.cells 32
 have hz0:(w.alloc (.cells (sV d) 32)).heap.size=w.heap.size+1:=by simp
 by_cases c1:n > 2000
 ·rw[if_pos c1]
  have e1:decide (n > 2000)=true:=decide_eq_true c1
  have e1':decide (2000<n)=true:=decide_eq_true c1
  go_enter Tryz.func7,Tryz.ntmps7
  go_wp2_with (first
   | (with_reducible refine ldm (op:=⟨some 3,_,_,_,_,_⟩) 1 w.heap.size 0 d.cells D0.out d.len ?_)
   | (go_at_call 17;refine(h1 _ hb0.out).mono ?_;rintro e w2 ⟨rfl,hb2⟩
      have W2:Hid (Below w.heap.size w w2):=hb0.out.trans (hb2.mono hb0.out.size)
      have hs2:w.heap.size<w2.heap.size:=by have:=hb2.size;omega
      have D2:Hid (w2.rangeAt (w.heap.size) 0 d.cells):=zac D0.out hb2 (by omega)))
  go_ret
  exact⟨rfl,W2.out⟩
 ·rw[if_neg c1]
  have e1:decide (n > 2000)=false:=decide_eq_false c1
  have e1':decide (2000<n)=false:=decide_eq_false c1
  by_cases c2:m > 41
  ·rw[if_pos c2]
   go_enter Tryz.func7,Tryz.ntmps7
   go_wp2_with (first
    | (with_reducible refine ldm (op:=⟨some 3,_,_,_,_,_⟩) 1 w.heap.size 0 d.cells D0.out d.len ?_)
    | (go_at_call 17;refine(h1 _ hb0.out).mono ?_;rintro e w2 ⟨rfl,hb2⟩
       have W2:Hid (Below w.heap.size w w2):=hb0.out.trans (hb2.mono hb0.out.size)
       have hs2:w.heap.size<w2.heap.size:=by have:=hb2.size;omega
       have D2:Hid (w2.rangeAt (w.heap.size) 0 d.cells):=zac D0.out hb2 (by omega))
    | (with_reducible refine ldg (op:=⟨some 7,_,_,_,_,_⟩) 1 w.heap.size 0 d.cells D2.out d.len ?_)
    | (go_at_call 18;refine(h2 _ W2.out).mono ?_;rintro e w3 ⟨rfl,hb3⟩
       have W3:Hid (Below w.heap.size w w3):=W2.out.trans (hb3.mono W2.out.size)
       have hs3:w.heap.size<w3.heap.size:=by have:=hb3.size;omega
       have D3:Hid (w3.rangeAt (w.heap.size) 0 d.cells):=zac D2.out hb3 (by omega)))
   go_ret
   exact⟨rfl,W3.out⟩
  ·rw[if_neg c2]
   cases B with
   | false=>
    show Calls Tryz.prog 7 #[.agg (sV d)] w (Rt w (.int .i64 70))
    go_enter Tryz.func7,Tryz.ntmps7
    go_wp2_with (first
     | (with_reducible refine ldm (op:=⟨some 3,_,_,_,_,_⟩) 1 w.heap.size 0 d.cells D0.out d.len ?_)
     | (go_at_call 17;refine(h1 _ hb0.out).mono ?_;rintro e w2 ⟨rfl,hb2⟩
        have W2:Hid (Below w.heap.size w w2):=hb0.out.trans (hb2.mono hb0.out.size)
        have hs2:w.heap.size<w2.heap.size:=by have:=hb2.size;omega
        have D2:Hid (w2.rangeAt (w.heap.size) 0 d.cells):=zac D0.out hb2 (by omega))
     | (with_reducible refine ldg (op:=⟨some 7,_,_,_,_,_⟩) 1 w.heap.size 0 d.cells D2.out d.len ?_)
     | (go_at_call 18;refine(h2 _ W2.out).mono ?_;rintro e w3 ⟨rfl,hb3⟩
        have W3:Hid (Below w.heap.size w w3):=W2.out.trans (hb3.mono W2.out.size)
        have hs3:w.heap.size<w3.heap.size:=by have:=hb3.size;omega
        have D3:Hid (w3.rangeAt (w.heap.size) 0 d.cells):=zac D2.out hb3 (by omega))
     | (with_reducible refine ldm (op:=⟨some 11,_,_,_,_,_⟩) 1 w.heap.size 0 d.cells D3.out d.len ?_)
     | (go_at_call 8;refine(h3 _ W3.out).mono ?_;rintro e w4 ⟨rfl,hb4⟩
        have W4:Hid (Below w.heap.size w w4):=W3.out.trans (hb4.mono W3.out.size)))
    go_ret
    exact⟨rfl,W4.out⟩
   | true=>
    show Calls Tryz.prog 7 #[.agg (sV d)] w (Rt w (.int .i64 0))
    go_enter Tryz.func7,Tryz.ntmps7
    go_wp2_with (first
     | (with_reducible refine ldm (op:=⟨some 3,_,_,_,_,_⟩) 1 w.heap.size 0 d.cells D0.out d.len ?_)
     | (go_at_call 17;refine(h1 _ hb0.out).mono ?_;rintro e w2 ⟨rfl,hb2⟩
        have W2:Hid (Below w.heap.size w w2):=hb0.out.trans (hb2.mono hb0.out.size)
        have hs2:w.heap.size<w2.heap.size:=by have:=hb2.size;omega
        have D2:Hid (w2.rangeAt (w.heap.size) 0 d.cells):=zac D0.out hb2 (by omega))
     | (with_reducible refine ldg (op:=⟨some 7,_,_,_,_,_⟩) 1 w.heap.size 0 d.cells D2.out d.len ?_)
     | (go_at_call 18;refine(h2 _ W2.out).mono ?_;rintro e w3 ⟨rfl,hb3⟩
        have W3:Hid (Below w.heap.size w w3):=W2.out.trans (hb3.mono W2.out.size)
        have hs3:w.heap.size<w3.heap.size:=by have:=hb3.size;omega
        have D3:Hid (w3.rangeAt (w.heap.size) 0 d.cells):=zac D2.out hb3 (by omega))
     | (with_reducible refine ldm (op:=⟨some 11,_,_,_,_,_⟩) 1 w.heap.size 0 d.cells D3.out d.len ?_)
     | (go_at_call 8;refine(h3 _ W3.out).mono ?_;rintro e w4 ⟨rfl,hb4⟩
        have W4:Hid (Below w.heap.size w w4):=W3.out.trans (hb4.mono W3.out.size)))
    go_ret
    exact⟨rfl,W4.out⟩
theorem zh8 {w:World} {d:Sd} {n m:Int} {B:Bool}
  (h1:∀z,Below w.heap.size w z->Calls Tryz.prog 30 #[.agg d.cells.toArray] z (Rt z (.int .i64 n)))
  (h2:∀z,Below w.heap.size w z->Calls Tryz.prog 31 #[.agg d.cells.toArray] z (Rt z (.int .i64 m)))
  (h3:∀z,Below w.heap.size w z->Calls Tryz.prog 32 #[.agg d.cells.toArray] z (Rt z (.bool B))):
  Calls Tryz.prog 12 #[.agg (sV d)] w (Rt w (.int .i64 (if n > 2000 then 4 else if m > 41 then 4 else if B then 0 else 70))):=by
 obtain⟨dd,hu,hd⟩:=zay
 have hHu:=zab hu
 clear hu
 have hb0:Hid (Below w.heap.size w (w.alloc (.cells (sV d) 32))):=zaa w _
 have D0:Hid ((w.alloc (.cells (sV d) 32)).rangeAt (w.heap.size) 0 d.cells):=zah w d.cells 32
 have hz0:(w.alloc (.cells (sV d) 32)).heap.size=w.heap.size+1:=by simp
 by_cases c1:n > 2000
 ·rw[if_pos c1]
  have e1:decide (n > 2000)=true:=decide_eq_true c1
  have e1':decide (2000<n)=true:=decide_eq_true c1
  go_enter Tryz.func12,Tryz.ntmps12
  go_wp2_with (first
   | (with_reducible refine ldm (op:=⟨some 3,_,_,_,_,_⟩) 1 w.heap.size 0 d.cells D0.out d.len ?_)
   | (go_at_call 30;refine(h1 _ hb0.out).mono ?_;rintro e w2 ⟨rfl,hb2⟩
      have W2:Hid (Below w.heap.size w w2):=hb0.out.trans (hb2.mono hb0.out.size)
      have hs2:w.heap.size<w2.heap.size:=by have:=hb2.size;omega
      have D2:Hid (w2.rangeAt (w.heap.size) 0 d.cells):=zac D0.out hb2 (by omega)))
  go_ret
  exact⟨rfl,W2.out⟩
 ·rw[if_neg c1]
  have e1:decide (n > 2000)=false:=decide_eq_false c1
  have e1':decide (2000<n)=false:=decide_eq_false c1
  by_cases c2:m > 41
  ·rw[if_pos c2]
   go_enter Tryz.func12,Tryz.ntmps12
   go_wp2_with (first
    | (with_reducible refine ldm (op:=⟨some 3,_,_,_,_,_⟩) 1 w.heap.size 0 d.cells D0.out d.len ?_)
    | (go_at_call 30;refine(h1 _ hb0.out).mono ?_;rintro e w2 ⟨rfl,hb2⟩
       have W2:Hid (Below w.heap.size w w2):=hb0.out.trans (hb2.mono hb0.out.size)
       have hs2:w.heap.size<w2.heap.size:=by have:=hb2.size;omega
       have D2:Hid (w2.rangeAt (w.heap.size) 0 d.cells):=zac D0.out hb2 (by omega))
    | (with_reducible refine ldg (op:=⟨some 7,_,_,_,_,_⟩) 1 w.heap.size 0 d.cells D2.out d.len ?_)
    | (go_at_call 31;refine(h2 _ W2.out).mono ?_;rintro e w3 ⟨rfl,hb3⟩
       have W3:Hid (Below w.heap.size w w3):=W2.out.trans (hb3.mono W2.out.size)
       have hs3:w.heap.size<w3.heap.size:=by have:=hb3.size;omega
       have D3:Hid (w3.rangeAt (w.heap.size) 0 d.cells):=zac D2.out hb3 (by omega)))
   go_ret
   exact⟨rfl,W3.out⟩
  ·rw[if_neg c2]
   cases B with
   | false=>
    show Calls Tryz.prog 12 #[.agg (sV d)] w (Rt w (.int .i64 70))
    go_enter Tryz.func12,Tryz.ntmps12
    go_wp2_with (first
     | (with_reducible refine ldm (op:=⟨some 3,_,_,_,_,_⟩) 1 w.heap.size 0 d.cells D0.out d.len ?_)
     | (go_at_call 30;refine(h1 _ hb0.out).mono ?_;rintro e w2 ⟨rfl,hb2⟩
        have W2:Hid (Below w.heap.size w w2):=hb0.out.trans (hb2.mono hb0.out.size)
        have hs2:w.heap.size<w2.heap.size:=by have:=hb2.size;omega
        have D2:Hid (w2.rangeAt (w.heap.size) 0 d.cells):=zac D0.out hb2 (by omega))
     | (with_reducible refine ldg (op:=⟨some 7,_,_,_,_,_⟩) 1 w.heap.size 0 d.cells D2.out d.len ?_)
     | (go_at_call 31;refine(h2 _ W2.out).mono ?_;rintro e w3 ⟨rfl,hb3⟩
        have W3:Hid (Below w.heap.size w w3):=W2.out.trans (hb3.mono W2.out.size)
        have hs3:w.heap.size<w3.heap.size:=by have:=hb3.size;omega
        have D3:Hid (w3.rangeAt (w.heap.size) 0 d.cells):=zac D2.out hb3 (by omega))
     | (with_reducible refine ldm (op:=⟨some 11,_,_,_,_,_⟩) 1 w.heap.size 0 d.cells D3.out d.len ?_)
     | (go_at_call 32;refine(h3 _ W3.out).mono ?_;rintro e w4 ⟨rfl,hb4⟩
        have W4:Hid (Below w.heap.size w w4):=W3.out.trans (hb4.mono W3.out.size)))
    go_ret
    exact⟨rfl,W4.out⟩
   | true=>
    show Calls Tryz.prog 12 #[.agg (sV d)] w (Rt w (.int .i64 0))
    go_enter Tryz.func12,Tryz.ntmps12
    go_wp2_with (first
     | (with_reducible refine ldm (op:=⟨some 3,_,_,_,_,_⟩) 1 w.heap.size 0 d.cells D0.out d.len ?_)
     | (go_at_call 30;refine(h1 _ hb0.out).mono ?_;rintro e w2 ⟨rfl,hb2⟩
        have W2:Hid (Below w.heap.size w w2):=hb0.out.trans (hb2.mono hb0.out.size)
        have hs2:w.heap.size<w2.heap.size:=by have:=hb2.size;omega
        have D2:Hid (w2.rangeAt (w.heap.size) 0 d.cells):=zac D0.out hb2 (by omega))
     | (with_reducible refine ldg (op:=⟨some 7,_,_,_,_,_⟩) 1 w.heap.size 0 d.cells D2.out d.len ?_)
     | (go_at_call 31;refine(h2 _ W2.out).mono ?_;rintro e w3 ⟨rfl,hb3⟩
        have W3:Hid (Below w.heap.size w w3):=W2.out.trans (hb3.mono W2.out.size)
        have hs3:w.heap.size<w3.heap.size:=by have:=hb3.size;omega
        have D3:Hid (w3.rangeAt (w.heap.size) 0 d.cells):=zac D2.out hb3 (by omega))
     | (with_reducible refine ldm (op:=⟨some 11,_,_,_,_,_⟩) 1 w.heap.size 0 d.cells D3.out d.len ?_)
     | (go_at_call 32;refine(h3 _ W3.out).mono ?_;rintro e w4 ⟨rfl,hb4⟩
        have W4:Hid (Below w.heap.size w w4):=W3.out.trans (hb4.mono W3.out.size)))
    go_ret
    exact⟨rfl,W4.out⟩
end Go.Proofs.YtnnhofmknilopaaGreatDoor
namespace Go.Proofs.YtnnhofmknilopaaGreatDoor
open Go Go.Proofs.YtnnhofmknilopaaGreatDoor.Gx Go.RowKit
def fnL:List (Int × List UInt8):=[(1,[101,120,112]),(2,[108,111,103]),(3,[115,105,110]),(4,[99,111,115]),(5,[116,97,110]),(6,[97,115,105,110]),(7,[97,99,111,115]),(8,[97,116,97,110])]
def levL:List (Int × Int):=[(1,5),(2,5),(3,5),(4,3),(5,1),(6,1),(7,2),(8,2),(9,4),(10,5),(11,5),(12,5),(13,5),(14,5),(15,5)]
def fnT (f:Int):List UInt8:=match fnL.find? (fun x=>x.1==f) with | some x=>x.2 | none=>[]
def lev (k:Int):Int:=match levL.find? (fun x=>x.1==k) with | some x=>x.2 | none=>5
def kTab4:Tab:=fnL.map (fun x=>(505,[.int .i64 x.1],.str x.2))++(fnL.map (fun x=>(392,[.int .i64 x.1],.str x.2))++levL.map fun x=>(504,[.int .i64 x.1],.int .i64 x.2))
theorem kChk4:chkT PK GK XK (fun _=>true) 6000 [] kTab4=true:=by decide +kernel
theorem kOk4:TabOk PK GK (kTab4++[]):=TabOk.chk (TabOk.nil PK GK) zi4 zi3 kNoX kChk4
theorem zk9 {f:FuncId} {args:List AV} {v:AV} (h:(f,args,v)∈kTab4) {w:World} {us:Array Value} (hA:LRel (fun _=>False) w phi0 args us.toList):
  Calls Tryz.prog f us w fun e w'=>(∃u,e=.returned u/\VRel (fun _=>False) w' phi0 v u)/\Below w.heap.size w w':=
 kUse (kOk4 _ (List.mem_append_left _ h)) hA
theorem fn_at {f:Int} (h1:1<=f) (h2:f<=8):(f,fnT f)∈fnL:=by
 have:f=1\/f=2\/f=3\/f=4\/f=5\/f=6\/f=7\/f=8:=by omega
 rcases this with rfl | rfl | rfl | rfl | rfl | rfl | rfl | rfl<;>decide
theorem lev_at {k:Int} (h1:1<=k) (h2:k<=15):(k,lev k)∈levL:=by
 have:k=1\/k=2\/k=3\/k=4\/k=5\/k=6\/k=7\/k=8\/k=9\/k=10\/k=11\/k=12\/k=13\/k=14\/k=15:=by omega
 rcases this with rfl | rfl | rfl | rfl | rfl | rfl | rfl | rfl | rfl | rfl | rfl | rfl | rfl | rfl | rfl<;>decide
theorem fnP_ok {f:Int} (h1:1<=f) (h2:f<=8) (w:World):Calls Tryz.prog 505 #[.int .i64 f] w (Rt w (tx (fnT f))):=by
 refine(zk9 (f:=505) (args:=[.int .i64 f]) (v:=.str (fnT f)) (List.mem_append_left _ (List.mem_map.2 ⟨_,fn_at h1 h2,rfl⟩)) (zbq (.int _ _))).mono ?_
 rintro e w' ⟨⟨u,rfl,hu⟩,hb⟩
 rw[hu.str_inv]
 exact⟨rfl,hb⟩
theorem fnQ_ok {f:Int} (h1:1<=f) (h2:f<=8) (w:World):Calls Tryz.prog 392 #[.int .i64 f] w (Rt w (tx (fnT f))):=by
 refine(zk9 (f:=392) (args:=[.int .i64 f]) (v:=.str (fnT f)) (List.mem_append_right _ (List.mem_append_left _ (List.mem_map.2 ⟨_,fn_at h1 h2,rfl⟩))) (zbq (.int _ _))).mono ?_
 rintro e w' ⟨⟨u,rfl,hu⟩,hb⟩
 rw[hu.str_inv]
 exact⟨rfl,hb⟩
theorem levP_ok {k:Int} (h1:1<=k) (h2:k<=15) (w:World):Calls Tryz.prog 504 #[.int .i64 k] w (Rt w (.int .i64 (lev k))):=by
 refine(zk9 (f:=504) (args:=[.int .i64 k]) (v:=.int .i64 (lev k)) (List.mem_append_right _ (List.mem_append_right _ (List.mem_map.2 ⟨_,lev_at h1 h2,rfl⟩))) (zbq (.int _ _))).mono ?_
 rintro e w' ⟨⟨u,rfl,hu⟩,hb⟩
 rw[hu.int_inv]
 exact⟨rfl,hb⟩
def parT (l p:Int) (t:List UInt8):List UInt8:=if l<p then 40::(t++[41]) else t
def sepT (F:Nat->List UInt8):Nat->List UInt8
 | 0=>[]
 | c+1=>(if c=0 then [] else sepT F c++[44,32])++F c
def headT (k f:Int):List UInt8:=
 if k=10 then(if f=2 then [115,113,114,116,40] else [114,111,111,116,40]++Lib.itoa f++[44,32])
 else if k=11 then fnT f++[40]
 else if k=12 then [97,98,115,40]
 else if k=13 then [109,105,110,40]
 else if k=14 then [109,97,120,40]
 else if k=15 then [105,102,40] else []
def signT (k:Int):List UInt8:=if k=5 then [32,43,32] else if k=6 then [32,45,32] else if k=7 then [32,42,32] else [32,47,32]
def Ex.k:Ex->Int
 | .non=>0
 | .mk k ..=>k
def nodeT (k f:Int) (g:Bool) (X Y:Int) (m:ByteArray) (n:Nat) (T:Nat->List UInt8) (L:Nat->Int):List UInt8:=
 if k=1 then numT g X Y
 else if k=2 then m.toList
 else if k=3 then [112,105]
 else if k=4 then 45::parT (L 0) 3 (T 0)
 else if k=5\/k=6 then parT (L 0) 1 (T 0)++(signT k++parT (L 1) 2 (T 1))
 else if k=7\/k=8 then parT (L 0) 2 (T 0)++(signT k++parT (L 1) 3 (T 1))
 else if k=9 then parT (L 0) 5 (T 0)++(94::Lib.itoa f)
 else headT k f++(sepT T n++[41])
def Ex.txt:Ex->List UInt8
 | .non=>[]
 | .mk k f g nu de m n ar=>nodeT k f g (val nu) (val de) m n (fun i=>(ar i).txt) (fun i=>lev (ar i).k)
end Go.Proofs.YtnnhofmknilopaaGreatDoor
