import Derived.Test.YtfhjhnofkaiceaaGreatDoorDvD
namespace Go.Proofs.YtfhjhnofkaiceaaGreatDoor
open Go Go.RowKit
set_option maxRecDepth 100000 in
theorem lists_false {w:World} {ru1 ru2 kk1 kk2 nn1 nn2 pr1 pr2 ve1 ve2 ek1 ek2 ef1 ef2:Int} {nm1 nm2 ot1 ot2 en1 en2 em1 em2:ByteArray} {g1 g2 eg1 eg2:Bool} {a1 a2 c1 c2 ea1 ea2 ec1 ec2 es1 es2:Value} {pq1 pq2 aq1 aq2 kq1 kq2:Option Addr} {pn1 pn2 pc1 pc2 bn1 bn2 ac1 ac2 kn1 kn2 kc1 kc2:Nat}
  (_b1:pn1<=1099511627776) (b2:pn2<=1099511627776) (_b3:bn1<=1099511627776) (b4:bn2<=1099511627776) (_b5:kn1<=1099511627776) (_b6:kn2<=1099511627776) (h:¬(pn1=pn2/\bn1=bn2/\kn1=kn2)):
  Calls Tryz.prog 79 #[.agg #[.int .i64 ru1,.string nm1,.string ot1,.bool g1,a1,c1,.int .i64 kk1,.int .i64 nn1,.int .i64 pr1,.int .i64 ek1,.int .i64 ef1,.bool eg1,ea1,ec1,.string em1,es1,.slice pq1 pn1 pc1,.string en1,.int .i64 ve1,.slice aq1 bn1 ac1,.slice kq1 kn1 kc1],.agg #[.int .i64 ru2,.string nm2,.string ot2,.bool g2,a2,c2,.int .i64 kk2,.int .i64 nn2,.int .i64 pr2,.int .i64 ek2,.int .i64 ef2,.bool eg2,ea2,ec2,.string em2,es2,.slice pq2 pn2 pc2,.string en2,.int .i64 ve2,.slice aq2 bn2 ac2,.slice kq2 kn2 kc2]] w
   fun e w'=>e=.returned (.bool false)/\Below w.heap.size w w':=by
 have h2:∀o o2,Below w.heap.size w ((w.alloc o).alloc o2):=fun o o2=>below_two w o o2
 by_cases k1:pn1=pn2
 ·subst k1
  by_cases k2:bn1=bn2
  ·subst k2
   have k3:¬(kn1:Int)=(kn2:Int):=fun k3=>h ⟨rfl,rfl,by omega⟩
   clear h
   go_enter Tryz.func79,Tryz.ntmps79
   go_wp2_with fail
   go_ret
   exact⟨rfl,h2 _ _⟩
  ·have k3:¬(bn1:Int)=(bn2:Int):=by omega
   clear h
   go_enter Tryz.func79,Tryz.ntmps79
   go_wp2_with fail
   go_ret
   exact⟨rfl,h2 _ _⟩
 ·have k3:¬(pn1:Int)=(pn2:Int):=by omega
  clear h
  go_enter Tryz.func79,Tryz.ntmps79
  go_wp2_with fail
  go_ret
  exact⟨rfl,h2 _ _⟩
def lisEq (pn:Nat) (ps:Nat->Pt) (bn:Nat) (bs:Nat->Bd) (n pn':Nat) (ps':Nat->Pt) (bn':Nat) (bs':Nat->Bd) (n':Nat):Bool:=
 PtsEq pn ps pn' ps'&&(BdsEq bn bs bn' bs'&&decide (n=n'))
theorem ptsAt {w:World} {q:Option Addr} {n:Nat} {ps:Nat->Pt} (h:PtsOk w q n ps):∃ds:Nat->Va,(n=0\/∃b o,q=some ⟨b,o,none⟩/\b<w.heap.size/\∀i,i<n->VaAt w b (o+i*4) (ds i))/\∀i,i<n->PtOk w (ps i) (ds i):=by
 rcases h.2 with h0 | ⟨b,o,rfl,hb,ds,hds⟩
 ·exact⟨fun _=>⟨⟨#[]⟩,false,none,0,0,none,0,0⟩,.inl h0,fun i hi=>by omega⟩
 ·exact⟨ds,.inr ⟨b,o,rfl,hb,fun i hi=>(hds i hi).1⟩,fun i hi=>(hds i hi).2⟩
theorem bdsAt {w:World} {q:Option Addr} {n:Nat} {ps:Nat->Bd} (h:BdsOk w q n ps):∃ds:Nat->Bi,(n=0\/∃b o,q=some ⟨b,o,none⟩/\b<w.heap.size/\∀i,i<n->BiAt w b (o+i*8) (ds i))/\∀i,i<n->BdOk w (ps i) (ds i):=by
 rcases h.2 with h0 | ⟨b,o,rfl,hb,ds,hds⟩
 ·exact⟨fun _=>⟨⟨#[]⟩,0,0,false,none,0,0,none,0,0,⟨#[]⟩,none,0,0⟩,.inl h0,fun i hi=>by omega⟩
 ·exact⟨ds,.inr ⟨b,o,rfl,hb,fun i hi=>(hds i hi).1⟩,fun i hi=>(hds i hi).2⟩
theorem all_range_congr {n:Nat} {f g:Nat->Bool} (h:∀i,i<n->f i=g i):(List.range n).all f=(List.range n).all g:=by
 rw[Bool.eq_iff_iff,List.all_eq_true,List.all_eq_true]
 exact⟨fun k i hi=>(h i (List.mem_range.1 hi)) ▸ k i hi,fun k i hi=>(h i (List.mem_range.1 hi)).symm ▸ k i hi⟩
theorem lists_ok {w:World} {d e:Sd} {ps ps':Nat->Pt} {bs bs':Nat->Bd} (h1:PtsOk w d.poq d.pon ps) (h2:PtsOk w e.poq e.pon ps') (h3:BdsOk w d.arq d.arn bs) (h4:BdsOk w e.arq e.arn bs') (b5:d.kin<=1099511627776) (b6:e.kin<=1099511627776):
  Calls Tryz.prog 79 #[d.val,e.val] w fun r w'=>r=.returned (.bool (lisEq d.pon ps d.arn bs d.kin e.pon ps' e.arn bs' e.kin))/\Below w.heap.size w w':=by
 by_cases h:d.pon=e.pon/\d.arn=e.arn/\d.kin=e.kin
 ·obtain⟨k1,k2,k3⟩:=h
  rw[<-k1] at h2
  rw[<-k2] at h4
  obtain⟨xs,x1,x2⟩:=ptsAt h1
  obtain⟨ys,y1,y2⟩:=ptsAt h2
  obtain⟨xb,x3,x4⟩:=bdsAt h3
  obtain⟨yb,y3,y4⟩:=bdsAt h4
  unfold lisEq PtsEq BdsEq Sd.val Sd.cells
  rw[<-k1,<-k2,<-k3]
  simp only[decide_true,Bool.true_and,Bool.and_true]
  rw[all_range_congr (n:=d.pon) (f:=fun i=>(ps i).eq (ps' i)) (g:=fun i=>decide ((xs i).m.toList=(ys i).m.toList)&&ratEq (ps i).g (ps i).nu (ps i).de (ps' i).g (ps' i).nu (ps' i).de) (fun i hi=>by rw[(x2 i hi).1,(y2 i hi).1];rfl),
   all_range_congr (n:=d.arn) (f:=fun i=>(bs i).eq (bs' i)) (g:=fun i=>decide ((xb i).m.toList=(yb i).m.toList)&&(bs i).x.eq (bs' i).x) (fun i hi=>by rw[(x4 i hi).1,(y4 i hi).1];rfl)]
  refine lists_walk xs ys xb yb _ _ h1.1 h3.1 b5 x1 y1 x3 y3 (fun i hi w1 hw=>?_) (fun i hi w1 hw=>?_)
  ·obtain⟨p1,p2,p3,p4,p5,p6⟩:=x2 i hi
   obtain⟨q1,q2,q3,q4,q5,q6⟩:=y2 i hi
   rw[<-p2,<-q2]
   exact refEqual_ok (p3.below hw) (p4.below hw) (q3.below hw) (q4.below hw) p5 q5 p6 q6
  ·exact alike_ok _ _ (xb i).nd (yb i).nd w1 ((x4 i hi).2.below hw) ((y4 i hi).2.below hw)
 ·have hf:lisEq d.pon ps d.arn bs d.kin e.pon ps' e.arn bs' e.kin=false:=by
   unfold lisEq PtsEq BdsEq
   rw[Bool.eq_false_iff]
   intro hh
   simp only[Bool.and_eq_true,decide_eq_true_eq] at hh
   exact h ⟨hh.1.1,hh.2.1.1,hh.2.2⟩
  rw[hf]
  exact lists_false h1.1 h2.1 h3.1 h4.1 b5 b6 h
end Go.Proofs.YtfhjhnofkaiceaaGreatDoor
namespace Go.Proofs.YtfhjhnofkaiceaaGreatDoor
open Go Go.RowKit
theorem wpList_load_mid_g {P:Program} {ops:Array Oper} {rest:List Oper} {op:Oper} {a:Act} {w:World} {Q:Exit->Act->World->Prop} (hg:Region.wanted op (yielded ops a.tmps)=true) (ty:TypeId) (x:Operand) (ho:op.op=.load ty x)
  (b o:Nat) (hx:a.eval x=.pointer (some ⟨b,o,none⟩)) (cs:List Value) (d:TypeDesc) (hc:w.rangeAt b o cs)
  (hu:P.underlying ty=some d) (hd:d.isRow=true) (hi:(P.info? ty).map (·.size)=some cs.length)
  (h:wpList P ops Q rest (a.put op.dst (.agg cs.toArray)) w):wpList P ops Q (op::rest) a w:=
 BigFrame.wpList_want hg fun _ hK=>wp_load_mid ty x ho b o hx cs d hc hu hd hi (hK _ _ h)
theorem range_two (w:World) (ob:Obj) (cs:List Value) (t:TypeId):((w.alloc ob).alloc (.cells cs.toArray t)).rangeAt (w.heap.size+1) 0 cs:=by
 have h:=range_new (w.alloc ob) cs t
 rw[show (w.alloc ob).heap.size=w.heap.size+1 by simp] at h
 exact h
set_option maxRecDepth 100000 in
theorem req_first {w:World} {ru1 ru2 kk1 kk2 nn1 nn2 pr1 pr2 ve1 ve2 ek1 ek2 ef1 ef2:Int} {nm1 nm2 ot1 ot2 en1 en2 em1 em2:ByteArray} {g1 g2 eg1 eg2:Bool} {a1 a2 c1 c2 ea1 ea2 ec1 ec2 es1 es2 po1 po2 ar1 ar2:Value} {ki1 ki2:Value} (h:¬(ru1=ru2/\nm1.toList=nm2.toList/\ot1.toList=ot2.toList/\kk1=kk2/\nn1=nn2/\pr1=pr2)):
  Calls Tryz.prog 60 #[.agg #[.int .i64 ru1,.string nm1,.string ot1,.bool g1,a1,c1,.int .i64 kk1,.int .i64 nn1,.int .i64 pr1,.int .i64 ek1,.int .i64 ef1,.bool eg1,ea1,ec1,.string em1,es1,po1,.string en1,.int .i64 ve1,ar1,ki1],.agg #[.int .i64 ru2,.string nm2,.string ot2,.bool g2,a2,c2,.int .i64 kk2,.int .i64 nn2,.int .i64 pr2,.int .i64 ek2,.int .i64 ef2,.bool eg2,ea2,ec2,.string em2,es2,po2,.string en2,.int .i64 ve2,ar2,ki2]] w fun e w'=>e=.returned (.bool false)/\Below w.heap.size w w':=by
 have h2:∀o o2,Below w.heap.size w ((w.alloc o).alloc o2):=fun o o2=>below_two w o o2
 by_cases q0:ru1=ru2
 ·by_cases q1:nm1.toList=nm2.toList
  ·by_cases q2:ot1.toList=ot2.toList
   ·by_cases q3:kk1=kk2
    ·by_cases q4:nn1=nn2
     ·have q5:¬pr1=pr2:=fun q5=>h ⟨q0,q1,q2,q3,q4,q5⟩
      clear h
      subst q0
      subst q3
      subst q4
      go_enter Tryz.func60,Tryz.ntmps60
      go_wp2_with fail
      go_ret
      exact⟨rfl,h2 _ _⟩
     ·clear h
      subst q0
      subst q3
      go_enter Tryz.func60,Tryz.ntmps60
      go_wp2_with fail
      go_ret
      exact⟨rfl,h2 _ _⟩
    ·clear h
     subst q0
     go_enter Tryz.func60,Tryz.ntmps60
     go_wp2_with fail
     go_ret
     exact⟨rfl,h2 _ _⟩
   ·clear h
    subst q0
    go_enter Tryz.func60,Tryz.ntmps60
    go_wp2_with fail
    go_ret
    exact⟨rfl,h2 _ _⟩
  ·clear h
   subst q0
   go_enter Tryz.func60,Tryz.ntmps60
   go_wp2_with fail
   go_ret
   exact⟨rfl,h2 _ _⟩
 ·clear h
  go_enter Tryz.func60,Tryz.ntmps60
  go_wp2_with fail
  go_ret
  exact⟨rfl,h2 _ _⟩
set_option maxRecDepth 100000 in
theorem req_mid {w:World} {ru1 ru2 kk1 kk2 nn1 nn2 pr1 pr2 ve1 ve2 ek1 ek2 ef1 ef2:Int} {nm1 nm2 ot1 ot2 en1 en2 em1 em2:ByteArray} {g1 g2 eg1 eg2:Bool} {a1 a2 c1 c2 ea1 ea2 ec1 ec2 es1 es2 po1 po2 ar1 ar2:Value} {ki1 ki2:Value} (e1:ru1=ru2) (e2:nm1.toList=nm2.toList) (e3:ot1.toList=ot2.toList) (e4:kk1=kk2) (e5:nn1=nn2) (e6:pr1=pr2) (h:¬(en1.toList=en2.toList/\ve1=ve2)):
  Calls Tryz.prog 60 #[.agg #[.int .i64 ru1,.string nm1,.string ot1,.bool g1,a1,c1,.int .i64 kk1,.int .i64 nn1,.int .i64 pr1,.int .i64 ek1,.int .i64 ef1,.bool eg1,ea1,ec1,.string em1,es1,po1,.string en1,.int .i64 ve1,ar1,ki1],.agg #[.int .i64 ru2,.string nm2,.string ot2,.bool g2,a2,c2,.int .i64 kk2,.int .i64 nn2,.int .i64 pr2,.int .i64 ek2,.int .i64 ef2,.bool eg2,ea2,ec2,.string em2,es2,po2,.string en2,.int .i64 ve2,ar2,ki2]] w fun e w'=>e=.returned (.bool false)/\Below w.heap.size w w':=by
 have h2:∀o o2,Below w.heap.size w ((w.alloc o).alloc o2):=fun o o2=>below_two w o o2
 subst e1 e4 e5 e6
 by_cases q0:en1.toList=en2.toList
 ·have q1:¬ve1=ve2:=fun q1=>h ⟨q0,q1⟩
  clear h
  go_enter Tryz.func60,Tryz.ntmps60
  go_wp2_with fail
  go_ret
  exact⟨rfl,h2 _ _⟩
 ·clear h
  go_enter Tryz.func60,Tryz.ntmps60
  go_wp2_with fail
  go_ret
  exact⟨rfl,h2 _ _⟩
set_option maxRecDepth 100000 in
theorem req_R {w:World} {ru1 ru2 kk1 kk2 nn1 nn2 pr1 pr2 ve1 ve2 ek1 ek2 ef1 ef2:Int} {nm1 nm2 ot1 ot2 en1 en2 em1 em2:ByteArray} {g1 g2 eg1 eg2:Bool} {a1 a2 c1 c2 ea1 ea2 ec1 ec2 es1 es2 po1 po2 ar1 ar2:Value} {ki1 ki2:Value} (e1:ru1=ru2) (e2:nm1.toList=nm2.toList) (e3:ot1.toList=ot2.toList) (e4:kk1=kk2) (e5:nn1=nn2) (e6:pr1=pr2) (e7:en1.toList=en2.toList) (e8:ve1=ve2)
  (hR:∀w1,Below w.heap.size w w1->Calls Tryz.prog 78 #[.agg #[.bool g1,a1,c1],.agg #[.bool g2,a2,c2]] w1 fun e w'=>e=.returned (.bool false)/\Below w1.heap.size w1 w')
  :
  Calls Tryz.prog 60 #[.agg #[.int .i64 ru1,.string nm1,.string ot1,.bool g1,a1,c1,.int .i64 kk1,.int .i64 nn1,.int .i64 pr1,.int .i64 ek1,.int .i64 ef1,.bool eg1,ea1,ec1,.string em1,es1,po1,.string en1,.int .i64 ve1,ar1,ki1],.agg #[.int .i64 ru2,.string nm2,.string ot2,.bool g2,a2,c2,.int .i64 kk2,.int .i64 nn2,.int .i64 pr2,.int .i64 ek2,.int .i64 ef2,.bool eg2,ea2,ec2,.string em2,es2,po2,.string en2,.int .i64 ve2,ar2,ki2]] w fun e w'=>e=.returned (.bool false)/\Below w.heap.size w w':=by
 have h2:∀o o2,Below w.heap.size w ((w.alloc o).alloc o2):=fun o o2=>below_two w o o2
 subst e1 e4 e5 e6 e8
 go_enter Tryz.func60,Tryz.ntmps60
 go_wp2_with (first
  | (go_at_call 78;refine(hR _ ?_).mono ?_;exact h2 _ _;rintro e w1 ⟨rfl,hb1⟩
     have hs1:w.heap.size+2<=w1.heap.size:=by have:=hb1.size;simpa using this
     have hW1:=(h2 _ _).trans (hb1.mono (h2 _ _).size)))
 go_ret
 exact⟨rfl,hW1⟩
set_option maxRecDepth 100000 in
theorem req_X {w:World} {ru1 ru2 kk1 kk2 nn1 nn2 pr1 pr2 ve1 ve2 ek1 ek2 ef1 ef2:Int} {nm1 nm2 ot1 ot2 en1 en2 em1 em2:ByteArray} {g1 g2 eg1 eg2:Bool} {a1 a2 c1 c2 ea1 ea2 ec1 ec2 es1 es2 po1 po2 ar1 ar2:Value} {ki1 ki2:Value} (e1:ru1=ru2) (e2:nm1.toList=nm2.toList) (e3:ot1.toList=ot2.toList) (e4:kk1=kk2) (e5:nn1=nn2) (e6:pr1=pr2) (e7:en1.toList=en2.toList) (e8:ve1=ve2)
  (hR:∀w1,Below w.heap.size w w1->Calls Tryz.prog 78 #[.agg #[.bool g1,a1,c1],.agg #[.bool g2,a2,c2]] w1 fun e w'=>e=.returned (.bool true)/\Below w1.heap.size w1 w')
  (hX:∀w1,Below w.heap.size w w1->Calls Tryz.prog 76 #[.agg #[.int .i64 ek1,.int .i64 ef1,.bool eg1,ea1,ec1,.string em1,es1],.agg #[.int .i64 ek2,.int .i64 ef2,.bool eg2,ea2,ec2,.string em2,es2]] w1 fun e w'=>e=.returned (.bool false)/\Below w1.heap.size w1 w')
  :
  Calls Tryz.prog 60 #[.agg #[.int .i64 ru1,.string nm1,.string ot1,.bool g1,a1,c1,.int .i64 kk1,.int .i64 nn1,.int .i64 pr1,.int .i64 ek1,.int .i64 ef1,.bool eg1,ea1,ec1,.string em1,es1,po1,.string en1,.int .i64 ve1,ar1,ki1],.agg #[.int .i64 ru2,.string nm2,.string ot2,.bool g2,a2,c2,.int .i64 kk2,.int .i64 nn2,.int .i64 pr2,.int .i64 ek2,.int .i64 ef2,.bool eg2,ea2,ec2,.string em2,es2,po2,.string en2,.int .i64 ve2,ar2,ki2]] w fun e w'=>e=.returned (.bool false)/\Below w.heap.size w w':=by
 have h2:∀o o2,Below w.heap.size w ((w.alloc o).alloc o2):=fun o o2=>below_two w o o2
 subst e1 e4 e5 e6 e8
 go_enter Tryz.func60,Tryz.ntmps60
 go_wp2_with (first
  | (go_at_call 78;refine(hR _ ?_).mono ?_;exact h2 _ _;rintro e w1 ⟨rfl,hb1⟩
     have hs1:w.heap.size+2<=w1.heap.size:=by have:=hb1.size;simpa using this
     have hW1:=(h2 _ _).trans (hb1.mono (h2 _ _).size)
     have p9:w1.cell? ⟨w.heap.size,9,none⟩=some (.int .i64 ek1):=(hb1.cell (by show w.heap.size<_;simp;omega)).trans (by simp)
     have r9:w1.cell? ⟨w.heap.size+1,9,none⟩=some (.int .i64 ek2):=(hb1.cell (by show w.heap.size+1<_;simp)).trans (by simp)
     have p10:w1.cell? ⟨w.heap.size,10,none⟩=some (.int .i64 ef1):=(hb1.cell (by show w.heap.size<_;simp;omega)).trans (by simp)
     have r10:w1.cell? ⟨w.heap.size+1,10,none⟩=some (.int .i64 ef2):=(hb1.cell (by show w.heap.size+1<_;simp)).trans (by simp)
     have p11:w1.cell? ⟨w.heap.size,11,none⟩=some (.bool eg1):=(hb1.cell (by show w.heap.size<_;simp;omega)).trans (by simp)
     have r11:w1.cell? ⟨w.heap.size+1,11,none⟩=some (.bool eg2):=(hb1.cell (by show w.heap.size+1<_;simp)).trans (by simp)
     have p12:w1.cell? ⟨w.heap.size,12,none⟩=some (ea1):=(hb1.cell (by show w.heap.size<_;simp;omega)).trans (by simp)
     have r12:w1.cell? ⟨w.heap.size+1,12,none⟩=some (ea2):=(hb1.cell (by show w.heap.size+1<_;simp)).trans (by simp)
     have p13:w1.cell? ⟨w.heap.size,13,none⟩=some (ec1):=(hb1.cell (by show w.heap.size<_;simp;omega)).trans (by simp)
     have r13:w1.cell? ⟨w.heap.size+1,13,none⟩=some (ec2):=(hb1.cell (by show w.heap.size+1<_;simp)).trans (by simp)
     have p14:w1.cell? ⟨w.heap.size,14,none⟩=some (.string em1):=(hb1.cell (by show w.heap.size<_;simp;omega)).trans (by simp)
     have r14:w1.cell? ⟨w.heap.size+1,14,none⟩=some (.string em2):=(hb1.cell (by show w.heap.size+1<_;simp)).trans (by simp)
     have p15:w1.cell? ⟨w.heap.size,15,none⟩=some (es1):=(hb1.cell (by show w.heap.size<_;simp;omega)).trans (by simp)
     have r15:w1.cell? ⟨w.heap.size+1,15,none⟩=some (es2):=(hb1.cell (by show w.heap.size+1<_;simp)).trans (by simp)
     have z1:Hid (w1.rangeAt w.heap.size 0 [.int .i64 ru1,.string nm1,.string ot1,.bool g1,a1,c1,.int .i64 kk1,.int .i64 nn1,.int .i64 pr1,.int .i64 ek1,.int .i64 ef1,.bool eg1,ea1,ec1,.string em1,es1,po1,.string en1,.int .i64 ve1,ar1,ki1]):=rangeAt_below (World.rangeAt_alloc (range_new w _ 53) _) hb1 (by simp;omega)
     have z2:Hid (w1.rangeAt (w.heap.size+1) 0 [.int .i64 ru1,.string nm2,.string ot2,.bool g2,a2,c2,.int .i64 kk1,.int .i64 nn1,.int .i64 pr1,.int .i64 ek2,.int .i64 ef2,.bool eg2,ea2,ec2,.string em2,es2,po2,.string en2,.int .i64 ve1,ar2,ki2]):=rangeAt_below (range_two w _ _ 53) hb1 (by simp))
  | (go_at_call 76;refine(hX _ ?_).mono ?_;exact hW1;rintro e w2 ⟨rfl,hb2⟩
     have hs2:w.heap.size+2<=w2.heap.size:=by have:=hb2.size;omega
     have hW2:=hW1.trans (hb2.mono hW1.size)
     have y1:=rangeAt_below z1.out hb2 (by omega)
     have y2:=rangeAt_below z2.out hb2 (by omega)
     have Y1:Hid _:=y1
     have Y2:Hid _:=y2
     clear y1 y2))
 go_ret
 exact⟨rfl,hW2⟩
set_option maxRecDepth 100000 in
theorem req_L {w:World} {ru1 ru2 kk1 kk2 nn1 nn2 pr1 pr2 ve1 ve2 ek1 ek2 ef1 ef2:Int} {nm1 nm2 ot1 ot2 en1 en2 em1 em2:ByteArray} {g1 g2 eg1 eg2:Bool} {a1 a2 c1 c2 ea1 ea2 ec1 ec2 es1 es2 po1 po2 ar1 ar2:Value} {ki1 ki2:Value} (e1:ru1=ru2) (e2:nm1.toList=nm2.toList) (e3:ot1.toList=ot2.toList) (e4:kk1=kk2) (e5:nn1=nn2) (e6:pr1=pr2) (e7:en1.toList=en2.toList) (e8:ve1=ve2)
  (hR:∀w1,Below w.heap.size w w1->Calls Tryz.prog 78 #[.agg #[.bool g1,a1,c1],.agg #[.bool g2,a2,c2]] w1 fun e w'=>e=.returned (.bool true)/\Below w1.heap.size w1 w')
  (hX:∀w1,Below w.heap.size w w1->Calls Tryz.prog 76 #[.agg #[.int .i64 ek1,.int .i64 ef1,.bool eg1,ea1,ec1,.string em1,es1],.agg #[.int .i64 ek2,.int .i64 ef2,.bool eg2,ea2,ec2,.string em2,es2]] w1 fun e w'=>e=.returned (.bool true)/\Below w1.heap.size w1 w')
  (hL:∀w1,Below w.heap.size w w1->Calls Tryz.prog 79 #[.agg #[.int .i64 ru1,.string nm1,.string ot1,.bool g1,a1,c1,.int .i64 kk1,.int .i64 nn1,.int .i64 pr1,.int .i64 ek1,.int .i64 ef1,.bool eg1,ea1,ec1,.string em1,es1,po1,.string en1,.int .i64 ve1,ar1,ki1],.agg #[.int .i64 ru2,.string nm2,.string ot2,.bool g2,a2,c2,.int .i64 kk2,.int .i64 nn2,.int .i64 pr2,.int .i64 ek2,.int .i64 ef2,.bool eg2,ea2,ec2,.string em2,es2,po2,.string en2,.int .i64 ve2,ar2,ki2]] w1 fun e w'=>e=.returned (.bool false)/\Below w1.heap.size w1 w')
  :
  Calls Tryz.prog 60 #[.agg #[.int .i64 ru1,.string nm1,.string ot1,.bool g1,a1,c1,.int .i64 kk1,.int .i64 nn1,.int .i64 pr1,.int .i64 ek1,.int .i64 ef1,.bool eg1,ea1,ec1,.string em1,es1,po1,.string en1,.int .i64 ve1,ar1,ki1],.agg #[.int .i64 ru2,.string nm2,.string ot2,.bool g2,a2,c2,.int .i64 kk2,.int .i64 nn2,.int .i64 pr2,.int .i64 ek2,.int .i64 ef2,.bool eg2,ea2,ec2,.string em2,es2,po2,.string en2,.int .i64 ve2,ar2,ki2]] w fun e w'=>e=.returned (.bool false)/\Below w.heap.size w w':=by
 have h2:∀o o2,Below w.heap.size w ((w.alloc o).alloc o2):=fun o o2=>below_two w o o2
 subst e1 e4 e5 e6 e8
 obtain⟨d,hu,hd⟩:=st_row
 have hHu:Hid (Tryz.prog.underlying 53=some d):=hu
 clear hu
 go_enter Tryz.func60,Tryz.ntmps60
 go_wp2_with (first
  | (go_at_call 78;refine(hR _ ?_).mono ?_;exact h2 _ _;rintro e w1 ⟨rfl,hb1⟩
     have hs1:w.heap.size+2<=w1.heap.size:=by have:=hb1.size;simpa using this
     have hW1:=(h2 _ _).trans (hb1.mono (h2 _ _).size)
     have p9:w1.cell? ⟨w.heap.size,9,none⟩=some (.int .i64 ek1):=(hb1.cell (by show w.heap.size<_;simp;omega)).trans (by simp)
     have r9:w1.cell? ⟨w.heap.size+1,9,none⟩=some (.int .i64 ek2):=(hb1.cell (by show w.heap.size+1<_;simp)).trans (by simp)
     have p10:w1.cell? ⟨w.heap.size,10,none⟩=some (.int .i64 ef1):=(hb1.cell (by show w.heap.size<_;simp;omega)).trans (by simp)
     have r10:w1.cell? ⟨w.heap.size+1,10,none⟩=some (.int .i64 ef2):=(hb1.cell (by show w.heap.size+1<_;simp)).trans (by simp)
     have p11:w1.cell? ⟨w.heap.size,11,none⟩=some (.bool eg1):=(hb1.cell (by show w.heap.size<_;simp;omega)).trans (by simp)
     have r11:w1.cell? ⟨w.heap.size+1,11,none⟩=some (.bool eg2):=(hb1.cell (by show w.heap.size+1<_;simp)).trans (by simp)
     have p12:w1.cell? ⟨w.heap.size,12,none⟩=some (ea1):=(hb1.cell (by show w.heap.size<_;simp;omega)).trans (by simp)
     have r12:w1.cell? ⟨w.heap.size+1,12,none⟩=some (ea2):=(hb1.cell (by show w.heap.size+1<_;simp)).trans (by simp)
     have p13:w1.cell? ⟨w.heap.size,13,none⟩=some (ec1):=(hb1.cell (by show w.heap.size<_;simp;omega)).trans (by simp)
     have r13:w1.cell? ⟨w.heap.size+1,13,none⟩=some (ec2):=(hb1.cell (by show w.heap.size+1<_;simp)).trans (by simp)
     have p14:w1.cell? ⟨w.heap.size,14,none⟩=some (.string em1):=(hb1.cell (by show w.heap.size<_;simp;omega)).trans (by simp)
     have r14:w1.cell? ⟨w.heap.size+1,14,none⟩=some (.string em2):=(hb1.cell (by show w.heap.size+1<_;simp)).trans (by simp)
     have p15:w1.cell? ⟨w.heap.size,15,none⟩=some (es1):=(hb1.cell (by show w.heap.size<_;simp;omega)).trans (by simp)
     have r15:w1.cell? ⟨w.heap.size+1,15,none⟩=some (es2):=(hb1.cell (by show w.heap.size+1<_;simp)).trans (by simp)
     have z1:Hid (w1.rangeAt w.heap.size 0 [.int .i64 ru1,.string nm1,.string ot1,.bool g1,a1,c1,.int .i64 kk1,.int .i64 nn1,.int .i64 pr1,.int .i64 ek1,.int .i64 ef1,.bool eg1,ea1,ec1,.string em1,es1,po1,.string en1,.int .i64 ve1,ar1,ki1]):=rangeAt_below (World.rangeAt_alloc (range_new w _ 53) _) hb1 (by simp;omega)
     have z2:Hid (w1.rangeAt (w.heap.size+1) 0 [.int .i64 ru1,.string nm2,.string ot2,.bool g2,a2,c2,.int .i64 kk1,.int .i64 nn1,.int .i64 pr1,.int .i64 ek2,.int .i64 ef2,.bool eg2,ea2,ec2,.string em2,es2,po2,.string en2,.int .i64 ve1,ar2,ki2]):=rangeAt_below (range_two w _ _ 53) hb1 (by simp))
  | (go_at_call 76;refine(hX _ ?_).mono ?_;exact hW1;rintro e w2 ⟨rfl,hb2⟩
     have hs2:w.heap.size+2<=w2.heap.size:=by have:=hb2.size;omega
     have hW2:=hW1.trans (hb2.mono hW1.size)
     have y1:=rangeAt_below z1.out hb2 (by omega)
     have y2:=rangeAt_below z2.out hb2 (by omega)
     have Y1:Hid _:=y1
     have Y2:Hid _:=y2
     clear y1 y2)
  | (with_reducible refine wpList_load_mid_g ?hg1 53 (.tmp 2) ?ho1 (w.heap.size) 0 ?hx1 [.int .i64 ru1,.string nm1,.string ot1,.bool g1,a1,c1,.int .i64 kk1,.int .i64 nn1,.int .i64 pr1,.int .i64 ek1,.int .i64 ef1,.bool eg1,ea1,ec1,.string em1,es1,po1,.string en1,.int .i64 ve1,ar1,ki1] d ?hc1 ?hu1 ?hd1 ?hi1 ?_
     case ho1=>with_reducible rfl
     case hg1=>rfl
     case hx1=>rfl
     case hc1=>exact Y1.out
     case hu1=>exact hHu.out
     case hd1=>exact hd
     case hi1=>exact st_size)
  | (with_reducible refine wpList_load_mid_g ?hg2 53 (.tmp 3) ?ho2 (w.heap.size+1) 0 ?hx2 [.int .i64 ru1,.string nm2,.string ot2,.bool g2,a2,c2,.int .i64 kk1,.int .i64 nn1,.int .i64 pr1,.int .i64 ek2,.int .i64 ef2,.bool eg2,ea2,ec2,.string em2,es2,po2,.string en2,.int .i64 ve1,ar2,ki2] d ?hc2 ?hu2 ?hd2 ?hi2 ?_
     case ho2=>with_reducible rfl
     case hg2=>rfl
     case hx2=>rfl
     case hc2=>exact Y2.out
     case hu2=>exact hHu.out
     case hd2=>exact hd
     case hi2=>exact st_size)
  | (go_at_call 79;refine(hL _ ?_).mono ?_;exact hW2;rintro e w3 ⟨rfl,hb3⟩
     have hs3:w.heap.size+2<=w3.heap.size:=by have:=hb3.size;omega
     have hW3:=hW2.trans (hb3.mono hW2.size)))
 go_ret
 exact⟨rfl,hW3⟩
end Go.Proofs.YtfhjhnofkaiceaaGreatDoor
namespace Go.Proofs.YtfhjhnofkaiceaaGreatDoor
open Go Go.RowKit
set_option maxRecDepth 100000 in
set_option maxHeartbeats 4000000 in
theorem req_kids {w:World} {ru1 ru2 kk1 kk2 nn1 nn2 pr1 pr2 ve1 ve2 ek1 ek2 ef1 ef2:Int} {nm1 nm2 ot1 ot2 en1 en2 em1 em2:ByteArray} {g1 g2 eg1 eg2:Bool} {a1 a2 c1 c2 ea1 ea2 ec1 ec2 es1 es2 po1 po2 ar1 ar2:Value} {kq1 kq2:Option Addr} {kn kc1 kc2:Nat} (ds es:Nat->Sd) (P:Nat->Bool) (hkn:kn<=1099511627776) (e1:ru1=ru2) (e2:nm1.toList=nm2.toList) (e3:ot1.toList=ot2.toList) (e4:kk1=kk2) (e5:nn1=nn2) (e6:pr1=pr2) (e7:en1.toList=en2.toList) (e8:ve1=ve2)
  (hR:∀w1,Below w.heap.size w w1->Calls Tryz.prog 78 #[.agg #[.bool g1,a1,c1],.agg #[.bool g2,a2,c2]] w1 fun e w'=>e=.returned (.bool true)/\Below w1.heap.size w1 w')
  (hX:∀w1,Below w.heap.size w w1->Calls Tryz.prog 76 #[.agg #[.int .i64 ek1,.int .i64 ef1,.bool eg1,ea1,ec1,.string em1,es1],.agg #[.int .i64 ek2,.int .i64 ef2,.bool eg2,ea2,ec2,.string em2,es2]] w1 fun e w'=>e=.returned (.bool true)/\Below w1.heap.size w1 w')
  (hL:∀w1,Below w.heap.size w w1->Calls Tryz.prog 79 #[.agg #[.int .i64 ru1,.string nm1,.string ot1,.bool g1,a1,c1,.int .i64 kk1,.int .i64 nn1,.int .i64 pr1,.int .i64 ek1,.int .i64 ef1,.bool eg1,ea1,ec1,.string em1,es1,po1,.string en1,.int .i64 ve1,ar1,.slice kq1 kn kc1],.agg #[.int .i64 ru2,.string nm2,.string ot2,.bool g2,a2,c2,.int .i64 kk2,.int .i64 nn2,.int .i64 pr2,.int .i64 ek2,.int .i64 ef2,.bool eg2,ea2,ec2,.string em2,es2,po2,.string en2,.int .i64 ve2,ar2,.slice kq2 kn kc2]] w1 fun e w'=>e=.returned (.bool true)/\Below w1.heap.size w1 w')
  (hk1:kn=0\/∃b o,kq1=some ⟨b,o,none⟩/\b<w.heap.size/\∀i,i<kn->w.rangeAt b (o+i*21) (ds i).cells)
  (hk2:kn=0\/∃b o,kq2=some ⟨b,o,none⟩/\b<w.heap.size/\∀i,i<kn->w.rangeAt b (o+i*21) (es i).cells)
  (hP:∀i,i<kn->∀w1,Below w.heap.size w w1->Calls Tryz.prog 60 #[(ds i).val,(es i).val] w1 fun e w'=>e=.returned (.bool (P i))/\Below w1.heap.size w1 w'):
  Calls Tryz.prog 60 #[.agg #[.int .i64 ru1,.string nm1,.string ot1,.bool g1,a1,c1,.int .i64 kk1,.int .i64 nn1,.int .i64 pr1,.int .i64 ek1,.int .i64 ef1,.bool eg1,ea1,ec1,.string em1,es1,po1,.string en1,.int .i64 ve1,ar1,.slice kq1 kn kc1],.agg #[.int .i64 ru2,.string nm2,.string ot2,.bool g2,a2,c2,.int .i64 kk2,.int .i64 nn2,.int .i64 pr2,.int .i64 ek2,.int .i64 ef2,.bool eg2,ea2,ec2,.string em2,es2,po2,.string en2,.int .i64 ve2,ar2,.slice kq2 kn kc2]] w fun e w'=>e=.returned (.bool ((List.range kn).all P))/\Below w.heap.size w w':=by
 have h2:∀o o2,Below w.heap.size w ((w.alloc o).alloc o2):=fun o o2=>below_two w o o2
 subst e1 e4 e5 e6 e8
 obtain⟨d,hu,hd⟩:=st_row
 have hHu:Hid (Tryz.prog.underlying 53=some d):=hu
 clear hu
 have G1:Hid (kn=0\/∃b o,kq1=some ⟨b,o,none⟩/\b<w.heap.size/\∀i,i<kn->w.rangeAt b (o+i*21) (ds i).cells):=hk1
 have G2:Hid (kn=0\/∃b o,kq2=some ⟨b,o,none⟩/\b<w.heap.size/\∀i,i<kn->w.rangeAt b (o+i*21) (es i).cells):=hk2
 clear hk1 hk2
 go_enter Tryz.func60,Tryz.ntmps60
 go_wp2_with (first
  | (go_at_call 78;refine(hR _ ?_).mono ?_;exact h2 _ _;rintro e w1 ⟨rfl,hb1⟩
     have hs1:w.heap.size+2<=w1.heap.size:=by have:=hb1.size;simpa using this
     have hW1:=(h2 _ _).trans (hb1.mono (h2 _ _).size)
     have p9:w1.cell? ⟨w.heap.size,9,none⟩=some (.int .i64 ek1):=(hb1.cell (by show w.heap.size<_;simp;omega)).trans (by simp)
     have r9:w1.cell? ⟨w.heap.size+1,9,none⟩=some (.int .i64 ek2):=(hb1.cell (by show w.heap.size+1<_;simp)).trans (by simp)
     have p10:w1.cell? ⟨w.heap.size,10,none⟩=some (.int .i64 ef1):=(hb1.cell (by show w.heap.size<_;simp;omega)).trans (by simp)
     have r10:w1.cell? ⟨w.heap.size+1,10,none⟩=some (.int .i64 ef2):=(hb1.cell (by show w.heap.size+1<_;simp)).trans (by simp)
     have p11:w1.cell? ⟨w.heap.size,11,none⟩=some (.bool eg1):=(hb1.cell (by show w.heap.size<_;simp;omega)).trans (by simp)
     have r11:w1.cell? ⟨w.heap.size+1,11,none⟩=some (.bool eg2):=(hb1.cell (by show w.heap.size+1<_;simp)).trans (by simp)
     have p12:w1.cell? ⟨w.heap.size,12,none⟩=some (ea1):=(hb1.cell (by show w.heap.size<_;simp;omega)).trans (by simp)
     have r12:w1.cell? ⟨w.heap.size+1,12,none⟩=some (ea2):=(hb1.cell (by show w.heap.size+1<_;simp)).trans (by simp)
     have p13:w1.cell? ⟨w.heap.size,13,none⟩=some (ec1):=(hb1.cell (by show w.heap.size<_;simp;omega)).trans (by simp)
     have r13:w1.cell? ⟨w.heap.size+1,13,none⟩=some (ec2):=(hb1.cell (by show w.heap.size+1<_;simp)).trans (by simp)
     have p14:w1.cell? ⟨w.heap.size,14,none⟩=some (.string em1):=(hb1.cell (by show w.heap.size<_;simp;omega)).trans (by simp)
     have r14:w1.cell? ⟨w.heap.size+1,14,none⟩=some (.string em2):=(hb1.cell (by show w.heap.size+1<_;simp)).trans (by simp)
     have p15:w1.cell? ⟨w.heap.size,15,none⟩=some (es1):=(hb1.cell (by show w.heap.size<_;simp;omega)).trans (by simp)
     have r15:w1.cell? ⟨w.heap.size+1,15,none⟩=some (es2):=(hb1.cell (by show w.heap.size+1<_;simp)).trans (by simp)
     have z1:Hid (w1.rangeAt w.heap.size 0 [.int .i64 ru1,.string nm1,.string ot1,.bool g1,a1,c1,.int .i64 kk1,.int .i64 nn1,.int .i64 pr1,.int .i64 ek1,.int .i64 ef1,.bool eg1,ea1,ec1,.string em1,es1,po1,.string en1,.int .i64 ve1,ar1,.slice kq1 kn kc1]):=rangeAt_below (World.rangeAt_alloc (range_new w _ 53) _) hb1 (by simp;omega)
     have z2:Hid (w1.rangeAt (w.heap.size+1) 0 [.int .i64 ru1,.string nm2,.string ot2,.bool g2,a2,c2,.int .i64 kk1,.int .i64 nn1,.int .i64 pr1,.int .i64 ek2,.int .i64 ef2,.bool eg2,ea2,ec2,.string em2,es2,po2,.string en2,.int .i64 ve1,ar2,.slice kq2 kn kc2]):=rangeAt_below (range_two w _ _ 53) hb1 (by simp))
  | (go_at_call 76;refine(hX _ ?_).mono ?_;exact hW1;rintro e w2 ⟨rfl,hb2⟩
     have hs2:w.heap.size+2<=w2.heap.size:=by have:=hb2.size;omega
     have hW2:=hW1.trans (hb2.mono hW1.size)
     have y1:=rangeAt_below z1.out hb2 (by omega)
     have y2:=rangeAt_below z2.out hb2 (by omega)
     have Y1:Hid _:=y1
     have Y2:Hid _:=y2
     clear y1 y2)
  | (with_reducible refine wpList_load_mid_g ?hg1 53 (.tmp 2) ?ho1 (w.heap.size) 0 ?hx1 [.int .i64 ru1,.string nm1,.string ot1,.bool g1,a1,c1,.int .i64 kk1,.int .i64 nn1,.int .i64 pr1,.int .i64 ek1,.int .i64 ef1,.bool eg1,ea1,ec1,.string em1,es1,po1,.string en1,.int .i64 ve1,ar1,.slice kq1 kn kc1] d ?hc1 ?hu1 ?hd1 ?hi1 ?_
     case ho1=>with_reducible rfl
     case hg1=>rfl
     case hx1=>rfl
     case hc1=>exact Y1.out
     case hu1=>exact hHu.out
     case hd1=>exact hd
     case hi1=>exact st_size)
  | (with_reducible refine wpList_load_mid_g ?hg2 53 (.tmp 3) ?ho2 (w.heap.size+1) 0 ?hx2 [.int .i64 ru1,.string nm2,.string ot2,.bool g2,a2,c2,.int .i64 kk1,.int .i64 nn1,.int .i64 pr1,.int .i64 ek2,.int .i64 ef2,.bool eg2,ea2,ec2,.string em2,es2,po2,.string en2,.int .i64 ve1,ar2,.slice kq2 kn kc2] d ?hc2 ?hu2 ?hd2 ?hi2 ?_
     case ho2=>with_reducible rfl
     case hg2=>rfl
     case hx2=>rfl
     case hc2=>exact Y2.out
     case hu2=>exact hHu.out
     case hd2=>exact hd
     case hi2=>exact st_size)
  | (go_at_call 79;refine(hL _ ?_).mono ?_;exact hW2;rintro e w3 ⟨rfl,hb3⟩
     have hs3:w.heap.size+2<=w3.heap.size:=by have:=hb3.size;omega
     have hW3:=hW2.trans (hb3.mono hW2.size)
     have s1:w3.cell? ⟨w.heap.size,20,none⟩=some (.slice kq1 kn kc1):=(hb3.cell (by show w.heap.size<_;omega)).trans (by have q:=Y1.out 20 _ rfl;simpa using q)
     have s2:w3.cell? ⟨w.heap.size+1,20,none⟩=some (.slice kq2 kn kc2):=(hb3.cell (by show w.heap.size+1<_;omega)).trans (by have q:=Y2.out 20 _ rfl;simpa using q)))
 clear hR hX hL p9 r9 p10 r10 p11 r11 p12 r12 p13 r13 p14 r14 p15 r15 z1 z2 Y1 Y2
 go_loopw [83] (fun i wr=>∃k:Nat,k<=kn/\i=.int .i64 k/\(∀j,j<k->P j=true)/\Below w3.heap.size w3 wr) (fun i _=>kn - (intOf i).toNat)
 case atStart=>exact⟨0,Nat.zero_le _,rfl,fun j hj=>by omega,Below.refl _ _⟩
 case round=>
  obtain⟨k,hk,rfl,hag,hbw⟩:=hrel
  have hHid:Hid (∀j,j<k->P j=true):=hag
  clear hag
  have hW:Below w.heap.size w wr:=hW3.trans (hbw.mono hW3.size)
  by_cases hlt:k<kn
  ·have hlt':(k:Int)<(kn:Int):=by omega
   rcases G1.out with h0 | ⟨b,o,rfl,hbb,hcx⟩
   ·omega
   rcases G2.out with h0 | ⟨b2,o2,rfl,hbb2,hcy⟩
   ·omega
   have hx:=rangeAt_below (hcx k hlt) hW hbb
   have hy:=rangeAt_below (hcy k hlt) hW hbb2
   have hPk:=hP k hlt
   simp only[Sd.val] at hPk
   have lx:=(ds k).len
   have ly:=(es k).len
   clear hcx hcy hP
   generalize (ds k).cells=cx at*
   generalize (es k).cells=cy at*
   have qr:=(hbw.cell (p:=⟨w.heap.size,20,none⟩) (by show w.heap.size<_;omega)).trans s1
   have rr:=(hbw.cell (p:=⟨w.heap.size+1,20,none⟩) (by show w.heap.size+1<_;omega)).trans s2
   have hws:=hbw.size
   clear s1 s2
   go_wp2_with fail
   refine wp_region_held_drew (S:=fun z=>z.cell? ⟨w.heap.size,20,none⟩=some (.slice (some ⟨b,o,none⟩) kn kc1)/\z.cell? ⟨w.heap.size+1,20,none⟩=some (.slice (some ⟨b2,o2,none⟩) kn kc2)/\z.rangeAt b (o+k*21) cx/\z.rangeAt b2 (o2+k*21) cy) (by kernel_rfl) ⟨qr,rr,hx,hy⟩ (fun hHeld=>?_)
   refine wpAnyH_take (i:=0) (v:=.pointer (some ⟨w.heap.size,20,none⟩)) rfl (by kernel_rfl) (by kernel_rfl) (by kernel_rfl) (fun _ _ _ h=>h) (.inl ⟨by rfl,fun z hSz=>by go_simp⟩) hHeld ?_
   simp only[Act.put]
   refine wpAnyH_take (i:=1) (v:=.slice (some ⟨b,o,none⟩) kn kc1) rfl (by kernel_rfl) (by kernel_rfl) (by kernel_rfl) (fun _ _ _ h=>h) (.inl ⟨by rfl,fun z hSz=>by go_simp⟩) hHeld ?_
   simp only[Act.put]
   refine wpAnyH_take (i:=2) (v:=.int .i64 k) rfl (by kernel_rfl) (by kernel_rfl) (by kernel_rfl) (fun _ _ _ h=>h) (.inl ⟨by rfl,fun z hSz=>by go_simp⟩) hHeld ?_
   simp only[Act.put]
   refine wpAnyH_take (i:=3) (v:=.pointer (some ⟨b,o+k*21,none⟩)) rfl (by kernel_rfl) (by kernel_rfl) (by kernel_rfl) (fun _ _ _ h=>h) (.inl ⟨by rfl,fun z hSz=>by go_simp⟩) hHeld ?_
   simp only[Act.put]
   refine wpAnyH_take (i:=4) (oi:=?op4) (v:=.agg cx.toArray) ?ta4 ?tb4 ?tc4 ?td4 ?tq4 ?ty4 hHeld ?_
   case ta4=>rfl
   case tb4=>kernel_rfl
   case tc4=>kernel_rfl
   case td4=>kernel_rfl
   case tq4=>exact fun _ _ _ h=>h
   case ty4=>
    refine yieldsIf_load_mid ?tw4 53 (.tmp 89) ?to4 b (o+k*21) ?tx4 cx d (fun z hz=>hz.2.2.1) hHu.out hd (by rw[lx];exact st_size)
    case tw4=>kernel_rfl
    case to4=>rfl
    case tx4=>kernel_rfl
   simp only[Act.put]
   refine wpAnyH_take (i:=5) (v:=.pointer (some ⟨w.heap.size+1,20,none⟩)) rfl (by kernel_rfl) (by kernel_rfl) (by kernel_rfl) (fun _ _ _ h=>h) (.inl ⟨by rfl,fun z hSz=>by go_simp⟩) hHeld ?_
   simp only[Act.put]
   refine wpAnyH_take (i:=6) (v:=.slice (some ⟨b2,o2,none⟩) kn kc2) rfl (by kernel_rfl) (by kernel_rfl) (by kernel_rfl) (fun _ _ _ h=>h) (.inl ⟨by rfl,fun z hSz=>by go_simp⟩) hHeld ?_
   simp only[Act.put]
   refine wpAnyH_take (i:=7) (v:=.int .i64 k) rfl (by kernel_rfl) (by kernel_rfl) (by kernel_rfl) (fun _ _ _ h=>h) (.inl ⟨by rfl,fun z hSz=>by go_simp⟩) hHeld ?_
   simp only[Act.put]
   refine wpAnyH_take (i:=8) (v:=.pointer (some ⟨b2,o2+k*21,none⟩)) rfl (by kernel_rfl) (by kernel_rfl) (by kernel_rfl) (fun _ _ _ h=>h) (.inl ⟨by rfl,fun z hSz=>by go_simp⟩) hHeld ?_
   simp only[Act.put]
   refine wpAnyH_take (i:=9) (oi:=?op9) (v:=.agg cy.toArray) ?ta9 ?tb9 ?tc9 ?td9 ?tq9 ?ty9 hHeld ?_
   case ta9=>rfl
   case tb9=>kernel_rfl
   case tc9=>kernel_rfl
   case td9=>kernel_rfl
   case tq9=>exact fun _ _ _ h=>h
   case ty9=>
    refine yieldsIf_load_mid ?tw9 53 (.tmp 94) ?to9 b2 (o2+k*21) ?tx9 cy d (fun z hz=>hz.2.2.2) hHu.out hd (by rw[ly];exact st_size)
    case tw9=>kernel_rfl
    case to9=>rfl
    case tx9=>kernel_rfl
   simp only[Act.put]
   refine wpAnyH_ready (rs:=[10]) (by kernel_rfl) (by simp) ?_
   refine AllReadyH.cons rfl (fun K hK=>?_) AllReadyH.nil
   go_simp
   refine(hPk _ hW.drew).mono ?_
   rintro e w5 ⟨rfl,hb5⟩
   have hs5:wr.heap.size<=wr.drew.heap.size:=Nat.le_refl _
   refine hK.out _ _ ⟨(hb5.cell (by show w.heap.size<_;omega)).trans qr,(hb5.cell (by show w.heap.size+1<_;omega)).trans rr,rangeAt_below (w:=wr.drew) ((World.rangeAt_drew _ _ _ _).2 hx) hb5 (by omega),rangeAt_below (w:=wr.drew) ((World.rangeAt_drew _ _ _ _).2 hy) hb5 (by omega)⟩ (fun hHeld5=>?_)
   clear hK K hHeld
   refine wpAnyH_take (i:=11) (v:=.bool (!(P k))) rfl (by kernel_rfl) (by kernel_rfl) (by kernel_rfl) (fun _ _ _ h=>h) (.inl ⟨by rfl,fun z hSz=>by go_simp⟩) hHeld5 ?_
   simp only[Act.put]
   refine wpAnyH_done (by kernel_rfl) ?_ _
   clear hHeld5
   have hW5:Below w.heap.size w w5:=hW.drew.trans (hb5.mono hW.drew.size)
   have hW15:=hbw.drew.trans (hb5.mono hbw.drew.size)
   clear hx hy qr rr hb5
   cases hp:P k with
   | false=>
    go_wp2_with fail
    go_ret
    have hall:(List.range kn).all P=false:=by
     rw[List.all_eq_false]
     exact⟨k,List.mem_range.2 hlt,by simp[hp]⟩
    rw[hall]
    exact⟨rfl,hW5⟩
   | true=>
    go_wp2_with fail
    go_roundw
    case rel=>
     refine⟨k+1,by omega,by go_num,fun j hj=>?_,hW15⟩
     rcases Nat.lt_or_ge j k with h | h
     ·exact hHid.out j h
     ·have:j=k:=by omega
      subst this
      exact hp
    case measure=>simp[intOf];omega
  ·have hk':kn=k:=by omega
   subst hk'
   go_wp2_with fail
   go_ret
   have hall:(List.range kn).all P=true:=by
    rw[List.all_eq_true]
    intro j hj
    exact hHid.out j (List.mem_range.1 hj)
   rw[hall]
   exact⟨rfl,hW⟩
end Go.Proofs.YtfhjhnofkaiceaaGreatDoor
namespace Go.Proofs.YtfhjhnofkaiceaaGreatDoor
open Go Go.RowKit
theorem kidsAt {w:World} {q:Option Addr} {n:Nat} {ki:Nat->St} (h:n=0\/∃b o,q=some ⟨b,o,none⟩/\b<w.heap.size/\∃ds:Nat->Sd,∀i,i<n->w.rangeAt b (o+i*21) (ds i).cells/\StOk w (ki i) (ds i)):
  ∃ds:Nat->Sd,(n=0\/∃b o,q=some ⟨b,o,none⟩/\b<w.heap.size/\∀i,i<n->w.rangeAt b (o+i*21) (ds i).cells)/\∀i,i<n->StOk w (ki i) (ds i):=by
 rcases h with h0 | ⟨b,o,rfl,hb,ds,hds⟩
 ·exact⟨fun _=>⟨⟨0,⟨#[]⟩,⟨#[]⟩,false,0,0,0,⟨#[]⟩,0⟩,none,0,0,none,0,0,⟨0,0,false,none,0,0,none,0,0,⟨#[]⟩,none,0,0⟩,none,0,0,none,0,0,none,0,0⟩,.inl h0,fun i hi=>by omega⟩
 ·exact⟨ds,.inr ⟨b,o,rfl,hb,fun i hi=>(hds i hi).1⟩,fun i hi=>(hds i hi).2⟩
theorem Sc.eq_iff (s t:Sc):s.eq t=true↔(s.ru=t.ru/\s.nm.toList=t.nm.toList/\s.ot.toList=t.ot.toList/\s.kk=t.kk/\s.nn=t.nn/\s.pr=t.pr)/\s.en.toList=t.en.toList/\s.ve=t.ve:=by
 unfold Sc.eq
 simp only[Bool.and_eq_true,decide_eq_true_eq]
 constructor
 ·rintro⟨⟨⟨⟨⟨a,b⟩,c⟩,d⟩,e⟩,⟨f,g⟩,h⟩
  exact⟨⟨a,b,c,f,g,h⟩,d,e⟩
 ·rintro⟨⟨a,b,c,f,g,h⟩,d,e⟩
  exact⟨⟨⟨⟨⟨a,b⟩,c⟩,d⟩,e⟩,⟨f,g⟩,h⟩
theorem refEq_ok:∀(x y:St) (d e:Sd) (w:World),StOk w x d->StOk w y e->
  Calls Tryz.prog 60 #[d.val,e.val] w fun r w'=>r=.returned (.bool (x.eq y))/\Below w.heap.size w w':=by
 intro x
 induction x with
 | non=>exact fun y d e w hx=>hx.elim
 | mk s nu de x pn ps bn bs n ki ih=>
  intro y d e w hx hy
  cases y with
  | non=>exact hy.elim
  | mk s' nu' de' x' pn' ps' bn' bs' n' ki'=>
  unfold StOk at hx hy
  obtain⟨⟨rfl,rfl,rfl,rfl⟩,x2,x3,x4,x5,x6,x7,x8,x9,x10⟩:=hx
  obtain⟨⟨rfl,rfl,rfl,rfl⟩,y2,y3,y4,y5,y6,y7,y8,y9,y10⟩:=hy
  unfold St.eq
  have hR:∀w1,Below w.heap.size w w1->Calls Tryz.prog 78 #[.agg #[.bool d.s.g,.slice d.aq d.an d.ac,.slice d.cq d.cn d.cc],.agg #[.bool e.s.g,.slice e.aq e.an e.ac,.slice e.cq e.cn e.cc]] w1 fun r w'=>r=.returned (.bool (ratEq d.s.g nu de e.s.g nu' de'))/\Below w1.heap.size w1 w':=
   fun w1 h1=>refEqual_ok (x2.below h1) (x3.below h1) (y2.below h1) (y3.below h1) x4 y4 x5 y5
  have hX:∀w1,Below w.heap.size w w1->Calls Tryz.prog 76 #[d.e.val,e.e.val] w1 fun r w'=>r=.returned (.bool (x.eq x'))/\Below w1.heap.size w1 w':=
   fun w1 h1=>alike_ok x x' d.e e.e w1 (x6.below h1) (y6.below h1)
  have hL:∀w1,Below w.heap.size w w1->Calls Tryz.prog 79 #[d.val,e.val] w1 fun r w'=>r=.returned (.bool (lisEq d.pon ps d.arn bs d.kin e.pon ps' e.arn bs' e.kin))/\Below w1.heap.size w1 w':=
   fun w1 h1=>lists_ok (x7.below h1) (y7.below h1) (x8.below h1) (y8.below h1) x9 y9
  have hlis:lisEq d.pon ps d.arn bs d.kin e.pon ps' e.arn bs' e.kin=(PtsEq d.pon ps e.pon ps'&&(BdsEq d.arn bs e.arn bs'&&decide (d.kin=e.kin))):=rfl
  by_cases hs:d.s.eq e.s=true
  ·rw[hs]
   obtain⟨⟨e1,e2,e3,e4,e5,e6⟩,e7,e8⟩:=(Sc.eq_iff _ _).1 hs
   cases r1:ratEq d.s.g nu de e.s.g nu' de' with
   | false=>
    rw[r1] at hR
    exact req_R e1 e2 e3 e4 e5 e6 e7 e8 hR
   | true=>
    rw[r1] at hR
    cases r2:x.eq x' with
    | false=>
     rw[r2] at hX
     exact req_X e1 e2 e3 e4 e5 e6 e7 e8 hR hX
    | true=>
     rw[r2] at hX
     cases r3:lisEq d.pon ps d.arn bs d.kin e.pon ps' e.arn bs' e.kin with
     | false=>
      rw[r3] at hL
      have hz:(PtsEq d.pon ps e.pon ps'&&(BdsEq d.arn bs e.arn bs'&&(decide (d.kin=e.kin)&&(List.range d.kin).all fun i=>(ki i).eq (ki' i))))=false:=by
       rw[hlis] at r3
       revert r3
       generalize PtsEq d.pon ps e.pon ps'=A
       generalize BdsEq d.arn bs e.arn bs'=B
       generalize decide (d.kin=e.kin)=C
       generalize ((List.range d.kin).all fun i=>(ki i).eq (ki' i))=D
       cases A<;>cases B<;>cases C<;>simp
      rw[hz]
      exact req_L e1 e2 e3 e4 e5 e6 e7 e8 hR hX hL
     | true=>
      rw[r3] at hL
      rw[hlis] at r3
      simp only[Bool.and_eq_true,decide_eq_true_eq] at r3
      obtain⟨t1,t2,t3⟩:=r3
      rw[t1,t2]
      simp only[t3,decide_true,Bool.true_and]
      obtain⟨ds,k1,k2⟩:=kidsAt x10
      rw[<-t3] at y10
      obtain⟨es,l1,l2⟩:=kidsAt y10
      have hv:e.val=(.agg #[.int .i64 e.s.ru,.string e.s.nm,.string e.s.ot,.bool e.s.g,.slice e.aq e.an e.ac,.slice e.cq e.cn e.cc,.int .i64 e.s.kk,.int .i64 e.s.nn,.int .i64 e.s.pr,
       .int .i64 e.e.k,.int .i64 e.e.f,.bool e.e.neg,.slice e.e.aq e.e.an e.e.ac,.slice e.e.cq e.e.cn e.e.cc,.string e.e.m,.slice e.e.sq e.e.sn e.e.sc,
       .slice e.poq e.pon e.poc,.string e.s.en,.int .i64 e.s.ve,.slice e.arq e.arn e.arc,.slice e.kiq d.kin e.kic]):=by
       unfold Sd.val Sd.cells
       rw[t3]
      rw[hv] at hL ⊢
      rw[<-t3]
      exact req_kids ds es (fun i=>(ki i).eq (ki' i)) x9 e1 e2 e3 e4 e5 e6 e7 e8 hR hX hL k1 l1 (fun i hi w2 h2=>ih i (ki' i) (ds i) (es i) w2 ((k2 i hi).below h2) ((l2 i hi).below h2))
  ·have hf:d.s.eq e.s=false:=by simpa using hs
   rw[hf]
   by_cases h1:d.s.ru=e.s.ru/\d.s.nm.toList=e.s.nm.toList/\d.s.ot.toList=e.s.ot.toList/\d.s.kk=e.s.kk/\d.s.nn=e.s.nn/\d.s.pr=e.s.pr
   ·have h2:¬(d.s.en.toList=e.s.en.toList/\d.s.ve=e.s.ve):=fun h2=>hs ((Sc.eq_iff _ _).2 ⟨h1,h2⟩)
    obtain⟨e1,e2,e3,e4,e5,e6⟩:=h1
    exact req_mid e1 e2 e3 e4 e5 e6 h2
   ·exact req_first h1
end Go.Proofs.YtfhjhnofkaiceaaGreatDoor
namespace Go.Proofs.YtfhjhnofkaiceaaGreatDoor
open Go Go.RowKit
theorem ratEq_refl (n:Bool) (a c:List Int):ratEq n a c n a c=true:=by
 unfold ratEq
 split<;>simp_all
theorem Ex.eq_refl:∀x:Ex,x.eq x=true:=by
 intro x
 induction x with
 | non=>rfl
 | mk k f ng nu de m n ar ih=>
  unfold Ex.eq
  rw[ratEq_refl]
  simp[ih]
theorem Pt.eq_refl (p:Pt):p.eq p=true:=by
 unfold Pt.eq
 rw[ratEq_refl]
 simp
theorem Bd.eq_refl (p:Bd):p.eq p=true:=by
 unfold Bd.eq
 rw[Ex.eq_refl]
 simp
theorem PtsEq_refl (n:Nat) (ps:Nat->Pt):PtsEq n ps n ps=true:=by
 unfold PtsEq
 simp[Pt.eq_refl]
theorem BdsEq_refl (n:Nat) (ps:Nat->Bd):BdsEq n ps n ps=true:=by
 unfold BdsEq
 simp[Bd.eq_refl]
theorem Sc.eq_refl (s:Sc):s.eq s=true:=by
 unfold Sc.eq
 simp
theorem St.eq_refl:∀x:St,x.eq x=true:=by
 intro x
 induction x with
 | non=>rfl
 | mk s nu de x pn ps bn bs n ki ih=>
  unfold St.eq
  rw[Sc.eq_refl,ratEq_refl,Ex.eq_refl,PtsEq_refl,BdsEq_refl]
  simp[ih]
end Go.Proofs.YtfhjhnofkaiceaaGreatDoor
