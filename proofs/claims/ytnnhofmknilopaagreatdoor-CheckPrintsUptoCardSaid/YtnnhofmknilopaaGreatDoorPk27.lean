import Derived.Test.YtnnhofmknilopaaGreatDoorPk26
namespace Go.Proofs.YtnnhofmknilopaaGreatDoor
open Go Go.RowKit
set_option maxRecDepth 100000
set_option maxHeartbeats 16000000
theorem text_pow {w0:World} {f:Int} {ng:Bool} {aq cq:Option Addr} {ac cc sc:Nat} {nu de:List Int} {m:ByteArray} {kb ko:Nat} {d1:Nd} {T:List UInt8} (hkb:kb<w0.heap.size) (hn:NdAt w0 kb ko d1) (kA:TxC w0 299 [d1.val,.int .i64 5] T) (l0:T.length<=1000000) (hf1:-32<=f) (hf2:f<=32):
  TxC w0 188 [.agg #[.int .i64 9,.int .i64 f,.bool ng,.slice aq nu.length ac,.slice cq de.length cc,.string m,.slice (some ⟨kb,ko,none⟩) 1 sc]] (T++(94::Lib.itoa f)):=by
 intro w hbw
 have b0:=zaa w (.cells #[.int .i64 9,.int .i64 f,.bool ng,.slice aq nu.length ac,.slice cq de.length cc,.string m,.slice (some ⟨kb,ko,none⟩) 1 sc] 27)
 have c0:(w.alloc (.cells #[.int .i64 9,.int .i64 f,.bool ng,.slice aq nu.length ac,.slice cq de.length cc,.string m,.slice (some ⟨kb,ko,none⟩) 1 sc] 27)).heap[w.heap.size]?=some (.cells #[.int .i64 9,.int .i64 f,.bool ng,.slice aq nu.length ac,.slice cq de.length cc,.string m,.slice (some ⟨kb,ko,none⟩) 1 sc] 27 (0,0)):=heap_alloc_new w _
 have hX:=hbw.trans (zap b0 hbw.size)
 obtain⟨x0,x1,x2,x3,x4,x5,x6⟩:=zaf c0
 obtain⟨k1,f1,g1,aq1,an1,ac1,cq1,cn1,cc1,m1,sq1,sn1,sc1⟩:=d1
 obtain⟨y0,y1,y2,y3,y4,y5,y6⟩:=hn.below hX hkb
 have eM:kb<w.heap.size:=Nat.lt_of_lt_of_le hkb hbw.size
 have hsz:(w.alloc (.cells #[.int .i64 9,.int .i64 f,.bool ng,.slice aq nu.length ac,.slice cq de.length cc,.string m,.slice (some ⟨kb,ko,none⟩) 1 sc] 27)).heap.size=w.heap.size+1:=by simp
 unfold TxC Nd.val at kA
 simp only at kA y0 y1 y2 y3 y4 y5 y6
 have hil:=zbn (n:=f) (by show _<10000000000000000000;omega)
 have hit:=fun w=>zfw w f (by omega) (by omega)
 generalize Lib.itoa f=I at*
 have q1:¬9223372036854775807<T.length+1:=by omega
 have q2:¬9223372036854775807<T.length+1+I.length:=by omega
 have hX':=zab hX
 clear hn c0 x2 x3 x4 x5 hX hbw
 go_enter Tryz.func188,Tryz.ntmps188
 go_wp2_with fail
 generalize (w.alloc (.cells #[.int .i64 9,.int .i64 f,.bool ng,.slice aq nu.length ac,.slice cq de.length cc,.string m,.slice (some ⟨kb,ko,none⟩) 1 sc] 27))=W at*
 go_region_held3 (fun z=>z.cell? ⟨w.heap.size,6,none⟩=some (.slice (some ⟨kb,ko,none⟩) 1 sc)/\z.cell? ⟨w.heap.size,1,none⟩=some (.int .i64 f)/\z.cell? ⟨kb,ko,none⟩=some (.int .i64 k1)/\z.cell? ⟨kb,ko+1,none⟩=some (.int .i64 f1)/\z.cell? ⟨kb,ko+2,none⟩=some (.bool g1)/\z.cell? ⟨kb,ko+3,none⟩=some (.slice aq1 an1 ac1)/\z.cell? ⟨kb,ko+4,none⟩=some (.slice cq1 cn1 cc1)/\z.cell? ⟨kb,ko+5,none⟩=some (.string m1)/\z.cell? ⟨kb,ko+6,none⟩=some (.slice sq1 sn1 sc1))
  (first | exact⟨x6,x1,y0,y1,y2,y3,y4,y5,y6⟩ | exact hS5 | exact hS6)
  (first
    | (go_at_call 299;with_reducible refine(kA _ ?_).mono ?_;exact hX'.out.drew;rintro e w5 ⟨rfl,hb5⟩
       have hs:W.drew.heap.size=w.heap.size+1:=hsz
       have hS5:w5.cell? ⟨w.heap.size,6,none⟩=some (.slice (some ⟨kb,ko,none⟩) 1 sc)/\w5.cell? ⟨w.heap.size,1,none⟩=some (.int .i64 f)/\w5.cell? ⟨kb,ko,none⟩=some (.int .i64 k1)/\w5.cell? ⟨kb,ko+1,none⟩=some (.int .i64 f1)/\w5.cell? ⟨kb,ko+2,none⟩=some (.bool g1)/\w5.cell? ⟨kb,ko+3,none⟩=some (.slice aq1 an1 ac1)/\w5.cell? ⟨kb,ko+4,none⟩=some (.slice cq1 cn1 cc1)/\w5.cell? ⟨kb,ko+5,none⟩=some (.string m1)/\w5.cell? ⟨kb,ko+6,none⟩=some (.slice sq1 sn1 sc1):=by
        have k1:kb<W.drew.heap.size:=by omega
        have k2:w.heap.size<W.drew.heap.size:=by omega
        exact⟨(hb5.cell (by exact k2)).trans x6,(hb5.cell (by exact k2)).trans x1,(hb5.cell (by exact k1)).trans y0,(hb5.cell (by exact k1)).trans y1,(hb5.cell (by exact k1)).trans y2,(hb5.cell (by exact k1)).trans y3,(hb5.cell (by exact k1)).trans y4,(hb5.cell (by exact k1)).trans y5,(hb5.cell (by exact k1)).trans y6⟩)
    | (go_at_call 300;refine(hit _).mono ?_;rintro e w6 ⟨rfl,hb6⟩
       have hS6:w6.cell? ⟨w.heap.size,6,none⟩=some (.slice (some ⟨kb,ko,none⟩) 1 sc)/\w6.cell? ⟨w.heap.size,1,none⟩=some (.int .i64 f)/\w6.cell? ⟨kb,ko,none⟩=some (.int .i64 k1)/\w6.cell? ⟨kb,ko+1,none⟩=some (.int .i64 f1)/\w6.cell? ⟨kb,ko+2,none⟩=some (.bool g1)/\w6.cell? ⟨kb,ko+3,none⟩=some (.slice aq1 an1 ac1)/\w6.cell? ⟨kb,ko+4,none⟩=some (.slice cq1 cn1 cc1)/\w6.cell? ⟨kb,ko+5,none⟩=some (.string m1)/\w6.cell? ⟨kb,ko+6,none⟩=some (.slice sq1 sn1 sc1):=by
        have k0:=hb5.size
        have k1:kb<w5.heap.size:=by omega
        have k2:w.heap.size<w5.heap.size:=by omega
        obtain⟨a0,a1,a2,a3,a4,a5,a6,a7,a8⟩:=hS5
        exact⟨(hb6.cell (by exact k2)).trans a0,(hb6.cell (by exact k2)).trans a1,(hb6.cell (by exact k1)).trans a2,(hb6.cell (by exact k1)).trans a3,(hb6.cell (by exact k1)).trans a4,(hb6.cell (by exact k1)).trans a5,(hb6.cell (by exact k1)).trans a6,(hb6.cell (by exact k1)).trans a7,(hb6.cell (by exact k1)).trans a8⟩))
 all_goals
  go_wp2_with fail
  go_ret
  have bj:Below w.heap.size w w5:=b0.drew.trans (hb5.mono b0.drew.size)
  exact⟨zel (by simp),bj.trans (hb6.mono bj.size)⟩
theorem zmq {w0:World} {k f:Int} {ng:Bool} {aq cq sq:Option Addr} {ac cc sc n:Nat} {nu de:List Int} {m:ByteArray} {T:List UInt8} (hk:10<=k) (hK:TxC w0 301 [.agg #[.int .i64 k,.int .i64 f,.bool ng,.slice aq nu.length ac,.slice cq de.length cc,.string m,.slice sq n sc]] T):
  TxC w0 188 [.agg #[.int .i64 k,.int .i64 f,.bool ng,.slice aq nu.length ac,.slice cq de.length cc,.string m,.slice sq n sc]] T:=by
 intro w hbw
 have b0:=zaa w (.cells #[.int .i64 k,.int .i64 f,.bool ng,.slice aq nu.length ac,.slice cq de.length cc,.string m,.slice sq n sc] 27)
 have c0:(w.alloc (.cells #[.int .i64 k,.int .i64 f,.bool ng,.slice aq nu.length ac,.slice cq de.length cc,.string m,.slice sq n sc] 27)).heap[w.heap.size]?=some (.cells #[.int .i64 k,.int .i64 f,.bool ng,.slice aq nu.length ac,.slice cq de.length cc,.string m,.slice sq n sc] 27 (0,0)):=heap_alloc_new w _
 have hc:=hK _ (hbw.trans (zap b0 hbw.size))
 obtain⟨x0,x1,x2,x3,x4,x5,x6⟩:=zaf c0
 have e1:(k==1)=false:=by simp;omega
 have e2:(k==2)=false:=by simp;omega
 have e3:(k==3)=false:=by simp;omega
 have e4:(k==4)=false:=by simp;omega
 have e5:(k==5)=false:=by simp;omega
 have e6:(k==6)=false:=by simp;omega
 have e7:(k==7)=false:=by simp;omega
 have e8:(k==8)=false:=by simp;omega
 have e9:(k==9)=false:=by simp;omega
 clear hK hbw c0
 go_enter Tryz.func188,Tryz.ntmps188
 go_wp2_with (go_at_call 301;refine hc.mono ?_;rintro e w1 ⟨rfl,hb1⟩)
 go_ret
 exact⟨rfl,b0.trans (hb1.mono b0.size)⟩
theorem nodeT_ge {k f:Int} {g:Bool} {X Y:Int} {m:ByteArray} {n:Nat} (h:nodeOk k f g X Y m n=true) (T:Nat->List UInt8) (L:Nat->Int):∀i,i<n->(T i).length<=(nodeT k f g X Y m n T L).length:=by
 have p:∀l p t,t.length<=(parT l p t).length:=by
  intro l p t
  unfold parT
  split
  ·simp;omega
  ·exact Nat.le_refl _
 have s3:(sepT T 3).length=(T 0).length+(T 1).length+(T 2).length+4:=by simp[sepT];omega
 have s2:(sepT T 2).length=(T 0).length+(T 1).length+2:=by simp[sepT];omega
 have s1:(sepT T 1).length=(T 0).length:=by simp[sepT]
 have p1:=p (L 0) 3 (T 0)
 have p2:=p (L 0) 1 (T 0)
 have p3:=p (L 1) 2 (T 1)
 have p4:=p (L 0) 2 (T 0)
 have p5:=p (L 1) 3 (T 1)
 have p6:=p (L 0) 5 (T 0)
 intro i hi
 rcases zgf h with⟨rfl,rfl⟩ | ⟨rfl,rfl⟩ | ⟨rfl,rfl⟩ | ⟨rfl,rfl⟩ | ⟨rfl,rfl⟩ | ⟨rfl,rfl⟩ | ⟨rfl,rfl⟩ | ⟨rfl,rfl⟩ | ⟨rfl,rfl⟩ | ⟨rfl,rfl⟩ | ⟨rfl,rfl⟩ | ⟨rfl,rfl⟩ | ⟨rfl,rfl⟩ | ⟨rfl,rfl⟩ | ⟨rfl,rfl⟩
 iterate 3 (exact absurd hi (Nat.not_lt_zero _))
 all_goals
  unfold nodeT
  simp (config:={ decide:=true }) only[if_true,if_false,List.length_append,List.length_cons,List.length_nil]
  have hi':i=0\/i=1\/i=2:=by omega
  rcases hi' with rfl | rfl | rfl
  all_goals omega
theorem textE_ok {w0:World}:∀(x:Ex) (d:Nd),ExOk w0 x d->x.vd->x.txt.length<=1000000->TxC w0 188 [d.val] x.txt:=by
 intro x
 induction x with
 | non=>exact fun _ h=>h.elim
 | mk k f g nu de m n ar ih=>
  intro d h hv hl
  unfold ExOk at h
  obtain⟨⟨rfl,rfl,rfl,rfl,hsn⟩,h2,h3,h4,h5,h6,h7⟩:=h
  obtain⟨hN,hvk⟩:=hv
  obtain⟨dk,df,dg,aq,an,ac,cq,cn,cc,dm,sq,sn,sc⟩:=d
  simp only at hsn h2 h3 h7 hN hl
  subst hsn
  obtain⟨_,_,e1⟩:=h2.form
  obtain⟨_,_,e2⟩:=h3.form
  simp only[Value.slice.injEq] at e1 e2
  obtain⟨rfl,rfl,rfl⟩:=e1
  obtain⟨rfl,rfl,rfl⟩:=e2
  unfold Nd.val
  simp only
  have htx:(Ex.mk dk df dg nu de dm sn ar).txt=nodeT dk df dg (val nu) (val de) dm sn (fun i=>(ar i).txt) (fun i=>lev (ar i).k):=rfl
  rw[htx] at hl ⊢
  have hge:=nodeT_ge hN (fun i=>(ar i).txt) (fun i=>lev (ar i).k)
  have kl:∀i,i<sn->(ar i).txt.length<=1000000:=fun i hi=>Nat.le_trans (hge i hi) hl
  have kt:∀{b o:Nat} {ds:Nat->Nd},(∀i,i<sn->NdAt w0 b (o+i*7) (ds i)/\ExOk w0 (ar i) (ds i))->∀i,i<sn->TxC w0 188 [(ds i).val] (ar i).txt:=
   fun hd i hi=>ih i _ (hd i hi).2 (hvk i hi) (kl i hi)
  have kid:∀{b o:Nat} {ds:Nat->Nd},(∀i,i<sn->NdAt w0 b (o+i*7) (ds i)/\ExOk w0 (ar i) (ds i))->∀i p,i<sn->TxC w0 299 [(ds i).val,.int .i64 p] (parT (lev (ar i).k) p (ar i).txt):=by
   intro b o ds hd i p hi
   obtain⟨hk0,hk1,hk2⟩:=zmc (hd i hi).2 (hvk i hi)
   have:=zme (p:=p) (kt hd i hi) (by omega) (by omega) (kl i hi)
   rwa [hk0] at this
  have pl:∀i p,i<sn->(parT (lev (ar i).k) p (ar i).txt).length<=(nodeT dk df dg (val nu) (val de) dm sn (fun i=>(ar i).txt) (fun i=>lev (ar i).k)).length->(parT (lev (ar i).k) p (ar i).txt).length<=1000000:=fun i p _ h=>Nat.le_trans h hl
  rcases zgf hN with⟨rfl,rfl⟩ | ⟨rfl,rfl⟩ | ⟨rfl,rfl⟩ | ⟨rfl,rfl⟩ | ⟨rfl,rfl⟩ | ⟨rfl,rfl⟩ | ⟨rfl,rfl⟩ | ⟨rfl,rfl⟩ | ⟨rfl,rfl⟩ | hk | hk | hk | hk | hk | hk
  ·exact text_num h2 h3 h4 h5 (ze5 hN)
  ·exact zk4
  ·exact text_pi
  ·obtain⟨b,o,rfl,hb,ds,hd⟩:=h7.resolve_left (by omega)
   exact text_neg hb (by simpa using (hd 0 (by omega)).1) (kid hd 0 3 (by omega)) (pl 0 3 (by omega) (by show _<=(45::parT _ 3 _).length;simp))
  ·obtain⟨b,o,rfl,hb,ds,hd⟩:=h7.resolve_left (by omega)
   exact text_op5 hb (by simpa using (hd 0 (by omega)).1) (by simpa using (hd 1 (by omega)).1) (kid hd 0 1 (by omega)) (kid hd 1 2 (by omega)) (pl 0 1 (by omega) (by show _<=(parT _ 1 _++(signT 5++parT _ 2 _)).length;simp)) (pl 1 2 (by omega) (by show _<=(parT _ 1 _++(signT 5++parT _ 2 _)).length;simp;omega))
  ·obtain⟨b,o,rfl,hb,ds,hd⟩:=h7.resolve_left (by omega)
   exact text_op6 hb (by simpa using (hd 0 (by omega)).1) (by simpa using (hd 1 (by omega)).1) (kid hd 0 1 (by omega)) (kid hd 1 2 (by omega)) (pl 0 1 (by omega) (by show _<=(parT _ 1 _++(signT 6++parT _ 2 _)).length;simp)) (pl 1 2 (by omega) (by show _<=(parT _ 1 _++(signT 6++parT _ 2 _)).length;simp;omega))
  ·obtain⟨b,o,rfl,hb,ds,hd⟩:=h7.resolve_left (by omega)
   exact text_op7 hb (by simpa using (hd 0 (by omega)).1) (by simpa using (hd 1 (by omega)).1) (kid hd 0 2 (by omega)) (kid hd 1 3 (by omega)) (pl 0 2 (by omega) (by show _<=(parT _ 2 _++(signT 7++parT _ 3 _)).length;simp)) (pl 1 3 (by omega) (by show _<=(parT _ 2 _++(signT 7++parT _ 3 _)).length;simp;omega))
  ·obtain⟨b,o,rfl,hb,ds,hd⟩:=h7.resolve_left (by omega)
   exact text_op8 hb (by simpa using (hd 0 (by omega)).1) (by simpa using (hd 1 (by omega)).1) (kid hd 0 2 (by omega)) (kid hd 1 3 (by omega)) (pl 0 2 (by omega) (by show _<=(parT _ 2 _++(signT 8++parT _ 3 _)).length;simp)) (pl 1 3 (by omega) (by show _<=(parT _ 2 _++(signT 8++parT _ 3 _)).length;simp;omega))
  ·obtain⟨b,o,rfl,hb,ds,hd⟩:=h7.resolve_left (by omega)
   have ha:=zd7 hN
   exact text_pow hb (by simpa using (hd 0 (by omega)).1) (kid hd 0 5 (by omega)) (pl 0 5 (by omega) (by show _<=(parT _ 5 _++(94::Lib.itoa df)).length;simp)) ha.1 ha.2
  all_goals
   have dY:10<=dk:=by omega
   have hnt:nodeT dk df dg (val nu) (val de) dm sn (fun i=>(ar i).txt) (fun i=>lev (ar i).k)=headT dk df++(sepT (fun i=>(ar i).txt) sn++[41]):=by
    unfold nodeT
    rw[if_neg (by omega),if_neg (by omega),if_neg (by omega),if_neg (by omega),if_neg (by omega),if_neg (by omega),if_neg (by omega)]
   rw[hnt] at hl ⊢
   obtain⟨b,o,rfl,hb,ds,hd⟩:=h7.resolve_left (by omega)
   exact zmq dY (zk3 hN dY (.inr ⟨b,o,rfl,hb,fun i hi=>(hd i hi).1⟩) (fun i hi=>kt hd i hi) (by simp at hl;omega))
theorem zho {w:World} {x:Ex} {d:Nd} (h:ExOk w x d) (hv:(x.cnt 1 0).isSome=true):
  Calls Tryz.prog 109 #[d.val] w (Rt w (resT (prT x))):=by
 obtain⟨hvd,hl⟩:=Ex.ok_txt hv
 unfold prT
 have b0:Below w.heap.size w (w.alloc (.cells #[.int .i64 d.k,.int .i64 d.f,.bool d.neg,.slice d.aq d.an d.ac,.slice d.cq d.cn d.cc,.string d.m,.slice d.sq d.sn d.sc] 27)):=zaa w _
 have hva:=zfk (h.below b0)
 rw[hv] at hva
 have ht:=textE_ok x d h hvd (by omega)
 unfold TxC at ht
 clear h
 generalize x.txt=T at*
 obtain⟨k,f,ng,aq,an,ac,cq,cn,cc,m,sq,sn,sc⟩:=d
 unfold Nd.val at hva ht ⊢
 simp only at b0 hva ht ⊢
 have c0:Hid ((w.alloc (.cells #[.int .i64 k,.int .i64 f,.bool ng,.slice aq an ac,.slice cq cn cc,.string m,.slice sq sn sc] 27)).heap[w.heap.size]?=some (.cells #[.int .i64 k,.int .i64 f,.bool ng,.slice aq an ac,.slice cq cn cc,.string m,.slice sq sn sc] 27 (0,0))):=heap_alloc_new w _
 have ht':=zab ht
 obtain⟨x0,x1,x2,x3,x4,x5,x6⟩:=zaf c0.out
 clear ht
 by_cases hgt:T.length > 4000
 ·rw[if_pos hgt]
  have fK:(T.length:Int) > 4000:=by omega
  go_enter Tryz.func109,Tryz.ntmps109
  go_wp2_with (first
   | (go_at_call 102;refine hva.mono ?_;rintro e w1 ⟨rfl,hb1⟩
      have B1:=b0.trans (hb1.mono b0.size)
      have hc:=ht'.out w1 B1
      have c1:w1.heap[w.heap.size]?=some (.cells #[.int .i64 k,.int .i64 f,.bool ng,.slice aq an ac,.slice cq cn cc,.string m,.slice sq sn sc] 27 (0,0)):=by rw[hb1.block _ (by simp)];exact c0.out
      clear x0 x1 x2 x3 x4 x5 x6
      obtain⟨x0,x1,x2,x3,x4,x5,x6⟩:=zaf c1
      clear hva hb1 c1)
   | (go_at_call 188;refine hc.mono ?_;rintro e w2 ⟨rfl,hb2⟩))
  go_ret2
  exact⟨rfl,B1.trans (hb2.mono B1.size)⟩
 ·rw[if_neg hgt]
  have fK:¬(T.length:Int) > 4000:=by omega
  go_enter Tryz.func109,Tryz.ntmps109
  go_wp2_with (first
   | (go_at_call 102;refine hva.mono ?_;rintro e w1 ⟨rfl,hb1⟩
      have B1:=b0.trans (hb1.mono b0.size)
      have hc:=ht'.out w1 B1
      have c1:w1.heap[w.heap.size]?=some (.cells #[.int .i64 k,.int .i64 f,.bool ng,.slice aq an ac,.slice cq cn cc,.string m,.slice sq sn sc] 27 (0,0)):=by rw[hb1.block _ (by simp)];exact c0.out
      clear x0 x1 x2 x3 x4 x5 x6
      obtain⟨x0,x1,x2,x3,x4,x5,x6⟩:=zaf c1
      clear hva hb1 c1)
   | (go_at_call 188;refine hc.mono ?_;rintro e w2 ⟨rfl,hb2⟩))
  go_ret2
  exact⟨rfl,B1.trans (hb2.mono B1.size)⟩
def ptT (p:Pt):List UInt8:=p.m.toList++61::numT p.g (val p.nu) (val p.de)
def pointT (n:Nat) (ps:Nat->Pt):List UInt8:=91::(sepT (fun i=>ptT (ps i)) n++[93])
def bdT (p:Bd):Option (List UInt8):=(prT p.x).map fun t=>p.m.toList++61::123::(t++[125])
def sepO (F:Nat->Option (List UInt8)):Nat->Option (List UInt8)
 | 0=>some []
 | c+1=>(sepO F c).bind fun a=>(F c).map fun t=>(if c=0 then [] else a++[44,32])++t
def argsT (n:Nat) (bs:Nat->Bd):Option (List UInt8):=(sepO (fun i=>bdT (bs i)) n).map fun t=>91::(t++[93])
theorem ze8 {F:Nat->Option (List UInt8)} {i c:Nat} (hi:i<c) (h:F i=none):sepO F c=none:=by
 induction c with
 | zero=>omega
 | succ c ih=>
  unfold sepO
  rcases Nat.lt_or_ge i c with h1 | h1
  ·rw[ih h1];rfl
  ·have:i=c:=by omega
   subst this
   rw[h]
   cases sepO F i<;>rfl
def fieldT (s:Sc) (X Y:Int) (x:Ex) (pn:Nat) (ps:Nat->Pt) (bn:Nat) (bs:Nat->Bd) (c:UInt8):Option (List UInt8):=
 if c=120 then some s.nm.toList
 else if c=121 then some s.ot.toList
 else if c=108 then some s.en.toList
 else if c=107 then some (Lib.itoa s.kk)
 else if c=110 then some (Lib.itoa s.nn)
 else if c=112 then some (Lib.itoa s.pr)
 else if c=118 then some (Lib.itoa s.ve)
 else if c=97 then some (numT s.g X Y)
 else if c=101 then(prT x).map fun t=>123::(t++[125])
 else if c=113 then some (pointT pn ps)
 else argsT bn bs
def strs (ls:List (List UInt8)):List Value:=ls.map fun t=>.string ⟨t.toArray⟩
def OwS (w:World) (base:Nat) (v:Value) (ls:List (List UInt8)):Prop:=w.ownsRow base 9 1 v ls.length (strs ls)
theorem OwS.nil (w:World) (base:Nat):OwS w base (.slice none 0 0) []:=World.ownsRow_nil _ _ _ _
theorem OwS.row {w:World} {base:Nat} {v:Value} {ls:List (List UInt8)} {n:Nat} (h:OwS w base v ls) (hn:ls.length=n):w.ownsRow base 9 1 v n (strs ls):=by subst hn;exact h
theorem OwS.snoc {w:World} {base n:Nat} {v:Value} {ls:List (List UInt8)} {t:List UInt8} (h:w.ownsRow base 9 1 v (n+1) (strs ls++[.string ⟨t.toArray⟩])) (hn:ls.length=n):OwS w base v (ls++[t]):=by
 subst hn;unfold OwS strs;rw[List.map_append,List.length_append];exact h
theorem OwS.below {w w':World} {base:Nat} {v:Value} {ls:List (List UInt8)} (h:OwS w base v ls) (hb:Below w.heap.size w w'):OwS w' base v ls:=zhh h hb
theorem ziq (t:ByteArray):∀u∈[Value.string t],u.oneCell'=true:=by simp[Value.oneCell']
theorem zhp (xs:List (List UInt8)) (y sep:List UInt8):Lib.join (xs++[y]) sep=(if xs=[] then [] else Lib.join xs sep++sep)++y:=by
 cases xs with
 | nil=>simp[Lib.join_one]
 | cons x r=>
  rw[List.cons_append,Lib.join_cons,if_neg (by simp),Lib.join_cons]
  simp[Lib.joinTail]
theorem zdv (F:Nat->List UInt8):∀n,Lib.join ((List.range n).map F) [44,32]=sepT F n
 | 0=>rfl
 | n+1=>by
  rw[List.range_succ,List.map_append,List.map_singleton,zhp,zdv F n]
  unfold sepT
  by_cases h:n=0
  ·subst h;rfl
  ·have:(List.range n).map F≠[]:=by simp[h]
   rw[if_neg this,if_neg h]
   cases n with
   | zero=>exact absurd rfl h
   | succ k=>rfl
theorem zir {w:World} {base:Nat} {v:Value} {ls:List (List UInt8)} (h:OwS w base v ls) (sep:List UInt8) (hl:ls.length<=1000) (hj:(Lib.join ls sep).length<=1000000):
  Calls Tryz.prog 49 #[v,.string ⟨sep.toArray⟩] w (Rt w (.string ⟨(Lib.join ls sep).toArray⟩)):=by
 by_cases hne:ls=[]
 ·subst hne
  obtain⟨q,cap,rfl⟩:=zbr h
  exact(zg1 q cap _ w).mono fun e w' ⟨he,hw⟩=>⟨he,hw ▸ Below.refl _ _⟩
 ·obtain⟨_,⟨rfl,h0⟩ | ⟨g,cp,cur,rfl,hg,be,h4,h5,h6,h7⟩⟩:=id h
  ·exact absurd (List.eq_nil_of_length_eq_zero h0) hne
  ·have hx:(ls.map fun t=>(⟨t.toArray⟩:ByteArray)).map (·.data.toList)=ls:=by
    rw[List.map_map]
    exact List.map_id'' (fun _=>rfl) ls
   have:=strJoin g 0 cp (ls.map fun t=>(⟨t.toArray⟩:ByteArray)) ⟨sep.toArray⟩ w (fun j x hj=>by
    have hjl:j<ls.length:=by
     rcases Nat.lt_or_ge j ls.length with h' | h'
     ·exact h'
     ·simp[List.getElem?_eq_none h'] at hj
    have hc:=World.ownsRow.cellAt h j (by omega)
    rw[Nat.zero_add,hc]
    simp[strs,hjl] at hj ⊢
    exact hj) (Array.getElem?_eq_some_iff.1 be).1 (by simp;omega) (by simpa using h4) (by rw[hx];simpa using (by omega:(Lib.join ls sep).length<=140737488355328))
   rw[hx] at this
   simpa using this
theorem zea {α:Type} (F:Nat->α) (c:Nat):(List.range (c+1)).map F=(List.range c).map F++[F c]:=by rw[List.range_succ,List.map_append,List.map_singleton]
theorem zbx (m:ByteArray):(⟨m.toList.toArray⟩:ByteArray)=m:=by rw[ByteArray.toList_eq]
theorem zfz {w:World} {N:Nat} {v0 v1 v2 v3:Value} {t:TypeId} (h:w.heap[N]?=some (.cells #[v0,v1,v2,v3] t (0,0))):
  w.cell? ⟨N,0,none⟩=some v0/\w.cell? ⟨N,1,none⟩=some v1/\w.cell? ⟨N,2,none⟩=some v2/\w.cell? ⟨N,3,none⟩=some v3:=by
 simp[World.cell?,h]
def PtsPr (n:Nat) (ps:Nat->Pt):Prop:=∀i,i<n->large (val (ps i).nu) (val (ps i).de)=false/\(ps i).m.size<=8
theorem zis {p:Pt} (h:large (val p.nu) (val p.de)=false/\p.m.size<=8):(ptT p).length<=1245:=by
 have:=zdn (g:=p.g) h.1
 unfold ptT
 simp only[List.length_append,List.length_cons,zb9]
 omega
theorem zmr {ps:Nat->Pt} {n:Nat} (h:PtsPr n ps) (hn:n<=6):(sepT (fun i=>ptT (ps i)) n).length<=8000:=by
 have h1:=zge (fun i=>ptT (ps i)) n
 have h2:∀c,c<=n->sumN (fun i=>(ptT (ps i)).length) c<=1245*c:=by
  intro c
  induction c with
  | zero=>intro _;simp[sumN]
  | succ c ih=>
   intro hc
   have:=ih (by omega)
   have:=zis (h c (by omega))
   unfold sumN
   omega
 have:=h2 n (Nat.le_refl _)
 omega
theorem zms {w:World} {q:Option Addr} {n cap:Nat} {ps:Nat->Pt} (h:PtsOk w q n ps) (hn:n<=6) (hp:PtsPr n ps) (hT:Tb w):
  Calls Tryz.prog 95 #[.slice q n cap] w (Rt w (.tuple #[.string ⟨(pointT n ps).toArray⟩,.int .i64 0])):=by
 obtain⟨i0,hi,hz0,hz1,hz2⟩:=info_parts (show(Tryz.prog.info? 9).map (fun i=>(i.zero,i.size,i.bytes))=some (some (.string ⟨#[]⟩),1,16) by kernel_rfl)
 have h':=zab h
 have hT':=zab hT
 have hp':=zab hp
 have ae:=zmr hp hn
 have hpl:Hid (∀i,i<n->(ptT (ps i)).length<=1245):=fun i hi=>zis (hp i hi)
 unfold pointT
 clear h hT hp
 go_enter Tryz.func95,Tryz.ntmps95
 go_wp2
 go_loopw [4,11] (fun s i wr=>∃(c n3:Nat) (q3:Option Addr) (c3:Nat),c<=n/\i=.int .i64 c/\s=.slice q3 n3 c3/\Hid (n3=c)/\Hid (OwS wr w.heap.size (.slice q3 n3 c3) ((List.range c).map fun i=>ptT (ps i)))/\Below w.heap.size w wr) (fun _ i _=>n - (intOf i).toNat)
 case atStart=>exact⟨0,0,none,0,Nat.zero_le _,rfl,rfl,rfl,OwS.nil _ _,Below.refl _ _⟩
 case round=>
  obtain⟨c,n3,q3,c3,hc,rfl,rfl,hn3,hB,hbw⟩:=hrel
  have hws:=hbw.size
  by_cases hlt:c<n
  ·have bR:(c:Int)<(n:Int):=by omega
   obtain⟨b,o,hq,hb,ds,hd⟩:=h'.out.2.resolve_left (by omega)
   subst hq
   obtain⟨hva,hpt⟩:=hd c hlt
   obtain⟨x0,x1,x2,x3⟩:=hva.below hbw hb
   have hpc:=hp'.out c hlt
   have fT:=hpl.out c hlt
   clear hd hva
   obtain⟨p,hpp⟩:∃p,Hid (ps c=p):=⟨_,rfl⟩
   rw[hpp.out] at hpt hpc fT
   obtain⟨e1,e2,s1,s2,l1,l2⟩:=hpt
   generalize ds c=d at*
   obtain⟨dm,dg,daq,dan,dac,dcq,dcn,dcc⟩:=d
   simp only at e1 e2 s1 s2 x0 x1 x2 x3
   subst e1 e2
   obtain⟨_,_,f1⟩:=s1.form
   obtain⟨_,_,f2⟩:=s2.form
   simp only[Value.slice.injEq] at f1 f2
   obtain⟨rfl,rfl,rfl⟩:=f1
   obtain⟨rfl,rfl,rfl⟩:=f2
   have b1:=hbw.trans ((zaa wr (.cells #[.string p.m,.bool p.g,.slice daq p.nu.length dac,.slice dcq p.de.length dcc] 68)).mono hws)
   have c1:(wr.alloc (.cells #[.string p.m,.bool p.g,.slice daq p.nu.length dac,.slice dcq p.de.length dcc] 68)).heap[wr.heap.size]?=some (.cells #[.string p.m,.bool p.g,.slice daq p.nu.length dac,.slice dcq p.de.length dcc] 68 (0,0)):=heap_alloc_new wr _
   have hf:=ze0 (g:=p.g) (s1.below b1) (s2.below b1) (by omega) (by omega) (hT'.out.below b1) hpc.1
   have hB1:Hid (OwS (wr.alloc (.cells #[.string p.m,.bool p.g,.slice daq p.nu.length dac,.slice dcq p.de.length dcc] 68)) w.heap.size (.slice q3 n3 c3) ((List.range c).map fun i=>ptT (ps i))):=hB.out.below (zaa _ _)
   have hnl:=zdn (g:=p.g) hpc.1
   have et:ptT p=p.m.toList++61::numT p.g (val p.nu) (val p.de):=rfl
   generalize numT p.g (val p.nu) (val p.de)=N at*
   have hms:=hpc.2
   have hms2:=hpc.1
   obtain⟨z0,z1,z2,z3⟩:=zfz c1
   clear hB s1 s2 l1 l2
   go_wp2_with (first
    | (go_at_call 93;refine hf.mono ?_;rintro e w2 ⟨rfl,hb2⟩
       have y0:w2.cell? ⟨wr.heap.size,0,none⟩=some (.string p.m):=(hb2.cell (by show wr.heap.size<_;simp)).trans z0
       have af:=(hB1.out.below hb2).row (n:=n3) (by rw[hn3.out];simp)
       have B2:=b1.trans (hb2.mono b1.size)
       have hs2:=B2.size
       have jh:n3<=6:=by have:=hn3.out;omega
       clear z0 z1 z2 z3 x0 x1 x2 x3 hf)
    | (at_builtin;refine wpList_append_own _ rfl _ _ 109 rfl w.heap.size 9 i0 (.string ⟨#[]⟩) 1 16 Tryz.underlying109 hi hz0 hz1 hz2 rfl (by decide) _ _ _ rfl (af.alloc _) ⟨w2.heap.size,0,none⟩ 1 1 [.string (p.m++⟨#[61]⟩++⟨N.toArray⟩)] rfl rfl (World.news_of_block (heap_alloc_last w2 (.cells #[.string (p.m++⟨#[61]⟩++⟨N.toArray⟩)] 9))) (ziq _) (by unfold maxLen;omega) (by omega) (by simp;omega) ?_;intro v' w3 bL dr _;obtain⟨q',c',rfl⟩:=zbr bL))
   go_roundw
   case rel=>
    refine⟨c+1,n3+1,q',c',by omega,by go_num,rfl,by show n3+1=c+1;rw[hn3.out],?_,(B2.alloc hs2 _).grown dr (by simp;omega) (fun k hk=>(af.lt k hk).1)⟩
    show OwS _ _ _ _
    rw[zea]
    refine OwS.snoc (n:=n3) ?_ (by rw[hn3.out];simp)
    have hv:Value.string (p.m++⟨#[61]⟩++⟨N.toArray⟩)=.string ⟨(ptT p).toArray⟩:=by
     rw[et]
     exact zbf (by simp[ByteArray.toList_eq])
    rw[hv] at bL
    rw[hpp.out]
    exact bL
   case measure=>simp[intOf];omega
  ·obtain rfl:c=n:=by omega
   have hj:=zir hB.out [44,32] (by simp;omega) (by rw[zdv];omega)
   rw[zdv] at hj
   go_wp2_with (go_at_call 49;refine hj.mono ?_;rintro e w2 ⟨rfl,hb2⟩)
   go_ret2
   exact⟨zdm (by simp),hbw.trans (hb2.mono hws)⟩
theorem cells8 {w:World} {N:Nat} {v0 v1 v2 v3 v4 v5 v6 v7:Value} {t:TypeId} (h:w.heap[N]?=some (.cells #[v0,v1,v2,v3,v4,v5,v6,v7] t (0,0))):
  w.cell? ⟨N,0,none⟩=some v0/\w.cell? ⟨N,1,none⟩=some v1/\w.cell? ⟨N,2,none⟩=some v2/\w.cell? ⟨N,3,none⟩=some v3/\w.cell? ⟨N,4,none⟩=some v4/\w.cell? ⟨N,5,none⟩=some v5/\w.cell? ⟨N,6,none⟩=some v6/\w.cell? ⟨N,7,none⟩=some v7:=by
 simp[World.cell?,h]
def BdsPr (n:Nat) (bs:Nat->Bd):Prop:=∀i,i<n->((bs i).x.cnt 1 0).isSome=true/\(bs i).m.size<=8
theorem ze9 {x:Ex} {t:List UInt8} (h:prT x=some t):t.length<=4000:=by
 unfold prT at h
 split at h
 ·cases h
 ·cases h;omega
theorem zit {p:Bd} {t:List UInt8} (h:bdT p=some t) (hm:p.m.size<=8):t.length<=4020:=by
 unfold bdT at h
 obtain⟨u,hu,rfl⟩:=Option.map_eq_some_iff.1 h
 have:=ze9 hu
 simp only[List.length_append,List.length_cons,List.length_nil,zb9]
 omega
theorem zdw {F:Nat->Option (List UInt8)} {G:Nat->List UInt8}:∀{n:Nat},(∀i,i<n->F i=some (G i))->sepO F n=some (sepT G n)
 | 0,_=>rfl
 | n+1,h=>by
  unfold sepO sepT
  rw[zdw (n:=n) fun i hi=>h i (by omega),h n (by omega)]
  rfl
theorem zcp {G:Nat->List UInt8} {L:Nat}:∀{n:Nat},(∀i,i<n->(G i).length<=L)->(sepT G n).length<=(L+2)*n
 | 0,_=>by simp[sepT]
 | n+1,h=>by
  have h1:=zcp (n:=n) fun i hi=>h i (by omega)
  have h2:=h n (by omega)
  unfold sepT
  rw[Nat.mul_add,Nat.mul_one]
  split<;>simp only[List.length_append,List.length_cons,List.length_nil]<;>omega
theorem argsP_ok {w:World} {q:Option Addr} {n cap:Nat} {bs:Nat->Bd} (h:BdsOk w q n bs) (hn:n<=6) (hp:BdsPr n bs) (hT:Tb w) (hTi:Ti w):
  Calls Tryz.prog 96 #[.slice q n cap] w (Rt w (resT (argsT n bs))):=by
 obtain⟨i0,hi,hz0,hz1,hz2⟩:=info_parts (show(Tryz.prog.info? 9).map (fun i=>(i.zero,i.size,i.bytes))=some (some (.string ⟨#[]⟩),1,16) by kernel_rfl)
 have h':=zab h
 have hT':=zab hT
 have bE:=zab hTi
 have hp':=zab hp
 obtain⟨R,hR⟩:∃R,Hid (argsT n bs=R):=⟨_,rfl⟩
 rw[hR.out]
 obtain⟨G,hG⟩:∃G:Nat->List UInt8,∀i,G i=(bdT (bs i)).getD []:=⟨_,fun _=>rfl⟩
 have hG':=zab hG
 clear h hT hTi hp hG
 go_enter Tryz.func96,Tryz.ntmps96
 go_wp2
 go_loopw [4,11] (fun s i wr=>∃(c n3:Nat) (q3:Option Addr) (c3:Nat),c<=n/\i=.int .i64 c/\s=.slice q3 n3 c3/\Hid (n3=c)/\Hid (∀i,i<c->bdT (bs i)=some (G i))/\Hid (OwS wr w.heap.size (.slice q3 n3 c3) ((List.range c).map G))/\Below w.heap.size w wr) (fun _ i _=>n - (intOf i).toNat)
 case atStart=>exact⟨0,0,none,0,Nat.zero_le _,rfl,rfl,rfl,fun i hi=>absurd hi (Nat.not_lt_zero _),OwS.nil _ _,Below.refl _ _⟩
 case round=>
  obtain⟨c,n3,q3,c3,hc,rfl,rfl,hn3,aB,hB,hbw⟩:=hrel
  have hws:=hbw.size
  by_cases hlt:c<n
  ·have bR:(c:Int)<(n:Int):=by omega
   obtain⟨b,o,hq,hb,ds,hd⟩:=h'.out.2.resolve_left (by omega)
   subst hq
   obtain⟨hva,hpt⟩:=hd c hlt
   obtain⟨x0,x1,x2,x3,x4,x5,x6,x7⟩:=hva.below hbw hb
   have hpc:=hp'.out c hlt
   have hGc:Hid (G c=(bdT (bs c)).getD []):=hG'.out c
   clear hd hva
   obtain⟨p,hpp⟩:∃p,Hid (bs c=p):=⟨_,rfl⟩
   have fU:Hid (G c=(bdT p).getD []):=by rw[<-hpp.out];exact hGc.out
   rw[hpp.out] at hpt hpc
   obtain⟨e1,s1⟩:=hpt
   generalize ds c=d at*
   obtain⟨dm,k,f,ng,aq,an,ac,cq,cn,cc,m,sq,sn,sc⟩:=d
   unfold Bi.nd at s1
   simp only at e1 s1 x0 x1 x2 x3 x4 x5 x6 x7
   subst e1
   have b1:=hbw.trans ((zaa wr (.cells #[.string p.m,.int .i64 k,.int .i64 f,.bool ng,.slice aq an ac,.slice cq cn cc,.string m,.slice sq sn sc] 71)).mono hws)
   have c1:(wr.alloc (.cells #[.string p.m,.int .i64 k,.int .i64 f,.bool ng,.slice aq an ac,.slice cq cn cc,.string m,.slice sq sn sc] 71)).heap[wr.heap.size]?=some (.cells #[.string p.m,.int .i64 k,.int .i64 f,.bool ng,.slice aq an ac,.slice cq cn cc,.string m,.slice sq sn sc] 71 (0,0)):=heap_alloc_new wr _
   have hf:=zhg (s1.below b1) (hT'.out.below b1) (bE.out.below b1) hpc.1
   unfold Nd.val at hf
   simp only at hf
   have hB1:Hid (OwS (wr.alloc (.cells #[.string p.m,.int .i64 k,.int .i64 f,.bool ng,.slice aq an ac,.slice cq cn cc,.string m,.slice sq sn sc] 71)) w.heap.size (.slice q3 n3 c3) ((List.range c).map G)):=hB.out.below (zaa _ _)
   have hms:=hpc.2
   obtain⟨z0,z1,z2,z3,z4,z5,z6,z7⟩:=cells8 c1
   clear hB s1 hpc
   cases hpr:prT p.x with
   | none=>
    have hbn:bdT p=none:=by unfold bdT;rw[hpr];rfl
    rw[hpr] at hf
    simp only[Option.map_none,resT] at hf
    have hR0:R=none:=by
     rw[<-hR.out]
     unfold argsT
     rw[ze8 (F:=fun i=>bdT (bs i)) hlt (by show bdT (bs c)=none;rw[hpp.out];exact hbn)]
     rfl
    subst hR0
    clear hpr hbn
    go_wp2_with (go_at_call 94;refine hf.mono ?_;rintro e w2 ⟨rfl,hb2⟩)
    go_ret2
    exact⟨rfl,b1.trans (hb2.mono b1.size)⟩
   | some u=>
    have hbs:Hid (bdT p=some (p.m.toList++61::123::(u++[125]))):=by show bdT p=_;unfold bdT;rw[hpr];rfl
    have hul:=ze9 hpr
    rw[hpr] at hf
    simp only[Option.map_some,resT] at hf
    clear hpr
    go_wp2_with (first
     | (go_at_call 94;refine hf.mono ?_;rintro e w2 ⟨rfl,hb2⟩
        have y0:w2.cell? ⟨wr.heap.size,0,none⟩=some (.string p.m):=(hb2.cell (by show wr.heap.size<_;simp)).trans z0
        have af:=(hB1.out.below hb2).row (n:=n3) (by rw[hn3.out];simp)
        have B2:=b1.trans (hb2.mono b1.size)
        have hs2:=B2.size
        have jh:n3<=6:=by have:=hn3.out;omega
        clear z0 z1 z2 z3 z4 z5 z6 z7 x0 x1 x2 x3 x4 x5 x6 x7 hf)
     | (at_builtin;refine wpList_append_own _ rfl _ _ 109 rfl w.heap.size 9 i0 (.string ⟨#[]⟩) 1 16 Tryz.underlying109 hi hz0 hz1 hz2 rfl (by decide) _ _ _ rfl (af.alloc _) ⟨w2.heap.size,0,none⟩ 1 1 [.string (p.m++⟨#[61]⟩++⟨(123::(u++[125])).toArray⟩)] rfl rfl (World.news_of_block (heap_alloc_last w2 (.cells #[.string (p.m++⟨#[61]⟩++⟨(123::(u++[125])).toArray⟩)] 9))) (ziq _) (by unfold maxLen;omega) (by omega) (by simp;omega) ?_;intro v' w3 bL dr _;obtain⟨q',c',rfl⟩:=zbr bL))
    go_roundw
    case rel=>
     have hGv:G c=p.m.toList++61::123::(u++[125]):=by rw[fU.out,hbs.out];rfl
     refine⟨c+1,n3+1,q',c',by omega,by go_num,rfl,by show n3+1=c+1;rw[hn3.out],?_,?_,(B2.alloc hs2 _).grown dr (by simp;omega) (fun k hk=>(af.lt k hk).1)⟩
     ·intro i hi
      rcases Nat.lt_or_ge i c with h1 | h1
      ·exact aB.out i h1
      ·have:i=c:=by omega
       subst this
       rw[hpp.out,hbs.out,hGv]
     ·show OwS _ _ _ _
      rw[zea]
      refine OwS.snoc (n:=n3) ?_ (by rw[hn3.out];simp)
      have hv:Value.string (p.m++⟨#[61]⟩++⟨(123::(u++[125])).toArray⟩)=.string ⟨(p.m.toList++61::123::(u++[125])).toArray⟩:=zbf (by simp[ByteArray.toList_eq])
      rw[hv] at bL
      rw[hGv]
      exact bL
    case measure=>simp[intOf];omega
  ·obtain rfl:c=n:=by omega
   have hGl:∀i,i<c->(G i).length<=4020:=fun i hi=>zit (aB.out i hi) (hp'.out i hi).2
   have hsl:=zcp hGl
   have hj:=zir hB.out [44,32] (by simp;omega) (by rw[zdv];omega)
   rw[zdv] at hj
   have hR1:R=some (91::(sepT G c++[93])):=by
    rw[<-hR.out]
    unfold argsT
    rw[zdw aB.out]
    rfl
   subst hR1
   go_wp2_with (go_at_call 49;refine hj.mono ?_;rintro e w2 ⟨rfl,hb2⟩)
   go_ret2
   exact⟨zdm (by simp),hbw.trans (hb2.mono hws)⟩
end Go.Proofs.YtnnhofmknilopaaGreatDoor
