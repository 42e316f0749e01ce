import Derived.Test.YtnnhofmknilopaaGreatDoorPk27
namespace Go.Proofs.YtnnhofmknilopaaGreatDoor
open Go Go.RowKit
set_option maxRecDepth 100000
set_option maxHeartbeats 16000000
theorem zmu {w:World} {q:Option Addr} {n cap:Nat} {ps:Nat->Pt} (h:PtsOk w q n ps) (hn:n<=6) (hp:PtsPr n ps):
  Calls Tryz.prog 107 #[.slice q n cap] w (Rt w (.string ⟨(pointT n ps).toArray⟩)):=by
 have h':=zab h
 have hp':=zab hp
 have hpl:Hid (∀i,i<n->(ptT (ps i)).length<=1245):=fun i hi=>zis (hp i hi)
 have hsb:Hid (∀c,c<=n->(sepT (fun i=>ptT (ps i)) c).length<=8000):=fun c hc=>by
  have:=zcp (G:=fun i=>ptT (ps i)) (n:=c) (L:=1245) fun i hi=>hpl.out i (by omega)
  omega
 unfold pointT
 clear h hp
 go_enter Tryz.func107,Tryz.ntmps107
 go_wp2
 go_loopw [3,8] (fun s i wr=>∃c:Nat,c<=n/\i=.int .i64 c/\s=.string ⟨(91::sepT (fun i=>ptT (ps i)) c).toArray⟩/\Below w.heap.size w wr) (fun _ i _=>n - (intOf i).toNat)
 case atStart=>exact⟨0,Nat.zero_le _,rfl,zbf (by simp[sepT]),Below.refl _ _⟩
 case round=>
  obtain⟨c,hc,rfl,rfl,hbw⟩:=hrel
  have hws:=hbw.size
  have hsc:=hsb.out c hc
  by_cases hlt:c<n
  ·have bR:(c:Int)<(n:Int):=by omega
   obtain⟨b,o,hq,hb,ds,hd⟩:=h'.out.2.resolve_left (by omega)
   subst hq
   obtain⟨hva,hpt⟩:=hd c hlt
   obtain⟨x0,x1,x2,x3⟩:=hva.below hbw hb
   have hpc:=hp'.out c hlt
   have fT:=hpl.out c hlt
   clear hd hva
   have aa:sepT (fun i=>ptT (ps i)) (c+1)=(if c=0 then [] else sepT (fun i=>ptT (ps i)) c++[44,32])++ptT (ps c):=rfl
   obtain⟨p,hpp⟩:∃p,Hid (ps c=p):=⟨_,rfl⟩
   rw[hpp.out] at hpt hpc fT
   obtain⟨e1,e2,s1,s2,l1,l2⟩:=hpt
   generalize ds c=d at*
   obtain⟨dm,dg,daq,dan,dac,dcq,dcn,dcc⟩:=d
   simp only at e1 e2 s1 s2 x0 x1 x2 x3
   subst e1 e2
   obtain⟨_,_,f1⟩:=s1.form
   obtain⟨_,_,f2⟩:=s2.form
   simp only[Value.slice.injEq] at f1 f2
   obtain⟨rfl,rfl,rfl⟩:=f1
   obtain⟨rfl,rfl,rfl⟩:=f2
   have b1:=hbw.trans ((zaa wr (.cells #[.string p.m,.bool p.g,.slice daq p.nu.length dac,.slice dcq p.de.length dcc] 68)).mono hws)
   have b1':=zab b1
   have c1:(wr.alloc (.cells #[.string p.m,.bool p.g,.slice daq p.nu.length dac,.slice dcq p.de.length dcc] 68)).heap[wr.heap.size]?=some (.cells #[.string p.m,.bool p.g,.slice daq p.nu.length dac,.slice dcq p.de.length dcc] 68 (0,0)):=heap_alloc_new wr _
   have hof:=zfa (g:=p.g) (s1.below b1.drew) (s2.below b1.drew) (by omega) (by omega)
   have b9:=zct hpc.1
   have hd1:1<=mkD (val p.nu) (denI (val p.de)):=zga (zae s1.1) (by have:=zae s2.1;unfold denI;split<;>omega)
   have hnl:=zdn (g:=p.g) hpc.1
   have et:ptT p=p.m.toList++61::numT p.g (val p.nu) (val p.de):=rfl
   have hms:=hpc.2
   unfold numT at hnl et
   obtain⟨z0,z1,z2,z3⟩:=zfz c1
   have hsz:(wr.alloc (.cells #[.string p.m,.bool p.g,.slice daq p.nu.length dac,.slice dcq p.de.length dcc] 68)).heap.size=wr.heap.size+1:=by simp
   clear s1 s2 l1 l2 hpc b1 c1
   have q3:¬9223372036854775807<p.m.size+1:=by omega
   have q8:∀k,k<=1236->¬9223372036854775807<p.m.size+1+k:=fun k h=>by omega
   have q9:∀a k,a<=8000->k<=1236->¬9223372036854775807<a+1+(p.m.size+1+k):=fun a k h h2=>by omega
   have q0:∀a k,a<=8000->k<=1236->¬9223372036854775807<a+1+2+(p.m.size+1+k):=fun a k h h2=>by omega
   by_cases h0:c=0
   ·subst h0
    rw[if_pos rfl] at aa
    simp only[Nat.zero_mul,Nat.add_zero] at x0 x1 x2 x3
    go_upto_region 7 with fail
    generalize (wr.alloc (.cells #[.string p.m,.bool p.g,.slice daq p.nu.length dac,.slice dcq p.de.length dcc] 68))=W at*
    go_wp2_with fail
    go_region_held3 (fun z=>z.cell? ⟨wr.heap.size,0,none⟩=some (.string p.m)/\z.cell? ⟨wr.heap.size,1,none⟩=some (.bool p.g)/\z.cell? ⟨wr.heap.size,2,none⟩=some (.slice daq p.nu.length dac)/\z.cell? ⟨wr.heap.size,3,none⟩=some (.slice dcq p.de.length dcc))
     (first | exact⟨z0,z1,z2,z3⟩ | exact hS5 | exact hS6)
     (first
       | (go_at_call 106;with_reducible refine hof.mono ?_;rintro e w5 ⟨v,rfl,hQ,hb5⟩
          have ht:=zcz hQ hd1 b9.1 b9.2
          have hs:W.drew.heap.size=wr.heap.size+1:=hsz
          have hS5:w5.cell? ⟨wr.heap.size,0,none⟩=some (.string p.m)/\w5.cell? ⟨wr.heap.size,1,none⟩=some (.bool p.g)/\w5.cell? ⟨wr.heap.size,2,none⟩=some (.slice daq p.nu.length dac)/\w5.cell? ⟨wr.heap.size,3,none⟩=some (.slice dcq p.de.length dcc):=by
           have k2:wr.heap.size<W.drew.heap.size:=by omega
           exact⟨(hb5.cell (by exact k2)).trans z0,(hb5.cell (by exact k2)).trans z1,(hb5.cell (by exact k2)).trans z2,(hb5.cell (by exact k2)).trans z3⟩)
       | (go_at_call 105;refine ht.mono ?_;rintro e w6 ⟨rfl,hb6⟩
          have hS6:w6.cell? ⟨wr.heap.size,0,none⟩=some (.string p.m)/\w6.cell? ⟨wr.heap.size,1,none⟩=some (.bool p.g)/\w6.cell? ⟨wr.heap.size,2,none⟩=some (.slice daq p.nu.length dac)/\w6.cell? ⟨wr.heap.size,3,none⟩=some (.slice dcq p.de.length dcc):=by
           have k0:=hb5.size
           have k2:wr.heap.size<w5.heap.size:=by omega
           obtain⟨a0,a1,a2,a3⟩:=hS5
           exact⟨(hb6.cell (by exact k2)).trans a0,(hb6.cell (by exact k2)).trans a1,(hb6.cell (by exact k2)).trans a2,(hb6.cell (by exact k2)).trans a3⟩))
    all_goals
     go_wp2_with fail
     go_roundw
     case rel=>
      have bj:Below w.heap.size w w5:=b1'.out.drew.trans (hb5.mono b1'.out.drew.size)
      exact⟨1,by omega,by go_num,zbf (by rw[aa,hpp.out,et];simp[ByteArray.toList_eq,sepT]),bj.trans (hb6.mono bj.size)⟩
     case measure=>simp[intOf];omega
   ·have h0':(c:Int) > 0:=by omega
    rw[if_neg h0] at aa
    go_upto_region 7 with fail
    generalize (wr.alloc (.cells #[.string p.m,.bool p.g,.slice daq p.nu.length dac,.slice dcq p.de.length dcc] 68))=W at*
    go_wp2_with fail
    go_region_held3 (fun z=>z.cell? ⟨wr.heap.size,0,none⟩=some (.string p.m)/\z.cell? ⟨wr.heap.size,1,none⟩=some (.bool p.g)/\z.cell? ⟨wr.heap.size,2,none⟩=some (.slice daq p.nu.length dac)/\z.cell? ⟨wr.heap.size,3,none⟩=some (.slice dcq p.de.length dcc))
     (first | exact⟨z0,z1,z2,z3⟩ | exact hS5 | exact hS6)
     (first
       | (go_at_call 106;with_reducible refine hof.mono ?_;rintro e w5 ⟨v,rfl,hQ,hb5⟩
          have ht:=zcz hQ hd1 b9.1 b9.2
          have hs:W.drew.heap.size=wr.heap.size+1:=hsz
          have hS5:w5.cell? ⟨wr.heap.size,0,none⟩=some (.string p.m)/\w5.cell? ⟨wr.heap.size,1,none⟩=some (.bool p.g)/\w5.cell? ⟨wr.heap.size,2,none⟩=some (.slice daq p.nu.length dac)/\w5.cell? ⟨wr.heap.size,3,none⟩=some (.slice dcq p.de.length dcc):=by
           have k2:wr.heap.size<W.drew.heap.size:=by omega
           exact⟨(hb5.cell (by exact k2)).trans z0,(hb5.cell (by exact k2)).trans z1,(hb5.cell (by exact k2)).trans z2,(hb5.cell (by exact k2)).trans z3⟩)
       | (go_at_call 105;refine ht.mono ?_;rintro e w6 ⟨rfl,hb6⟩
          have hS6:w6.cell? ⟨wr.heap.size,0,none⟩=some (.string p.m)/\w6.cell? ⟨wr.heap.size,1,none⟩=some (.bool p.g)/\w6.cell? ⟨wr.heap.size,2,none⟩=some (.slice daq p.nu.length dac)/\w6.cell? ⟨wr.heap.size,3,none⟩=some (.slice dcq p.de.length dcc):=by
           have k0:=hb5.size
           have k2:wr.heap.size<w5.heap.size:=by omega
           obtain⟨a0,a1,a2,a3⟩:=hS5
           exact⟨(hb6.cell (by exact k2)).trans a0,(hb6.cell (by exact k2)).trans a1,(hb6.cell (by exact k2)).trans a2,(hb6.cell (by exact k2)).trans a3⟩))
    all_goals
     go_wp2_with fail
     go_roundw
     case rel=>
      have bj:Below w.heap.size w w5:=b1'.out.drew.trans (hb5.mono b1'.out.drew.size)
      exact⟨c+1,by omega,by go_num,zbf (by rw[aa,hpp.out,et];simp[ByteArray.toList_eq]),bj.trans (hb6.mono bj.size)⟩
     case measure=>simp[intOf];omega
  ·obtain rfl:c=n:=by omega
   go_wp2
   go_ret
   exact⟨zel (by simp),hbw⟩
theorem argsQ_ok {w:World} {q:Option Addr} {n cap:Nat} {bs:Nat->Bd} (h:BdsOk w q n bs) (hn:n<=6) (hp:BdsPr n bs):
  Calls Tryz.prog 108 #[.slice q n cap] w (Rt w (resB (argsT n bs))):=by
 have h':=zab h
 have hp':=zab hp
 obtain⟨R,hR⟩:∃R,Hid (argsT n bs=R):=⟨_,rfl⟩
 rw[hR.out]
 obtain⟨G,hG⟩:∃G:Nat->List UInt8,∀i,G i=(bdT (bs i)).getD []:=⟨_,fun _=>rfl⟩
 have hG':=zab hG
 clear h hp hG
 go_enter Tryz.func108,Tryz.ntmps108
 go_wp2
 go_loopw [4,11] (fun s i wr=>∃c:Nat,c<=n/\i=.int .i64 c/\s=.string ⟨(91::sepT G c).toArray⟩/\Hid (∀i,i<c->bdT (bs i)=some (G i))/\Below w.heap.size w wr) (fun _ i _=>n - (intOf i).toNat)
 case atStart=>exact⟨0,Nat.zero_le _,rfl,zbf (by simp[sepT]),fun i hi=>absurd hi (Nat.not_lt_zero _),Below.refl _ _⟩
 case round=>
  obtain⟨c,hc,rfl,rfl,aB,hbw⟩:=hrel
  have hws:=hbw.size
  have hsl:(sepT G c).length<=30000:=by
   have:=zcp (G:=G) (n:=c) (L:=4020) fun i hi=>zit (aB.out i hi) (hp'.out i (by omega)).2
   omega
  by_cases hlt:c<n
  ·have bR:(c:Int)<(n:Int):=by omega
   obtain⟨b,o,hq,hb,ds,hd⟩:=h'.out.2.resolve_left (by omega)
   subst hq
   obtain⟨hva,hpt⟩:=hd c hlt
   obtain⟨x0,x1,x2,x3,x4,x5,x6,x7⟩:=hva.below hbw hb
   have hpc:=hp'.out c hlt
   have hGc:Hid (G c=(bdT (bs c)).getD []):=hG'.out c
   clear hd hva
   have aa:sepT G (c+1)=(if c=0 then [] else sepT G c++[44,32])++G c:=rfl
   obtain⟨p,hpp⟩:∃p,Hid (bs c=p):=⟨_,rfl⟩
   have fU:Hid (G c=(bdT p).getD []):=by rw[<-hpp.out];exact hGc.out
   rw[hpp.out] at hpt hpc
   obtain⟨e1,s1⟩:=hpt
   generalize ds c=d at*
   obtain⟨dm,k,f,ng,aq,an,ac,cq,cn,cc,m,sq,sn,sc⟩:=d
   unfold Bi.nd at s1
   simp only at e1 s1 x0 x1 x2 x3 x4 x5 x6 x7
   subst e1
   have b1:=hbw.trans ((zaa wr (.cells #[.string p.m,.int .i64 k,.int .i64 f,.bool ng,.slice aq an ac,.slice cq cn cc,.string m,.slice sq sn sc] 71)).mono hws)
   have c1:(wr.alloc (.cells #[.string p.m,.int .i64 k,.int .i64 f,.bool ng,.slice aq an ac,.slice cq cn cc,.string m,.slice sq sn sc] 71)).heap[wr.heap.size]?=some (.cells #[.string p.m,.int .i64 k,.int .i64 f,.bool ng,.slice aq an ac,.slice cq cn cc,.string m,.slice sq sn sc] 71 (0,0)):=heap_alloc_new wr _
   have hf:=zho (s1.below b1) hpc.1
   unfold Nd.val at hf
   simp only at hf
   have hms:=hpc.2
   obtain⟨z0,z1,z2,z3,z4,z5,z6,z7⟩:=cells8 c1
   clear s1 hpc
   cases hpr:prT p.x with
   | none=>
    have hbn:bdT p=none:=by unfold bdT;rw[hpr];rfl
    rw[hpr] at hf
    simp only[resT] at hf
    have hR0:R=none:=by
     rw[<-hR.out]
     unfold argsT
     rw[ze8 (F:=fun i=>bdT (bs i)) hlt (by show bdT (bs c)=none;rw[hpp.out];exact hbn)]
     rfl
    subst hR0
    clear hpr hbn aa
    by_cases h0:c=0
    ·subst h0
     simp only[Nat.zero_mul,Nat.add_zero] at x0 x1 x2 x3 x4 x5 x6 x7
     go_wp2_with (go_at_call 109;refine hf.mono ?_;rintro e w2 ⟨rfl,hb2⟩)
     go_ret2
     exact⟨rfl,b1.trans (hb2.mono b1.size)⟩
    ·have h0':(c:Int) > 0:=by omega
     go_wp2_with (go_at_call 109;refine hf.mono ?_;rintro e w2 ⟨rfl,hb2⟩)
     go_ret2
     exact⟨rfl,b1.trans (hb2.mono b1.size)⟩
   | some u=>
    have hbs:Hid (bdT p=some (p.m.toList++61::123::(u++[125]))):=by show bdT p=_;unfold bdT;rw[hpr];rfl
    have hGv:G c=p.m.toList++61::123::(u++[125]):=by rw[fU.out,hbs.out];rfl
    have hGv:=zab hGv
    have hul:=ze9 hpr
    rw[hpr] at hf
    simp only[resT] at hf
    clear hpr
    by_cases h0:c=0
    ·subst h0
     rw[if_pos rfl] at aa
     have hGv:=hGv.out
     simp only[Nat.zero_mul,Nat.add_zero] at x0 x1 x2 x3 x4 x5 x6 x7
     have eE:=zab hGv
     clear hGv
     go_wp2_with (go_at_call 109;refine hf.mono ?_;rintro e w2 ⟨rfl,hb2⟩
                  have y0:w2.cell? ⟨wr.heap.size,0,none⟩=some (.string p.m):=(hb2.cell (by show wr.heap.size<_;simp)).trans z0
                  have B2:=b1.trans (hb2.mono b1.size)
                  clear z0 z1 z2 z3 z4 z5 z6 z7 x0 x1 x2 x3 x4 x5 x6 x7 hf)
     go_roundw
     case rel=>
      refine⟨1,by omega,by go_num,zbf (by rw[aa,eE.out];simp[ByteArray.toList_eq,sepT]),?_,B2⟩
      intro i hi
      rcases Nat.lt_or_ge i 0 with h1 | h1
      ·exact aB.out i h1
      ·have:i=0:=by omega
       subst this
       rw[hpp.out,hbs.out,eE.out]
     case measure=>simp[intOf];omega
    ·have h0':(c:Int) > 0:=by omega
     rw[if_neg h0] at aa
     have eE:=hGv
     go_wp2_with (go_at_call 109;refine hf.mono ?_;rintro e w2 ⟨rfl,hb2⟩
                  have y0:w2.cell? ⟨wr.heap.size,0,none⟩=some (.string p.m):=(hb2.cell (by show wr.heap.size<_;simp)).trans z0
                  have B2:=b1.trans (hb2.mono b1.size)
                  clear z0 z1 z2 z3 z4 z5 z6 z7 x0 x1 x2 x3 x4 x5 x6 x7 hf)
     go_roundw
     case rel=>
      refine⟨c+1,by omega,by go_num,zbf (by rw[aa,eE.out];simp[ByteArray.toList_eq]),?_,B2⟩
      intro i hi
      rcases Nat.lt_or_ge i c with h1 | h1
      ·exact aB.out i h1
      ·have:i=c:=by omega
       subst this
       rw[hpp.out,hbs.out,eE.out]
     case measure=>simp[intOf];omega
  ·obtain rfl:c=n:=by omega
   have hR1:R=some (91::(sepT G c++[93])):=by
    rw[<-hR.out]
    unfold argsT
    rw[zdw aB.out]
    rfl
   subst hR1
   go_wp2
   go_ret2
   exact⟨zdm (by simp),hbw⟩
def IsB (R:Option (List UInt8)) (v:Value):Prop:=match R with | none=>∃s,v=.tuple #[.string s,.bool false] | some t=>v=.tuple #[.string ⟨t.toArray⟩,.bool true]
theorem zc2 (R:Option (List UInt8)):IsB R (resB R):=by cases R<;>simp[IsB,resB]
def I64 (n:Int):Prop:=-9223372036854775808<=n/\n<=9223372036854775807
structure Sc.wf (s:Sc):Prop where
 kk:I64 s.kk
 nn:I64 s.nn
 pr:I64 s.pr
 ve:I64 s.ve
structure SPr (w:World) (d:Sd) (nu de:List Int) (x:Ex) (ps:Nat->Pt) (bs:Nat->Bd):Prop where
 h1:Sl w (.slice d.aq nu.length d.ac) nu
 h2:Sl w (.slice d.cq de.length d.cc) de
 e1:nu.length=d.an
 e2:de.length=d.cn
 l1:nu.length<=1048576
 l2:de.length<=1048576
 ln:nu.length<=274877906000
 ld:de.length<=274877906000
 hX:ExOk w x d.e
 hP:PtsOk w d.poq d.pon ps
 hB:BdsOk w d.arq d.arn bs
 hL:large (val nu) (val de)=false
 pn:d.pon<=6
 bn:d.arn<=6
 pp:PtsPr d.pon ps
 bp:BdsPr d.arn bs
theorem zmv {w:World} {d:Sd} {nu de:List Int} {x:Ex} {ps:Nat->Pt} {bs:Nat->Bd} (h:SPr w d nu de x ps bs) (hi:d.s.wf) (hT:Tb w) (hTi:Ti w) {j:Nat} (hj:j<11) (hv:letP.getD j 0=101->(x.cnt 1 0).isSome=true):
  Calls Tryz.prog 48 #[.agg (sV d),.int .u8 (letP.getD j 0).toNat] w (Rt w (resT (fieldT d.s (val nu) (val de) x d.pon ps d.arn bs (letP.getD j 0)))):=by
 have b0:Hid (Below w.heap.size w (w.alloc (.cells (sV d) 32))):=zaa w _
 have hT':=zab (hT.below b0.out)
 have bE:=zab (hTi.below b0.out)
 clear hT hTi
 have hj':j=0\/j=1\/j=2\/j=3\/j=4\/j=5\/j=6\/j=7\/j=8\/j=9\/j=10:=by omega
 rcases hj' with rfl | rfl | rfl | rfl | rfl | rfl | rfl | rfl | rfl | rfl | rfl
 ·rw[show letP.getD 0 0=(120:UInt8) from rfl]
  rw[show letP.getD 0 0=(120:UInt8) from rfl] at hv
  show Calls Tryz.prog 48 #[.agg (sV d),.int .u8 120] w _
  rw[show fieldT d.s (val nu) (val de) x d.pon ps d.arn bs 120=some d.s.nm.toList from rfl]
  simp only[resT,zbx]
  go_enter Tryz.func48,Tryz.ntmps48
  go_wp2
  go_ret2
  exact⟨rfl,b0.out⟩
 ·rw[show letP.getD 1 0=(121:UInt8) from rfl]
  rw[show letP.getD 1 0=(121:UInt8) from rfl] at hv
  show Calls Tryz.prog 48 #[.agg (sV d),.int .u8 121] w _
  rw[show fieldT d.s (val nu) (val de) x d.pon ps d.arn bs 121=some d.s.ot.toList from rfl]
  simp only[resT,zbx]
  go_enter Tryz.func48,Tryz.ntmps48
  go_wp2
  go_ret2
  exact⟨rfl,b0.out⟩
 ·rw[show letP.getD 2 0=(97:UInt8) from rfl]
  rw[show letP.getD 2 0=(97:UInt8) from rfl] at hv
  show Calls Tryz.prog 48 #[.agg (sV d),.int .u8 97] w _
  rw[show fieldT d.s (val nu) (val de) x d.pon ps d.arn bs 97=some (numT d.s.g (val nu) (val de)) from rfl]
  have hc:=ze0 (g:=d.s.g) (h.h1.below b0.out) (h.h2.below b0.out) h.ln h.ld (hT'.out) h.hL
  rw[h.e1,h.e2] at hc
  go_enter Tryz.func48,Tryz.ntmps48
  go_wp2_with (go_at_call 93;refine hc.mono ?_;rintro e w1 ⟨rfl,hb1⟩)
  go_ret2
  exact⟨rfl,b0.out.trans (hb1.mono b0.out.size)⟩
 ·rw[show letP.getD 3 0=(107:UInt8) from rfl]
  rw[show letP.getD 3 0=(107:UInt8) from rfl] at hv
  show Calls Tryz.prog 48 #[.agg (sV d),.int .u8 107] w _
  rw[show fieldT d.s (val nu) (val de) x d.pon ps d.arn bs 107=some (Lib.itoa d.s.kk) from rfl]
  have hc:=zc5 d.s.kk hi.kk.1 hi.kk.2 _ bE.out
  go_enter Tryz.func48,Tryz.ntmps48
  go_wp2_with (go_at_call 47;refine hc.mono ?_;rintro e w1 ⟨rfl,hb1⟩)
  go_ret2
  exact⟨rfl,b0.out.trans (hb1.mono b0.out.size)⟩
 ·rw[show letP.getD 4 0=(110:UInt8) from rfl]
  rw[show letP.getD 4 0=(110:UInt8) from rfl] at hv
  show Calls Tryz.prog 48 #[.agg (sV d),.int .u8 110] w _
  rw[show fieldT d.s (val nu) (val de) x d.pon ps d.arn bs 110=some (Lib.itoa d.s.nn) from rfl]
  have hc:=zc5 d.s.nn hi.nn.1 hi.nn.2 _ bE.out
  go_enter Tryz.func48,Tryz.ntmps48
  go_wp2_with (go_at_call 47;refine hc.mono ?_;rintro e w1 ⟨rfl,hb1⟩)
  go_ret2
  exact⟨rfl,b0.out.trans (hb1.mono b0.out.size)⟩
 ·rw[show letP.getD 5 0=(112:UInt8) from rfl]
  rw[show letP.getD 5 0=(112:UInt8) from rfl] at hv
  show Calls Tryz.prog 48 #[.agg (sV d),.int .u8 112] w _
  rw[show fieldT d.s (val nu) (val de) x d.pon ps d.arn bs 112=some (Lib.itoa d.s.pr) from rfl]
  have hc:=zc5 d.s.pr hi.pr.1 hi.pr.2 _ bE.out
  go_enter Tryz.func48,Tryz.ntmps48
  go_wp2_with (go_at_call 47;refine hc.mono ?_;rintro e w1 ⟨rfl,hb1⟩)
  go_ret2
  exact⟨rfl,b0.out.trans (hb1.mono b0.out.size)⟩
 ·rw[show letP.getD 6 0=(101:UInt8) from rfl]
  rw[show letP.getD 6 0=(101:UInt8) from rfl] at hv
  show Calls Tryz.prog 48 #[.agg (sV d),.int .u8 101] w _
  rw[show fieldT d.s (val nu) (val de) x d.pon ps d.arn bs 101=(prT x).map (fun t=>123::(t++[125])) from rfl]
  have hc:=zhg (h.hX.below b0.out) (hT'.out) (bE.out) (hv rfl)
  unfold Nd.val at hc
  generalize (prT x).map (fun t=>123::(t++[125]))=R at*
  cases R<;>simp only[resT] at hc ⊢
  all_goals
   go_enter Tryz.func48,Tryz.ntmps48
   go_wp2_with (go_at_call 94;refine hc.mono ?_;rintro e w1 ⟨rfl,hb1⟩)
   go_ret2
   exact⟨rfl,b0.out.trans (hb1.mono b0.out.size)⟩
 ·rw[show letP.getD 7 0=(113:UInt8) from rfl]
  rw[show letP.getD 7 0=(113:UInt8) from rfl] at hv
  show Calls Tryz.prog 48 #[.agg (sV d),.int .u8 113] w _
  rw[show fieldT d.s (val nu) (val de) x d.pon ps d.arn bs 113=some (pointT d.pon ps) from rfl]
  have hc:=zms (cap:=d.poc) (h.hP.below b0.out) h.pn h.pp (hT'.out)
  go_enter Tryz.func48,Tryz.ntmps48
  go_wp2_with (go_at_call 95;refine hc.mono ?_;rintro e w1 ⟨rfl,hb1⟩)
  go_ret2
  exact⟨rfl,b0.out.trans (hb1.mono b0.out.size)⟩
 ·rw[show letP.getD 8 0=(108:UInt8) from rfl]
  rw[show letP.getD 8 0=(108:UInt8) from rfl] at hv
  show Calls Tryz.prog 48 #[.agg (sV d),.int .u8 108] w _
  rw[show fieldT d.s (val nu) (val de) x d.pon ps d.arn bs 108=some d.s.en.toList from rfl]
  simp only[resT,zbx]
  go_enter Tryz.func48,Tryz.ntmps48
  go_wp2
  go_ret2
  exact⟨rfl,b0.out⟩
 ·rw[show letP.getD 9 0=(118:UInt8) from rfl]
  rw[show letP.getD 9 0=(118:UInt8) from rfl] at hv
  show Calls Tryz.prog 48 #[.agg (sV d),.int .u8 118] w _
  rw[show fieldT d.s (val nu) (val de) x d.pon ps d.arn bs 118=some (Lib.itoa d.s.ve) from rfl]
  have hc:=zc5 d.s.ve hi.ve.1 hi.ve.2 _ bE.out
  go_enter Tryz.func48,Tryz.ntmps48
  go_wp2_with (go_at_call 47;refine hc.mono ?_;rintro e w1 ⟨rfl,hb1⟩)
  go_ret2
  exact⟨rfl,b0.out.trans (hb1.mono b0.out.size)⟩
 ·rw[show letP.getD 10 0=(98:UInt8) from rfl]
  rw[show letP.getD 10 0=(98:UInt8) from rfl] at hv
  show Calls Tryz.prog 48 #[.agg (sV d),.int .u8 98] w _
  rw[show fieldT d.s (val nu) (val de) x d.pon ps d.arn bs 98=argsT d.arn bs from rfl]
  have hc:=argsP_ok (cap:=d.arc) (h.hB.below b0.out) h.bn h.bp (hT'.out) (bE.out)
  generalize argsT d.arn bs=R at*
  cases R<;>simp only[resT] at hc ⊢
  all_goals
   go_enter Tryz.func48,Tryz.ntmps48
   go_wp2_with (go_at_call 96;refine hc.mono ?_;rintro e w1 ⟨rfl,hb1⟩)
   go_ret2
   exact⟨rfl,b0.out.trans (hb1.mono b0.out.size)⟩
theorem zmw {w:World} {d:Sd} {nu de:List Int} {x:Ex} {ps:Nat->Pt} {bs:Nat->Bd} (h:SPr w d nu de x ps bs) (hi:d.s.wf) {j:Nat} (hj:j<11) (hv:letP.getD j 0=101->(x.cnt 1 0).isSome=true):
  Calls Tryz.prog 58 #[.agg (sV d),.int .u8 (letQ.getD j 0).toNat] w fun e w'=>(∃v,e=.returned v/\IsB (fieldT d.s (val nu) (val de) x d.pon ps d.arn bs (letP.getD j 0)) v)/\Below w.heap.size w w':=by
 have b0:Hid (Below w.heap.size w (w.alloc (.cells (sV d) 32))):=zaa w _
 have hj':j=0\/j=1\/j=2\/j=3\/j=4\/j=5\/j=6\/j=7\/j=8\/j=9\/j=10:=by omega
 rcases hj' with rfl | rfl | rfl | rfl | rfl | rfl | rfl | rfl | rfl | rfl | rfl
 ·rw[show letP.getD 0 0=(120:UInt8) from rfl,show letQ.getD 0 0=(110:UInt8) from rfl]
  rw[show letP.getD 0 0=(120:UInt8) from rfl] at hv
  show Calls Tryz.prog 58 #[.agg (sV d),.int .u8 110] w _
  refine Calls.mono (R:=(Rt w (resB (fieldT d.s (val nu) (val de) x d.pon ps d.arn bs 120)))) ?_ (fun e w' ⟨h1,h2⟩=>⟨⟨_,h1,zc2 _⟩,h2⟩)
  rw[show fieldT d.s (val nu) (val de) x d.pon ps d.arn bs 120=some d.s.nm.toList from rfl]
  simp only[resB,zbx]
  go_enter Tryz.func58,Tryz.ntmps58
  go_wp2
  go_ret2
  exact⟨rfl,b0.out⟩
 ·rw[show letP.getD 1 0=(121:UInt8) from rfl,show letQ.getD 1 0=(111:UInt8) from rfl]
  rw[show letP.getD 1 0=(121:UInt8) from rfl] at hv
  show Calls Tryz.prog 58 #[.agg (sV d),.int .u8 111] w _
  refine Calls.mono (R:=(Rt w (resB (fieldT d.s (val nu) (val de) x d.pon ps d.arn bs 121)))) ?_ (fun e w' ⟨h1,h2⟩=>⟨⟨_,h1,zc2 _⟩,h2⟩)
  rw[show fieldT d.s (val nu) (val de) x d.pon ps d.arn bs 121=some d.s.ot.toList from rfl]
  simp only[resB,zbx]
  go_enter Tryz.func58,Tryz.ntmps58
  go_wp2
  go_ret2
  exact⟨rfl,b0.out⟩
 ·rw[show letP.getD 2 0=(97:UInt8) from rfl,show letQ.getD 2 0=(97:UInt8) from rfl]
  rw[show letP.getD 2 0=(97:UInt8) from rfl] at hv
  show Calls Tryz.prog 58 #[.agg (sV d),.int .u8 97] w _
  refine Calls.mono (R:=(Rt w (resB (fieldT d.s (val nu) (val de) x d.pon ps d.arn bs 97)))) ?_ (fun e w' ⟨h1,h2⟩=>⟨⟨_,h1,zc2 _⟩,h2⟩)
  rw[show fieldT d.s (val nu) (val de) x d.pon ps d.arn bs 97=some (numT d.s.g (val nu) (val de)) from rfl]
  have hc:=zfa (g:=d.s.g) (h.h1.below b0.out) (h.h2.below b0.out) (by have:=h.ln;have:=h.l1;omega) (by have:=h.ld;have:=h.l2;omega)
  rw[h.e1,h.e2] at hc
  have hlt:=zct h.hL
  have hd1:1<=mkD (val nu) (denI (val de)):=zga (zae h.h1.1) (by have:=zae h.h2.1;unfold denI;split<;>omega)
  unfold numT
  go_enter Tryz.func58,Tryz.ntmps58
  go_wp2_with (first
   | (go_at_call 106;refine hc.mono ?_;rintro e w1 ⟨v,rfl,hQ,hb1⟩
      have ht:=zcz hQ hd1 hlt.1 hlt.2
      have B1:=b0.out.trans (hb1.mono b0.out.size)
      clear hc)
   | (go_at_call 105;refine ht.mono ?_;rintro e w2 ⟨rfl,hb2⟩))
  go_ret2
  exact⟨rfl,B1.trans (hb2.mono B1.size)⟩
 ·rw[show letP.getD 3 0=(107:UInt8) from rfl,show letQ.getD 3 0=(107:UInt8) from rfl]
  rw[show letP.getD 3 0=(107:UInt8) from rfl] at hv
  show Calls Tryz.prog 58 #[.agg (sV d),.int .u8 107] w _
  refine Calls.mono (R:=(Rt w (resB (fieldT d.s (val nu) (val de) x d.pon ps d.arn bs 107)))) ?_ (fun e w' ⟨h1,h2⟩=>⟨⟨_,h1,zc2 _⟩,h2⟩)
  rw[show fieldT d.s (val nu) (val de) x d.pon ps d.arn bs 107=some (Lib.itoa d.s.kk) from rfl]
  have hc:=zb0 (w.alloc (.cells (sV d) 32)) d.s.kk hi.kk.1 hi.kk.2
  go_enter Tryz.func58,Tryz.ntmps58
  go_wp2_with (go_at_call 57;refine hc.mono ?_;rintro e w1 ⟨rfl,hb1⟩)
  go_ret2
  exact⟨rfl,b0.out.trans (hb1.mono b0.out.size)⟩
 ·rw[show letP.getD 4 0=(110:UInt8) from rfl,show letQ.getD 4 0=(99:UInt8) from rfl]
  rw[show letP.getD 4 0=(110:UInt8) from rfl] at hv
  show Calls Tryz.prog 58 #[.agg (sV d),.int .u8 99] w _
  refine Calls.mono (R:=(Rt w (resB (fieldT d.s (val nu) (val de) x d.pon ps d.arn bs 110)))) ?_ (fun e w' ⟨h1,h2⟩=>⟨⟨_,h1,zc2 _⟩,h2⟩)
  rw[show fieldT d.s (val nu) (val de) x d.pon ps d.arn bs 110=some (Lib.itoa d.s.nn) from rfl]
  have hc:=zb0 (w.alloc (.cells (sV d) 32)) d.s.nn hi.nn.1 hi.nn.2
  go_enter Tryz.func58,Tryz.ntmps58
  go_wp2_with (go_at_call 57;refine hc.mono ?_;rintro e w1 ⟨rfl,hb1⟩)
  go_ret2
  exact⟨rfl,b0.out.trans (hb1.mono b0.out.size)⟩
 ·rw[show letP.getD 5 0=(112:UInt8) from rfl,show letQ.getD 5 0=(112:UInt8) from rfl]
  rw[show letP.getD 5 0=(112:UInt8) from rfl] at hv
  show Calls Tryz.prog 58 #[.agg (sV d),.int .u8 112] w _
  refine Calls.mono (R:=(Rt w (resB (fieldT d.s (val nu) (val de) x d.pon ps d.arn bs 112)))) ?_ (fun e w' ⟨h1,h2⟩=>⟨⟨_,h1,zc2 _⟩,h2⟩)
  rw[show fieldT d.s (val nu) (val de) x d.pon ps d.arn bs 112=some (Lib.itoa d.s.pr) from rfl]
  have hc:=zb0 (w.alloc (.cells (sV d) 32)) d.s.pr hi.pr.1 hi.pr.2
  go_enter Tryz.func58,Tryz.ntmps58
  go_wp2_with (go_at_call 57;refine hc.mono ?_;rintro e w1 ⟨rfl,hb1⟩)
  go_ret2
  exact⟨rfl,b0.out.trans (hb1.mono b0.out.size)⟩
 ·rw[show letP.getD 6 0=(101:UInt8) from rfl,show letQ.getD 6 0=(101:UInt8) from rfl]
  rw[show letP.getD 6 0=(101:UInt8) from rfl] at hv
  show Calls Tryz.prog 58 #[.agg (sV d),.int .u8 101] w _
  rw[show fieldT d.s (val nu) (val de) x d.pon ps d.arn bs 101=(prT x).map (fun t=>123::(t++[125])) from rfl]
  have hc:=zho (h.hX.below b0.out) (hv rfl)
  have hl:∀t,prT x=some t->t.length<=4000:=fun t=>ze9
  unfold Nd.val at hc
  generalize prT x=R at*
  cases R with
  | none=>
   simp only[resT,Option.map_none] at hc ⊢
   go_enter Tryz.func58,Tryz.ntmps58
   go_wp2_with (go_at_call 109;refine hc.mono ?_;rintro e w1 ⟨rfl,hb1⟩)
   go_ret2
   exact⟨⟨_,rfl,_,rfl⟩,b0.out.trans (hb1.mono b0.out.size)⟩
  | some t=>
   have hl:=hl t rfl
   simp only[resT,Option.map_some] at hc ⊢
   go_enter Tryz.func58,Tryz.ntmps58
   go_wp2_with (go_at_call 109;refine hc.mono ?_;rintro e w1 ⟨rfl,hb1⟩)
   go_ret2
   exact⟨⟨_,zdm (by simp),rfl⟩,b0.out.trans (hb1.mono b0.out.size)⟩
 ·rw[show letP.getD 7 0=(113:UInt8) from rfl,show letQ.getD 7 0=(116:UInt8) from rfl]
  rw[show letP.getD 7 0=(113:UInt8) from rfl] at hv
  show Calls Tryz.prog 58 #[.agg (sV d),.int .u8 116] w _
  refine Calls.mono (R:=(Rt w (resB (fieldT d.s (val nu) (val de) x d.pon ps d.arn bs 113)))) ?_ (fun e w' ⟨h1,h2⟩=>⟨⟨_,h1,zc2 _⟩,h2⟩)
  rw[show fieldT d.s (val nu) (val de) x d.pon ps d.arn bs 113=some (pointT d.pon ps) from rfl]
  have hc:=zmu (cap:=d.poc) (h.hP.below b0.out) h.pn h.pp
  go_enter Tryz.func58,Tryz.ntmps58
  go_wp2_with (go_at_call 107;refine hc.mono ?_;rintro e w1 ⟨rfl,hb1⟩)
  go_ret2
  exact⟨rfl,b0.out.trans (hb1.mono b0.out.size)⟩
 ·rw[show letP.getD 8 0=(108:UInt8) from rfl,show letQ.getD 8 0=(121:UInt8) from rfl]
  rw[show letP.getD 8 0=(108:UInt8) from rfl] at hv
  show Calls Tryz.prog 58 #[.agg (sV d),.int .u8 121] w _
  refine Calls.mono (R:=(Rt w (resB (fieldT d.s (val nu) (val de) x d.pon ps d.arn bs 108)))) ?_ (fun e w' ⟨h1,h2⟩=>⟨⟨_,h1,zc2 _⟩,h2⟩)
  rw[show fieldT d.s (val nu) (val de) x d.pon ps d.arn bs 108=some d.s.en.toList from rfl]
  simp only[resB,zbx]
  go_enter Tryz.func58,Tryz.ntmps58
  go_wp2
  go_ret2
  exact⟨rfl,b0.out⟩
 ·rw[show letP.getD 9 0=(118:UInt8) from rfl,show letQ.getD 9 0=(118:UInt8) from rfl]
  rw[show letP.getD 9 0=(118:UInt8) from rfl] at hv
  show Calls Tryz.prog 58 #[.agg (sV d),.int .u8 118] w _
  refine Calls.mono (R:=(Rt w (resB (fieldT d.s (val nu) (val de) x d.pon ps d.arn bs 118)))) ?_ (fun e w' ⟨h1,h2⟩=>⟨⟨_,h1,zc2 _⟩,h2⟩)
  rw[show fieldT d.s (val nu) (val de) x d.pon ps d.arn bs 118=some (Lib.itoa d.s.ve) from rfl]
  have hc:=zb0 (w.alloc (.cells (sV d) 32)) d.s.ve hi.ve.1 hi.ve.2
  go_enter Tryz.func58,Tryz.ntmps58
  go_wp2_with (go_at_call 57;refine hc.mono ?_;rintro e w1 ⟨rfl,hb1⟩)
  go_ret2
  exact⟨rfl,b0.out.trans (hb1.mono b0.out.size)⟩
 ·rw[show letP.getD 10 0=(98:UInt8) from rfl,show letQ.getD 10 0=(98:UInt8) from rfl]
  rw[show letP.getD 10 0=(98:UInt8) from rfl] at hv
  show Calls Tryz.prog 58 #[.agg (sV d),.int .u8 98] w _
  refine Calls.mono (R:=(Rt w (resB (fieldT d.s (val nu) (val de) x d.pon ps d.arn bs 98)))) ?_ (fun e w' ⟨h1,h2⟩=>⟨⟨_,h1,zc2 _⟩,h2⟩)
  rw[show fieldT d.s (val nu) (val de) x d.pon ps d.arn bs 98=argsT d.arn bs from rfl]
  have hc:=argsQ_ok (cap:=d.arc) (h.hB.below b0.out) h.bn h.bp
  generalize argsT d.arn bs=R at*
  cases R<;>simp only[resB] at hc ⊢
  all_goals
   go_enter Tryz.func58,Tryz.ntmps58
   go_wp2_with (go_at_call 108;refine hc.mono ?_;rintro e w1 ⟨rfl,hb1⟩)
   go_ret2
   exact⟨rfl,b0.out.trans (hb1.mono b0.out.size)⟩
end Go.Proofs.YtnnhofmknilopaaGreatDoor
