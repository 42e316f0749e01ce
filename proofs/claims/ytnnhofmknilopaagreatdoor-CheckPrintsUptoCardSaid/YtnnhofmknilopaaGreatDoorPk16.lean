import Derived.Test.YtnnhofmknilopaaGreatDoorPk15
namespace Go.Proofs.YtnnhofmknilopaaGreatDoor
open Go Go.Proofs.YtnnhofmknilopaaGreatDoor.Gx Go.RowKit
set_option maxRecDepth 100000
set_option maxHeartbeats 16000000
theorem zg8 {nu:List Int} (h:Dig nu):decide ((trim nu).length=0)=decide (val nu=0):=by
 have hv:val (trim nu)=val nu:=zbp nu
 refine decide_eq_decide.2 ⟨fun h0=>?_,fun h0=>?_⟩
 ·rw[<-hv,List.eq_nil_of_length_eq_zero h0];rfl
 ·rcases Nat.eq_zero_or_pos (trim nu).length with h1 | h1
  ·exact h1
  ·have:=zby (zdf h) (zal nu) (List.length_pos_iff.1 h1)
   omega
theorem zlq {w:World} {k f:Int} {ng:Bool} {aq cq sq:Option Addr} {ac cc sc n:Nat} {nu de:List Int} {m:ByteArray} (h1:Sl w (.slice aq nu.length ac) nu) (h2:Sl w (.slice cq de.length cc) de) (ln:nu.length<=274877906000) (ld:de.length<=274877906000) (hT:Tb w):
  Calls Tryz.prog 211 #[.agg #[.int .i64 k,.int .i64 f,.bool ng,.slice aq nu.length ac,.slice cq de.length cc,.string m,.slice sq n sc]] w (Rt w (.bool (nodeOk k f ng (val nu) (val de) m n))):=by
 obtain⟨R,hR⟩:∃R,Hid (nodeOk k f ng (val nu) (val de) m n=R):=⟨_,rfl⟩
 rw[hR.out]
 have hb0:Hid (Below w.heap.size w (w.alloc (.cells #[.int .i64 k,.int .i64 f,.bool ng,.slice aq nu.length ac,.slice cq de.length cc,.string m,.slice sq n sc] 27))):=zaa w _
 have htz:Hid _:=zg8 h1.1
 have hx0:=zae h1.1
 have hy0:=zae h2.1
 have hsg:Hid _:=zmm (g:=ng) hx0 hy0
 have hrd:=fun z (hz:Below w.heap.size w z)=>zc7 (g:=ng) (h1.below hz) (h2.below hz) ln ld (hT.below hz)
 obtain⟨u,hu,hk⟩:=zfg h1
 obtain⟨qa,ca,rfl⟩:=hu.form
 have hk:=zab hk
 have cf:=kids_ok k (w.alloc (.cells #[.int .i64 k,.int .i64 f,.bool ng,.slice aq nu.length ac,.slice cq de.length cc,.string m,.slice sq n sc] 27))
 clear h1 h2 hT hu hx0 hy0
 go_enter Tryz.func211,Tryz.ntmps211
 go_upto_block 0 with fail
 go_cut [3,4] from 11 to 16 (fun v3 v4 wx=>v3=.int .i64 (loA k)/\v4=.int .i64 (hiA k)/\wx=(w.alloc (.cells #[.int .i64 k,.int .i64 f,.bool ng,.slice aq nu.length ac,.slice cq de.length cc,.string m,.slice sq n sc] 27)))
 case first=>
  clear cf hrd hk
  by_cases k9:k=9
  ·subst k9
   go_wp2
   go_meet
   case rel=>exact⟨rfl,rfl,rfl⟩
  ·by_cases k10:k=10
   ·subst k10
    go_wp2
    go_meet
    case rel=>exact⟨rfl,rfl,rfl⟩
   ·by_cases k11:k=11
    ·subst k11
     go_wp2
     go_meet
     case rel=>exact⟨rfl,rfl,rfl⟩
    ·have e1:Hid (loA k=0/\hiA k=0):=⟨by simp[loA,k9,k10,k11],by simp[hiA,k9,k10,k11]⟩
     have n9:(k==9)=false:=by simp;omega
     have n10:(k==10)=false:=by simp;omega
     have n11:(k==11)=false:=by simp;omega
     clear k9 k10 k11
     go_wp2
     go_meet
     case rel=>exact⟨by rw[e1.out.1],by rw[e1.out.2],rfl⟩
 case rest=>
  obtain⟨rfl,rfl,hwc⟩:=hcut
  subst wc
  obtain⟨K,hK⟩:∃K,Hid (kidsI k=K):=⟨_,rfl⟩
  obtain⟨lo,hlo⟩:∃K,Hid (loA k=K):=⟨_,rfl⟩
  obtain⟨hi,hhi⟩:∃K,Hid (hiA k=K):=⟨_,rfl⟩
  rw[hlo.out,hhi.out]
  rw[hK.out] at cf
  have KARM:True:=trivial
  by_cases hK0:0<=K
  ·rw[if_neg (by omega),decide_eq_true hK0] at cf
   by_cases hn:(n:Int)=K
   ·have hn':((n:Int) != K)=false:=by simp[hn]
    have hn2:Hid ((n:Int)=K):=hn
    clear hn
    by_cases hf1:f<lo
    ·go_wp2_with (go_at_call 320;with_reducible refine cf.mono ?_;rintro e w2 ⟨rfl,hb2⟩
                  have s2:w.heap.size<(w.alloc (.cells #[.int .i64 k,.int .i64 f,.bool ng,.slice aq nu.length ac,.slice cq de.length cc,.string m,.slice sq n sc] 27)).heap.size:=by simp
                  have x0:w2.cell? ⟨w.heap.size,0,none⟩=some (.int .i64 k):=(hb2.cell (by exact s2)).trans (by simp)
                  have x1:w2.cell? ⟨w.heap.size,1,none⟩=some (.int .i64 f):=(hb2.cell (by exact s2)).trans (by simp)
                  have x2:w2.cell? ⟨w.heap.size,2,none⟩=some (.bool ng):=(hb2.cell (by exact s2)).trans (by simp)
                  have x3:w2.cell? ⟨w.heap.size,3,none⟩=some (.slice aq nu.length ac):=(hb2.cell (by exact s2)).trans (by simp)
                  have x4:w2.cell? ⟨w.heap.size,4,none⟩=some (.slice cq de.length cc):=(hb2.cell (by exact s2)).trans (by simp)
                  have x5:w2.cell? ⟨w.heap.size,5,none⟩=some (.string m):=(hb2.cell (by exact s2)).trans (by simp)
                  have x6:w2.cell? ⟨w.heap.size,6,none⟩=some (.slice sq n sc):=(hb2.cell (by exact s2)).trans (by simp)
                  have hbw:Hid (Below w.heap.size w w2):=hb0.out.trans (hb2.mono hb0.out.size)
                  have hs2:=hb2.size
                  clear hb2)
     go_ret
     exact⟨by rw[<-hR.out];unfold nodeOk;rw[hlo.out,decide_eq_false (by omega:¬lo<=f)];simp,hbw.out⟩
    ·by_cases hf2:f > hi
     ·go_wp2_with (go_at_call 320;with_reducible refine cf.mono ?_;rintro e w2 ⟨rfl,hb2⟩
                   have s2:w.heap.size<(w.alloc (.cells #[.int .i64 k,.int .i64 f,.bool ng,.slice aq nu.length ac,.slice cq de.length cc,.string m,.slice sq n sc] 27)).heap.size:=by simp
                   have x0:w2.cell? ⟨w.heap.size,0,none⟩=some (.int .i64 k):=(hb2.cell (by exact s2)).trans (by simp)
                   have x1:w2.cell? ⟨w.heap.size,1,none⟩=some (.int .i64 f):=(hb2.cell (by exact s2)).trans (by simp)
                   have x2:w2.cell? ⟨w.heap.size,2,none⟩=some (.bool ng):=(hb2.cell (by exact s2)).trans (by simp)
                   have x3:w2.cell? ⟨w.heap.size,3,none⟩=some (.slice aq nu.length ac):=(hb2.cell (by exact s2)).trans (by simp)
                   have x4:w2.cell? ⟨w.heap.size,4,none⟩=some (.slice cq de.length cc):=(hb2.cell (by exact s2)).trans (by simp)
                   have x5:w2.cell? ⟨w.heap.size,5,none⟩=some (.string m):=(hb2.cell (by exact s2)).trans (by simp)
                   have x6:w2.cell? ⟨w.heap.size,6,none⟩=some (.slice sq n sc):=(hb2.cell (by exact s2)).trans (by simp)
                   have hbw:Hid (Below w.heap.size w w2):=hb0.out.trans (hb2.mono hb0.out.size)
                   have hs2:=hb2.size
                   clear hb2)
      go_ret
      exact⟨by rw[<-hR.out];unfold nodeOk;rw[hhi.out,decide_eq_false (by omega:¬f<=hi)];simp,hbw.out⟩
     ·have hA:Hid ((decide (kidsI k=n)&&(decide (loA k<=f)&&decide (f<=hiA k)))=true):=by
       show _=true
       rw[hK.out,hlo.out,hhi.out,decide_eq_true (hn2.out.symm:K=n),decide_eq_true (by omega:lo<=f),decide_eq_true (by omega:f<=hi)]
       rfl
      clear hn2 hlo hhi hK
      go_upto_region 12 with(go_at_call 320;with_reducible refine cf.mono ?_;rintro e w2 ⟨rfl,hb2⟩
                             have s2:w.heap.size<(w.alloc (.cells #[.int .i64 k,.int .i64 f,.bool ng,.slice aq nu.length ac,.slice cq de.length cc,.string m,.slice sq n sc] 27)).heap.size:=by simp
                             have x0:w2.cell? ⟨w.heap.size,0,none⟩=some (.int .i64 k):=(hb2.cell (by exact s2)).trans (by simp)
                             have x1:w2.cell? ⟨w.heap.size,1,none⟩=some (.int .i64 f):=(hb2.cell (by exact s2)).trans (by simp)
                             have x2:w2.cell? ⟨w.heap.size,2,none⟩=some (.bool ng):=(hb2.cell (by exact s2)).trans (by simp)
                             have x3:w2.cell? ⟨w.heap.size,3,none⟩=some (.slice aq nu.length ac):=(hb2.cell (by exact s2)).trans (by simp)
                             have x4:w2.cell? ⟨w.heap.size,4,none⟩=some (.slice cq de.length cc):=(hb2.cell (by exact s2)).trans (by simp)
                             have x5:w2.cell? ⟨w.heap.size,5,none⟩=some (.string m):=(hb2.cell (by exact s2)).trans (by simp)
                             have x6:w2.cell? ⟨w.heap.size,6,none⟩=some (.slice sq n sc):=(hb2.cell (by exact s2)).trans (by simp)
                             have hbw:Hid (Below w.heap.size w w2):=hb0.out.trans (hb2.mono hb0.out.size)
                             have hs2:=hb2.size
                             clear hb2)
      clear cf hf1 hf2 hn' hK0
      by_cases k2:k=2
      ·subst k2
       have hnm:=zcv m w2
       cases hnb:nameB m with
       | false=>
        rw[hnb] at hnm
        go_wp2_with (go_at_call 22;with_reducible refine hnm.mono ?_;rintro e w3 ⟨rfl,hb3⟩)
        go_ret
        exact⟨by rw[<-hR.out];unfold nodeOk;rw[hnb];simp,hbw.out.trans (hb3.mono hbw.out.size)⟩
       | true=>
        rw[hnb] at hnm
        have iZ:Hid (nameB m=true):=hnb
        clear hnb
        go_upto_region 14 with(go_at_call 22;with_reducible refine hnm.mono ?_;rintro e w3 ⟨rfl,hb3⟩
                               have s3:w.heap.size<w2.heap.size:=Nat.lt_of_lt_of_le s2 hs2
                               have y0:=(hb3.cell (p:=⟨w.heap.size,0,none⟩) (by exact s3)).trans x0)
        have y3:=(hb3.cell (p:=⟨w.heap.size,3,none⟩) (by exact s3)).trans x3
        have aP:Hid (Below w.heap.size w w3):=hbw.out.trans (hb3.mono hbw.out.size)
        have hof:Calls Tryz.prog 206 #[.slice aq nu.length ac] w3 _:=hk.out _ aP.out
        have hze:=zbi qa (trim nu).length ca w3
        rw[htz.out] at hze
        go_wp2_with (first
         | (go_at_call 206;with_reducible refine hof.mono ?_;rintro e wa ⟨rfl,hwa⟩;subst wa)
         | (go_at_call 207;with_reducible refine hze.mono ?_;rintro e wa ⟨rfl,hwa⟩;subst wa))
        go_ret
        exact⟨by rw[<-hR.out];unfold nodeOk;rw[hA.out,iZ.out];simp,aP.out⟩
      ·have n2:(k==2)=false:=by simp;omega
       have n2':(k != 2)=true:=by simp;omega
       have k2':Hid (k≠2):=k2
       clear k2
       cases he:(m.toList==[]) with
       | false=>
        have hm:¬m.size=0:=fun h=>by
         rw[za7,decide_eq_true h] at he;cases he
        go_wp2
        go_ret
        exact⟨by rw[<-hR.out];unfold nodeOk;rw[decide_eq_false hm,if_neg k2'.out];simp,hbw.out⟩
       | true=>
        have hm:Hid (m.size=0):=of_decide_eq_true (p:=m.size=0) (by rw[<-za7];exact he)
        by_cases k1:k=1
        ·subst k1
         have eQ:=hrd w2 hbw.out
         obtain⟨L,hL⟩:∃L,Hid (large (val nu) (val de)=L):=⟨_,rfl⟩
         rw[hL.out] at eQ
         clear hrd
         cases L with
         | true=>
          go_wp2_with (go_at_call 117;with_reducible refine eQ.mono ?_;rintro e w3 ⟨fv,g',n',d',rfl,hf,_,hb3⟩
                       obtain⟨fa,fb,ns,dsf,rfl,z1,z2,z3,z4,z5,z6,z7,z8⟩:=hf
                       obtain⟨qn,kn,rfl⟩:=z1.form
                       obtain⟨qm,km,rfl⟩:=z4.form
                       have hw:Hid (Below w.heap.size w (w3.alloc (.cells #[.bool g',.slice qn ns.length kn,.slice qm dsf.length km] 156))):=(hbw.out.trans (hb3.mono hbw.out.size)).trans ((zaa w3 _).mono (Nat.le_trans hbw.out.size hb3.size))
                       clear hb3 z1 z2 z3 z4 z5 z6 z7 z8)
          go_ret
          exact⟨by rw[<-hR.out];unfold nodeOk;rw[hL.out];simp,hw.out⟩
         | false=>
          obtain⟨S,hS⟩:∃S,Hid (sgnQ ng (val nu) (val de)=S):=⟨_,rfl⟩
          by_cases hS0:0<=S
          ·have hS1:(S:Int)>=0:=hS0
           have hS0:Hid (0<=S):=hS0
           go_wp2_with (first
            | (go_at_call 117;with_reducible refine eQ.mono ?_;rintro e w3 ⟨fv,g',n',d',rfl,hf,hgn,hb3⟩
               obtain⟨rfl,rfl,rfl⟩:=hgn rfl
               have hf':=hf
               obtain⟨fa,fb,ns,dsf,rfl,z1,z2,z3,z4,z5,z6,z7,z8⟩:=hf'
               obtain⟨qn,kn,rfl⟩:=z1.form
               obtain⟨qm,km,rfl⟩:=z4.form
               have hb4:Below w3.heap.size w3 (w3.alloc (.cells #[.bool (mkG ng (val nu) (denI (val de))),.slice qn ns.length kn,.slice qm dsf.length km] 156)):=zaa w3 _
               have hfs:=zgn (hf.below hb4)
               rw[hsg.out,hS.out] at hfs
               have hw:Hid (Below w.heap.size w (w3.alloc (.cells #[.bool (mkG ng (val nu) (denI (val de))),.slice qn ns.length kn,.slice qm dsf.length km] 156))):=(hbw.out.trans (hb3.mono hbw.out.size)).trans (hb4.mono (Nat.le_trans hbw.out.size hb3.size))
               clear hb3 hb4 hf z1 z2 z3 z4 z5 z6 z7 z8 hgn)
            | (go_at_call 118;with_reducible refine hfs.mono ?_;rintro e w4 ⟨rfl,hb5⟩))
           go_ret
           exact⟨by rw[<-hR.out];unfold nodeOk;rw[hA.out,hL.out,hS.out,decide_eq_true hS0.out,decide_eq_true hm.out];rfl,hw.out.trans (hb5.mono hw.out.size)⟩
          ·have hS1:¬(S:Int)>=0:=hS0
           have hS0:Hid (¬0<=S):=hS0
           go_wp2_with (first
            | (go_at_call 117;with_reducible refine eQ.mono ?_;rintro e w3 ⟨fv,g',n',d',rfl,hf,hgn,hb3⟩
               obtain⟨rfl,rfl,rfl⟩:=hgn rfl
               have hf':=hf
               obtain⟨fa,fb,ns,dsf,rfl,z1,z2,z3,z4,z5,z6,z7,z8⟩:=hf'
               obtain⟨qn,kn,rfl⟩:=z1.form
               obtain⟨qm,km,rfl⟩:=z4.form
               have hb4:Below w3.heap.size w3 (w3.alloc (.cells #[.bool (mkG ng (val nu) (denI (val de))),.slice qn ns.length kn,.slice qm dsf.length km] 156)):=zaa w3 _
               have hfs:=zgn (hf.below hb4)
               rw[hsg.out,hS.out] at hfs
               have hw:Hid (Below w.heap.size w (w3.alloc (.cells #[.bool (mkG ng (val nu) (denI (val de))),.slice qn ns.length kn,.slice qm dsf.length km] 156))):=(hbw.out.trans (hb3.mono hbw.out.size)).trans (hb4.mono (Nat.le_trans hbw.out.size hb3.size))
               clear hb3 hb4 hf z1 z2 z3 z4 z5 z6 z7 z8 hgn)
            | (go_at_call 118;with_reducible refine hfs.mono ?_;rintro e w4 ⟨rfl,hb5⟩))
           go_ret
           exact⟨by rw[<-hR.out];unfold nodeOk;rw[hS.out,decide_eq_false (by have:=hS0.out;omega:¬0<=S)];simp,hw.out.trans (hb5.mono hw.out.size)⟩
        ·have n1:(k != 1)=true:=by simp;omega
         have k1':Hid (k≠1):=k1
         clear k1
         have hof:Calls Tryz.prog 206 #[.slice aq nu.length ac] w2 _:=hk.out _ hbw.out
         have hze:=zbi qa (trim nu).length ca w2
         rw[htz.out] at hze
         go_wp2_with (first
          | (go_at_call 206;with_reducible refine hof.mono ?_;rintro e wa ⟨rfl,hwa⟩;subst wa)
          | (go_at_call 207;with_reducible refine hze.mono ?_;rintro e wa ⟨rfl,hwa⟩;subst wa))
         go_ret
         exact⟨by rw[<-hR.out];unfold nodeOk;rw[hA.out,if_neg k1'.out,if_neg k2'.out,decide_eq_true hm.out];simp,hbw.out⟩
   ·have hn':((n:Int) != K)=true:=by simp[hn]
    go_wp2_with (go_at_call 320;with_reducible refine cf.mono ?_;rintro e w2 ⟨rfl,hb2⟩
                 have s2:w.heap.size<(w.alloc (.cells #[.int .i64 k,.int .i64 f,.bool ng,.slice aq nu.length ac,.slice cq de.length cc,.string m,.slice sq n sc] 27)).heap.size:=by simp
                 have x0:w2.cell? ⟨w.heap.size,0,none⟩=some (.int .i64 k):=(hb2.cell (by exact s2)).trans (by simp)
                 have x1:w2.cell? ⟨w.heap.size,1,none⟩=some (.int .i64 f):=(hb2.cell (by exact s2)).trans (by simp)
                 have x2:w2.cell? ⟨w.heap.size,2,none⟩=some (.bool ng):=(hb2.cell (by exact s2)).trans (by simp)
                 have x3:w2.cell? ⟨w.heap.size,3,none⟩=some (.slice aq nu.length ac):=(hb2.cell (by exact s2)).trans (by simp)
                 have x4:w2.cell? ⟨w.heap.size,4,none⟩=some (.slice cq de.length cc):=(hb2.cell (by exact s2)).trans (by simp)
                 have x5:w2.cell? ⟨w.heap.size,5,none⟩=some (.string m):=(hb2.cell (by exact s2)).trans (by simp)
                 have x6:w2.cell? ⟨w.heap.size,6,none⟩=some (.slice sq n sc):=(hb2.cell (by exact s2)).trans (by simp)
                 have hbw:Hid (Below w.heap.size w w2):=hb0.out.trans (hb2.mono hb0.out.size)
                 have hs2:=hb2.size
                 clear hb2)
    go_ret
    exact⟨by rw[<-hR.out];unfold nodeOk;rw[hK.out,decide_eq_false (fun e=>hn e.symm)];simp,hbw.out⟩
  ·rw[if_pos (by omega),decide_eq_false hK0] at cf
   go_wp2_with (go_at_call 320;with_reducible refine cf.mono ?_;rintro e w2 ⟨rfl,hb2⟩
                have s2:w.heap.size<(w.alloc (.cells #[.int .i64 k,.int .i64 f,.bool ng,.slice aq nu.length ac,.slice cq de.length cc,.string m,.slice sq n sc] 27)).heap.size:=by simp
                have x0:w2.cell? ⟨w.heap.size,0,none⟩=some (.int .i64 k):=(hb2.cell (by exact s2)).trans (by simp)
                have x1:w2.cell? ⟨w.heap.size,1,none⟩=some (.int .i64 f):=(hb2.cell (by exact s2)).trans (by simp)
                have x2:w2.cell? ⟨w.heap.size,2,none⟩=some (.bool ng):=(hb2.cell (by exact s2)).trans (by simp)
                have x3:w2.cell? ⟨w.heap.size,3,none⟩=some (.slice aq nu.length ac):=(hb2.cell (by exact s2)).trans (by simp)
                have x4:w2.cell? ⟨w.heap.size,4,none⟩=some (.slice cq de.length cc):=(hb2.cell (by exact s2)).trans (by simp)
                have x5:w2.cell? ⟨w.heap.size,5,none⟩=some (.string m):=(hb2.cell (by exact s2)).trans (by simp)
                have x6:w2.cell? ⟨w.heap.size,6,none⟩=some (.slice sq n sc):=(hb2.cell (by exact s2)).trans (by simp)
                have hbw:Hid (Below w.heap.size w w2):=hb0.out.trans (hb2.mono hb0.out.size)
                have hs2:=hb2.size
                clear hb2)
   go_ret
   exact⟨by rw[<-hR.out];unfold nodeOk;rw[hK.out,decide_eq_false (by omega:¬K=n)];simp,hbw.out⟩
theorem arg_ok {w:World} {k f:Int} {ng:Bool} {aq cq sq:Option Addr} {ac cc sc n:Nat} {nu de:List Int} {m:ByteArray}:
  Calls Tryz.prog 389 #[.agg #[.int .i64 k,.int .i64 f,.bool ng,.slice aq nu.length ac,.slice cq de.length cc,.string m,.slice sq n sc]] w (Rt w (.bool (decide (loA k<=f)&&decide (f<=hiA k)))):=by
 by_cases k9:k=9
 ·subst k9
  by_cases hf1:-32<=f
  ·by_cases hf2:f<=32
   ·go_enter Tryz.func389,Tryz.ntmps389
    go_wp2
    go_ret
    exact⟨by simp[loA,hiA,hf1,hf2],zaa _ _⟩
   ·go_enter Tryz.func389,Tryz.ntmps389
    go_wp2
    go_ret
    exact⟨by rw[decide_eq_false (show ¬f<=hiA 9 from Int.not_le.2 hf2),Bool.and_false];rfl,zaa _ _⟩
  ·go_enter Tryz.func389,Tryz.ntmps389
   go_wp2
   go_ret
   exact⟨by rw[decide_eq_false (show ¬loA 9<=f from Int.not_le.2 hf1),Bool.false_and];rfl,zaa _ _⟩
 ·by_cases k10:k=10
  ·subst k10
   by_cases hf1:2<=f
   ·by_cases hf2:f<=8
    ·go_enter Tryz.func389,Tryz.ntmps389
     go_wp2
     go_ret
     exact⟨by simp[loA,hiA,hf1,hf2],zaa _ _⟩
    ·go_enter Tryz.func389,Tryz.ntmps389
     go_wp2
     go_ret
     exact⟨by rw[decide_eq_false (show ¬f<=hiA 10 from Int.not_le.2 hf2),Bool.and_false];rfl,zaa _ _⟩
   ·go_enter Tryz.func389,Tryz.ntmps389
    go_wp2
    go_ret
    exact⟨by rw[decide_eq_false (show ¬loA 10<=f from Int.not_le.2 hf1),Bool.false_and];rfl,zaa _ _⟩
  ·by_cases k11:k=11
   ·subst k11
    by_cases hf1:1<=f
    ·by_cases hf2:f<=8
     ·go_enter Tryz.func389,Tryz.ntmps389
      go_wp2
      go_ret
      exact⟨by simp[loA,hiA,hf1,hf2],zaa _ _⟩
     ·go_enter Tryz.func389,Tryz.ntmps389
      go_wp2
      go_ret
      exact⟨by rw[decide_eq_false (show ¬f<=hiA 11 from Int.not_le.2 hf2),Bool.and_false];rfl,zaa _ _⟩
    ·go_enter Tryz.func389,Tryz.ntmps389
     go_wp2
     go_ret
     exact⟨by rw[decide_eq_false (show ¬loA 11<=f from Int.not_le.2 hf1),Bool.false_and];rfl,zaa _ _⟩
   ·have e1:loA k=0:=by simp[loA,k9,k10,k11]
    have e2:hiA k=0:=by simp[hiA,k9,k10,k11]
    have n9:(k==9)=false:=by simp;omega
    have n10:(k==10)=false:=by simp;omega
    have n11:(k==11)=false:=by simp;omega
    rw[e1,e2]
    clear e1 e2 k9 k10 k11
    by_cases hf:f=0
    ·subst hf
     go_enter Tryz.func389,Tryz.ntmps389
     go_wp2
     go_ret
     exact⟨rfl,zaa _ _⟩
    ·have hf':(f==0)=false:=by simp[hf]
     have e3:(decide (0<=f)&&decide (f<=0))=false:=by
      by_cases h:0<=f
      ·rw[decide_eq_false (by omega:¬f<=0)];simp
      ·rw[decide_eq_false h];rfl
     rw[e3]
     clear e3
     go_enter Tryz.func389,Tryz.ntmps389
     go_wp2
     go_ret
     exact⟨rfl,zaa _ _⟩
abbrev SSz (w:World) (k:Int) (f:Int) (ng:Bool) (aq:Option Addr) (nu:List Int) (ac:Nat) (cq:Option Addr) (de:List Int) (cc:Nat) (m:ByteArray) (sq:Option Addr) (n:Nat) (sc:Nat):World->Prop:=fun z=>z.cell? ⟨w.heap.size,0,none⟩=some (.int .i64 k)/\z.cell? ⟨w.heap.size,1,none⟩=some (.int .i64 f)/\z.cell? ⟨w.heap.size,2,none⟩=some (.bool ng)/\z.cell? ⟨w.heap.size,3,none⟩=some (.slice aq nu.length ac)/\z.cell? ⟨w.heap.size,4,none⟩=some (.slice cq de.length cc)/\z.cell? ⟨w.heap.size,5,none⟩=some (.string m)/\z.cell? ⟨w.heap.size,6,none⟩=some (.slice sq n sc)
theorem node_ok {w:World} {k f:Int} {ng:Bool} {aq cq sq:Option Addr} {ac cc sc n:Nat} {nu de:List Int} {m:ByteArray} (h1:Sl w (.slice aq nu.length ac) nu) (h2:Sl w (.slice cq de.length cc) de) (ln:nu.length<=34359738000) (ld:de.length<=34359738000):
  Calls Tryz.prog 298 #[.agg #[.int .i64 k,.int .i64 f,.bool ng,.slice aq nu.length ac,.slice cq de.length cc,.string m,.slice sq n sc]] w (Rt w (.bool (nodeOk k f ng (val nu) (val de) m n))):=by
 obtain⟨R,hR⟩:∃R,Hid (nodeOk k f ng (val nu) (val de) m n=R):=⟨_,rfl⟩
 rw[hR.out]
 have hb0:Hid (Below w.heap.size w (w.alloc (.cells #[.int .i64 k,.int .i64 f,.bool ng,.slice aq nu.length ac,.slice cq de.length cc,.string m,.slice sq n sc] 27))):=zaa w _
 have hb1:Hid (Below w.heap.size w (w.alloc (.cells #[.int .i64 k,.int .i64 f,.bool ng,.slice aq nu.length ac,.slice cq de.length cc,.string m,.slice sq n sc] 27)).drew):=hb0.out.drew
 have hx0:=zae h1.1
 have hy0:=zae h2.1
 have hsg:Hid _:=zmm (g:=ng) hx0 hy0
 have hlg:Hid (∀z,Below w.heap.size w z->Calls Tryz.prog 101 #[.agg #[.bool ng,.slice aq nu.length ac,.slice cq de.length cc]] z _):=fun z hz=>ze7 (g:=ng) (h1.below hz) (h2.below hz) ln ld
 have hze:Hid (∀z,Below w.heap.size w z->Calls Tryz.prog 182 #[.agg #[.bool ng,.slice aq nu.length ac,.slice cq de.length cc]] z _):=fun z hz=>zgo (g:=ng) (p1:=cq) (m:=de.length) (e1:=cc) (h1.below hz) ln
 have hof:Hid (∀z,Below w.heap.size w z->Calls Tryz.prog 106 #[.agg #[.bool ng,.slice aq nu.length ac,.slice cq de.length cc]] z _):=fun z hz=>zfa (g:=ng) (h1.below hz) (h2.below hz) ln ld
 clear h1 h2 hx0 hy0
 obtain⟨K,hK⟩:∃K,Hid (kidsI k=K):=⟨_,rfl⟩
 have hkq:=fun z=>kidsQ_ok k z
 rw[hK.out] at hkq
 by_cases hn:K=n
 ·have hn':(K != (n:Int))=false:=by simp[hn]
  have hn2:Hid (K=n):=hn
  clear hn
  obtain⟨A,hA⟩:∃A,Hid ((decide (loA k<=f)&&decide (f<=hiA k))=A):=⟨_,rfl⟩
  have fH:=arg_ok (w:=(w.alloc (.cells #[.int .i64 k,.int .i64 f,.bool ng,.slice aq nu.length ac,.slice cq de.length cc,.string m,.slice sq n sc] 27)).drew) (k:=k) (f:=f) (ng:=ng) (aq:=aq) (cq:=cq) (sq:=sq) (ac:=ac) (cc:=cc) (sc:=sc) (n:=n) (nu:=nu) (de:=de) (m:=m)
  rw[hA.out] at fH
  have hS0:(SSz w k f ng aq nu ac cq de cc m sq n sc) (w.alloc (.cells #[.int .i64 k,.int .i64 f,.bool ng,.slice aq nu.length ac,.slice cq de.length cc,.string m,.slice sq n sc] 27)).drew:=⟨by simp,by simp,by simp,by simp,by simp,by simp,by simp⟩
  have hsz:w.heap.size<(w.alloc (.cells #[.int .i64 k,.int .i64 f,.bool ng,.slice aq nu.length ac,.slice cq de.length cc,.string m,.slice sq n sc] 27)).drew.heap.size:=by simp
  go_enter Tryz.func298,Tryz.ntmps298
  go_wp2_with fail
  go_region_held3 (SSz w k f ng aq nu ac cq de cc m sq n sc) (first | exact hS2 | exact hS0)
   (first
     | (go_at_call 388;with_reducible refine(hkq _).mono ?_;rintro e wz ⟨rfl,hwz⟩;subst wz)
     | (go_at_call 389;with_reducible refine fH.mono ?_;rintro e w2 ⟨rfl,hb2⟩
        have hS2:(SSz w k f ng aq nu ac cq de cc m sq n sc) w2:=⟨(hb2.cell (by exact hsz)).trans hS0.1,(hb2.cell (by exact hsz)).trans hS0.2.1,(hb2.cell (by exact hsz)).trans hS0.2.2.1,(hb2.cell (by exact hsz)).trans hS0.2.2.2.1,(hb2.cell (by exact hsz)).trans hS0.2.2.2.2.1,(hb2.cell (by exact hsz)).trans hS0.2.2.2.2.2.1,(hb2.cell (by exact hsz)).trans hS0.2.2.2.2.2.2⟩))
  obtain⟨x0,x1,x2,x3,x4,x5,x6⟩:=hS2
  have hbw:Hid (Below w.heap.size w w2):=hb1.out.trans (hb2.mono hb1.out.size)
  have bf:w.heap.size<w2.heap.size:=Nat.lt_of_lt_of_le hsz hb2.size
  clear hS0 fH hb2 hsz hkq hn'
  cases A with
  | false=>
   go_wp2_with fail
   go_ret
   exact⟨by rw[<-hR.out];unfold nodeOk;rw[hA.out];simp,hbw.out⟩
  | true=>
   have hB:Hid ((decide (kidsI k=n)&&(decide (loA k<=f)&&decide (f<=hiA k)))=true):=by
    show _=true
    rw[hA.out,hK.out,decide_eq_true hn2.out];rfl
   clear hA hn2 hK
   by_cases k1:k=1
   ·subst k1
    have hl:=hlg.out w2 hbw.out
    obtain⟨L,hL⟩:∃L,Hid (large (val nu) (val de)=L):=⟨_,rfl⟩
    rw[hL.out] at hl
    cases L with
    | true=>
     go_wp2_with (go_at_call 101;with_reducible refine hl.mono ?_;rintro e w3 ⟨rfl,hb3⟩)
     go_ret
     exact⟨by rw[<-hR.out];unfold nodeOk;rw[hL.out];simp,hbw.out.trans (hb3.mono hbw.out.size)⟩
    | false=>
     obtain⟨G,hS⟩:∃S,Hid (sgnQ ng (val nu) (val de)=S):=⟨_,rfl⟩
     by_cases hS0:0<=G
     ·have hS1:(G:Int)>=0:=hS0
      have hS0:Hid (0<=G):=hS0
      cases he:(m.toList==[]) with
      | true=>
       have hm:Hid (m.size=0):=of_decide_eq_true (p:=m.size=0) (by rw[<-za7];exact he)
       go_wp2_with (first
        | (go_at_call 101;with_reducible refine hl.mono ?_;rintro e w3 ⟨rfl,hb3⟩
           have y0:=(hb3.cell (p:=⟨w.heap.size,0,none⟩) (by exact bf)).trans x0
           have y1:=(hb3.cell (p:=⟨w.heap.size,1,none⟩) (by exact bf)).trans x1
           have y2:=(hb3.cell (p:=⟨w.heap.size,2,none⟩) (by exact bf)).trans x2
           have y3:=(hb3.cell (p:=⟨w.heap.size,3,none⟩) (by exact bf)).trans x3
           have y4:=(hb3.cell (p:=⟨w.heap.size,4,none⟩) (by exact bf)).trans x4
           have y5:=(hb3.cell (p:=⟨w.heap.size,5,none⟩) (by exact bf)).trans x5
           have y6:=(hb3.cell (p:=⟨w.heap.size,6,none⟩) (by exact bf)).trans x6
           have cT:w.heap.size<w3.heap.size:=Nat.lt_of_lt_of_le bf hb3.size
           have hw3:Hid (Below w.heap.size w w3):=hbw.out.trans (hb3.mono hbw.out.size)
           clear x0 x1 x2 x3 x4 x5 x6 hb3)
        | (go_at_call 106;with_reducible refine(hof.out w3 hw3.out).mono ?_;rintro e w4 ⟨v,rfl,hq,hb4⟩
           have hsn:=zlz hq
           rw[hsg.out,hS.out] at hsn
           have z5:=(hb4.cell (p:=⟨w.heap.size,5,none⟩) (by exact cT)).trans y5
           have dX:w.heap.size<w4.heap.size:=Nat.lt_of_lt_of_le cT hb4.size
           have hw4:Hid (Below w.heap.size w w4):=hw3.out.trans (hb4.mono hw3.out.size)
           clear hb4 hq y0 y1 y2 y3 y4 y5 y6)
        | (go_at_call 390;with_reducible refine hsn.mono ?_;rintro e w5 ⟨rfl,hb5⟩
           have v5:=(hb5.cell (p:=⟨w.heap.size,5,none⟩) (by exact dX)).trans z5
           have hw5:Hid (Below w.heap.size w w5):=hw4.out.trans (hb5.mono hw4.out.size)
           clear hb5 z5))
       go_ret
       exact⟨by rw[<-hR.out];unfold nodeOk;rw[hB.out,hL.out,hS.out,decide_eq_true hS0.out,decide_eq_true hm.out];rfl,hw5.out⟩
      | false=>
       have hm:Hid (¬m.size=0):=fun h=>by
        rw[za7,decide_eq_true h] at he;cases he
       go_wp2_with (first
        | (go_at_call 101;with_reducible refine hl.mono ?_;rintro e w3 ⟨rfl,hb3⟩
           have y0:=(hb3.cell (p:=⟨w.heap.size,0,none⟩) (by exact bf)).trans x0
           have y1:=(hb3.cell (p:=⟨w.heap.size,1,none⟩) (by exact bf)).trans x1
           have y2:=(hb3.cell (p:=⟨w.heap.size,2,none⟩) (by exact bf)).trans x2
           have y3:=(hb3.cell (p:=⟨w.heap.size,3,none⟩) (by exact bf)).trans x3
           have y4:=(hb3.cell (p:=⟨w.heap.size,4,none⟩) (by exact bf)).trans x4
           have y5:=(hb3.cell (p:=⟨w.heap.size,5,none⟩) (by exact bf)).trans x5
           have y6:=(hb3.cell (p:=⟨w.heap.size,6,none⟩) (by exact bf)).trans x6
           have cT:w.heap.size<w3.heap.size:=Nat.lt_of_lt_of_le bf hb3.size
           have hw3:Hid (Below w.heap.size w w3):=hbw.out.trans (hb3.mono hbw.out.size)
           clear x0 x1 x2 x3 x4 x5 x6 hb3)
        | (go_at_call 106;with_reducible refine(hof.out w3 hw3.out).mono ?_;rintro e w4 ⟨v,rfl,hq,hb4⟩
           have hsn:=zlz hq
           rw[hsg.out,hS.out] at hsn
           have z5:=(hb4.cell (p:=⟨w.heap.size,5,none⟩) (by exact cT)).trans y5
           have dX:w.heap.size<w4.heap.size:=Nat.lt_of_lt_of_le cT hb4.size
           have hw4:Hid (Below w.heap.size w w4):=hw3.out.trans (hb4.mono hw3.out.size)
           clear hb4 hq y0 y1 y2 y3 y4 y5 y6)
        | (go_at_call 390;with_reducible refine hsn.mono ?_;rintro e w5 ⟨rfl,hb5⟩
           have v5:=(hb5.cell (p:=⟨w.heap.size,5,none⟩) (by exact dX)).trans z5
           have hw5:Hid (Below w.heap.size w w5):=hw4.out.trans (hb5.mono hw4.out.size)
           clear hb5 z5))
       go_ret
       exact⟨by rw[<-hR.out];unfold nodeOk;rw[decide_eq_false hm.out];simp,hw5.out⟩
     ·have hS1:¬(G:Int)>=0:=hS0
      have hS0:Hid (¬0<=G):=hS0
      go_wp2_with (first
       | (go_at_call 101;with_reducible refine hl.mono ?_;rintro e w3 ⟨rfl,hb3⟩
          have y0:=(hb3.cell (p:=⟨w.heap.size,0,none⟩) (by exact bf)).trans x0
          have y1:=(hb3.cell (p:=⟨w.heap.size,1,none⟩) (by exact bf)).trans x1
          have y2:=(hb3.cell (p:=⟨w.heap.size,2,none⟩) (by exact bf)).trans x2
          have y3:=(hb3.cell (p:=⟨w.heap.size,3,none⟩) (by exact bf)).trans x3
          have y4:=(hb3.cell (p:=⟨w.heap.size,4,none⟩) (by exact bf)).trans x4
          have y5:=(hb3.cell (p:=⟨w.heap.size,5,none⟩) (by exact bf)).trans x5
          have y6:=(hb3.cell (p:=⟨w.heap.size,6,none⟩) (by exact bf)).trans x6
          have cT:w.heap.size<w3.heap.size:=Nat.lt_of_lt_of_le bf hb3.size
          have hw3:Hid (Below w.heap.size w w3):=hbw.out.trans (hb3.mono hbw.out.size)
          clear x0 x1 x2 x3 x4 x5 x6 hb3)
       | (go_at_call 106;with_reducible refine(hof.out w3 hw3.out).mono ?_;rintro e w4 ⟨v,rfl,hq,hb4⟩
          have hsn:=zlz hq
          rw[hsg.out,hS.out] at hsn
          have z5:=(hb4.cell (p:=⟨w.heap.size,5,none⟩) (by exact cT)).trans y5
          have dX:w.heap.size<w4.heap.size:=Nat.lt_of_lt_of_le cT hb4.size
          have hw4:Hid (Below w.heap.size w w4):=hw3.out.trans (hb4.mono hw3.out.size)
          clear hb4 hq y0 y1 y2 y3 y4 y5 y6)
       | (go_at_call 390;with_reducible refine hsn.mono ?_;rintro e w5 ⟨rfl,hb5⟩
          have v5:=(hb5.cell (p:=⟨w.heap.size,5,none⟩) (by exact dX)).trans z5
          have hw5:Hid (Below w.heap.size w w5):=hw4.out.trans (hb5.mono hw4.out.size)
          clear hb5 z5))
      go_ret
      exact⟨by rw[<-hR.out];unfold nodeOk;rw[hS.out,decide_eq_false (by have:=hS0.out;omega:¬0<=G)];simp,hw5.out⟩
   ·have n1:(k==1)=false:=by simp;omega
    have k1':Hid (k≠1):=k1
    have hz:=hze.out w2 hbw.out
    clear k1
    obtain⟨Z,hZ⟩:∃Z,Hid (decide (val nu=0)=Z):=⟨_,rfl⟩
    rw[hZ.out] at hz
    cases Z with
    | false=>
     go_wp2_with (go_at_call 182;with_reducible refine hz.mono ?_;rintro e w3 ⟨rfl,hb3⟩)
     go_ret
     exact⟨by rw[<-hR.out];unfold nodeOk;rw[if_neg k1'.out,hZ.out];simp,hbw.out.trans (hb3.mono hbw.out.size)⟩
    | true=>
     go_upto_region 7 with(go_at_call 182;with_reducible refine hz.mono ?_;rintro e w3 ⟨rfl,hb3⟩)
     have aP:Hid (Below w.heap.size w w3):=hbw.out.trans (hb3.mono hbw.out.size)
     have y0:=(hb3.cell (p:=⟨w.heap.size,0,none⟩) (by exact bf)).trans x0
     have y5:=(hb3.cell (p:=⟨w.heap.size,5,none⟩) (by exact bf)).trans x5
     clear x0 x1 x2 x3 x4 x5 x6 hb3
     by_cases k2:k=2
     ·subst k2
      have hnm:=zcw m w3
      go_wp2_with (go_at_call 55;with_reducible refine hnm.mono ?_;rintro e w4 ⟨rfl,hb4⟩)
      go_ret
      exact⟨by rw[<-hR.out];unfold nodeOk;rw[hB.out,hZ.out];simp,aP.out.trans (hb4.mono aP.out.size)⟩
     ·have n2:(k==2)=false:=by simp;omega
      have k2':Hid (k≠2):=k2
      clear k2
      have he:=za7 m
      obtain⟨E,hE⟩:∃E,Hid (decide (m.size=0)=E):=⟨_,rfl⟩
      rw[hE.out] at he
      go_wp2_with fail
      go_ret
      exact⟨by rw[<-hR.out];unfold nodeOk;rw[hB.out,hZ.out,if_neg k1'.out,if_neg k2'.out,hE.out];rfl,aP.out⟩
 ·have hn':(K != (n:Int))=true:=by simp[hn]
  go_enter Tryz.func298,Tryz.ntmps298
  go_wp2_with fail
  go_quiet (first | (go_at_call_of 388 (Value.int IntKind.i64 k);refine Calls.quiet_of_same (hkq _)))
  go_wp2_with fail
  go_ret
  exact⟨by rw[<-hR.out];unfold nodeOk;rw[hK.out,decide_eq_false hn];simp,zam hb0.out _⟩
end Go.Proofs.YtnnhofmknilopaaGreatDoor
