import Derived.Laws.AppendOwnNone
import Derived.Test.YtnnhofmknilopaaGreatDoorPk03
namespace Go.Proofs.YtnnhofmknilopaaGreatDoor
open Go Go.RowKit
set_option maxRecDepth 100000
set_option maxHeartbeats 16000000
def BlkP (w:World) (g:Nat) (xs:List Int):Prop:=∃cur,w.heap[g]?=some (.cells cur 150 (0,0))/\∀j,j<xs.length->cur[j]?=some (.int .u32 (xs.getD j 0))
theorem BlkP.lt {w:World} {g:Nat} {xs:List Int} (h:BlkP w g xs):g<w.heap.size:=by
 obtain⟨cur,h1,h2⟩:=h
 exact(Array.getElem?_eq_some_iff.1 h1).1
theorem BlkP.cell {w:World} {g:Nat} {xs:List Int} (h:BlkP w g xs) {j:Nat} (hj:j<xs.length):w.cell? ⟨g,j,none⟩=some (.int .u32 (xs.getD j 0)):=by
 obtain⟨cur,h1,h2⟩:=h
 simp only[World.cell?,h1]
 simpa using h2 j hj
theorem BlkP.frozen {w:World} {g:Nat} {xs:List Int} (h:BlkP w g xs) (j:Nat):w.frozen? ⟨g,j,none⟩=false:=by
 obtain⟨cur,h1,h2⟩:=h
 simp[World.frozen?,h1]
theorem BlkP.set {w:World} {g:Nat} {xs:List Int} (h:BlkP w g xs) (j:Nat) (d:Int):BlkP (w.setCell ⟨g,j,none⟩ (.int .u32 d)) g (xs.set j d):=by
 have hlt:=h.lt
 obtain⟨cur,h1,h2⟩:=h
 refine⟨cur.setIfInBounds j (.int .u32 d),?_,fun i hi=>?_⟩
 ·show(w.heap.modify g _)[g]?=_
  rw[Array.getElem?_modify,if_pos rfl,h1]
  simp
 ·have h3:=h2 i (by simpa using hi)
  rw[List.length_set] at hi
  rw[Array.getElem?_setIfInBounds]
  by_cases e:j=i
  ·subst e
   have hj:j<cur.size:=(Array.getElem?_eq_some_iff.1 h3).1
   simp[hj,List.getD,hi]
  ·simp[e,h3,List.getD]
theorem BlkP.below {w w':World} {g:Nat} {xs:List Int} (h:BlkP w g xs) (hb:Below w.heap.size w w'):BlkP w' g xs:=by
 have hlt:=h.lt
 obtain⟨cur,h1,h2⟩:=h
 exact⟨cur,(hb.block g hlt).trans h1,h2⟩
theorem zb2 {A cur C:List Int} {i:Nat} (hi:i<cur.length):(A++cur++C).getD (A.length+i) 0=cur.getD i 0:=by
 rw[List.append_assoc]
 simp only[List.getD]
 rw[List.getElem?_append_right (by omega),Nat.add_sub_cancel_left,List.getElem?_append_left hi]
theorem zd2 (A cur C:List Int) (i:Nat) (d:Int) (hi:i<cur.length):(A++cur++C).set (A.length+i) d=A++cur.set i d++C:=by
 rw[List.append_assoc,List.set_append,if_neg (by omega),Nat.add_sub_cancel_left,List.set_append,if_pos hi,List.append_assoc]
structure Sav (g:Nat) (w w':World):Prop where
 os:w'.os=w.os
 tape:w'.tape=w.tape
 output:w'.output=w.output
 size:w.heap.size<=w'.heap.size
 block:∀k,k<w.heap.size->k≠g->w'.heap[k]?=w.heap[k]?
theorem Sav.of {g:Nat} {w w':World} (h:Below w.heap.size w w'):Sav g w w':=⟨h.os,h.tape,h.output,h.size,fun k hk _=>h.block k hk⟩
theorem Sav.then {g:Nat} {w a b:World} (h:Sav g w a) (h':Below a.heap.size a b):Sav g w b:=
 ⟨h'.os.trans h.os,h'.tape.trans h.tape,h'.output.trans h.output,Nat.le_trans h.size h'.size,fun k hk hg=>(h'.block k (Nat.lt_of_lt_of_le hk h.size)).trans (h.block k hk hg)⟩
theorem Sav.trans {g:Nat} {w a b:World} (h:Sav g w a) (h':Sav g a b):Sav g w b:=
 ⟨h'.os.trans h.os,h'.tape.trans h.tape,h'.output.trans h.output,Nat.le_trans h.size h'.size,fun k hk hg=>(h'.block k (Nat.lt_of_lt_of_le hk h.size) hg).trans (h.block k hk hg)⟩
theorem Sav.setCell {g:Nat} {w a:World} (h:Sav g w a) (j:Nat) (u:Value):Sav g w (a.setCell ⟨g,j,none⟩ u):=
 ⟨h.os,h.tape,h.output,by simpa [World.setCell] using h.size,fun k hk hg=>(Below.heap_setCell _ _ _ _ (by simpa using hg)).trans (h.block k hk hg)⟩
theorem Sav.cell {g:Nat} {w w':World} (h:Sav g w w') {b o:Nat} (hb:b<w.heap.size) (hg:b≠g):w'.cell? ⟨b,o,none⟩=w.cell? ⟨b,o,none⟩:=World.cell?_of_block (w:=w) (h.block b hb hg)
theorem Sav.below {g B:Nat} {w w':World} (h:Sav g w w') (hB:B<=g) (hs:B<=w.heap.size):Below B w w':=⟨h.os,h.tape,h.output,h.size,fun k hk=>h.block k (by omega) (by omega)⟩
def Sl16N (g:Nat) (w:World) (v:Value) (xs:List Int):Prop:=
 Dig16 xs/\xs.length<=549755813888/\∃q cap,v=.slice q xs.length cap/\xs.length<=cap/\(xs=[]\/∃b o,q=some ⟨b,o,none⟩/\b<w.heap.size/\b≠g/\∀i,i<xs.length->w.cell? ⟨b,o+i,none⟩=some (.int .u32 (xs.getD i 0)))
theorem Sl16N.sl {g:Nat} {w:World} {v:Value} {xs:List Int} (h:Sl16N g w v xs):Sl16 w v xs:=by
 obtain⟨h1,h2,q,cap,h3,h4,h5⟩:=h
 refine⟨h1,h2,q,cap,h3,h4,h5.imp id ?_⟩
 rintro⟨b,o,e,hlt,_,hc⟩
 exact⟨b,o,e,hlt,hc⟩
theorem Sl16.ne {w:World} {v:Value} {xs:List Int} (h:Sl16 w v xs) {w':World} {g:Nat} (hb:Below w.heap.size w w') (hg:w.heap.size<=g):Sl16N g w' v xs:=by
 obtain⟨h1,h2,q,cap,h3,h4,h5⟩:=h
 refine⟨h1,h2,q,cap,h3,h4,h5.imp id ?_⟩
 rintro⟨b,o,e,hlt,hc⟩
 exact⟨b,o,e,Nat.lt_of_lt_of_le hlt hb.size,by omega,fun i hi=>(hb.cell (by exact hlt)).trans (hc i hi)⟩
theorem Sl16N.sav {g:Nat} {w w':World} {v:Value} {xs:List Int} (h:Sl16N g w v xs) (hs:Sav g w w'):Sl16N g w' v xs:=by
 obtain⟨h1,h2,q,cap,h3,h4,h5⟩:=h
 refine⟨h1,h2,q,cap,h3,h4,h5.imp id ?_⟩
 rintro⟨b,o,e,hlt,hne,hc⟩
 exact⟨b,o,e,Nat.lt_of_lt_of_le hlt hs.size,hne,fun i hi=>(hs.cell hlt hne).trans (hc i hi)⟩
theorem BlkP.sl {w:World} {g:Nat} {A us C:List Int} {cap:Nat} (h:BlkP w g (A++us++C)) (du:Dig16 us) (hl:us.length<=549755813888) (hc:us.length<=cap):Sl16 w (.slice (some ⟨g,A.length,none⟩) us.length cap) us:=by
 refine⟨du,hl,some ⟨g,A.length,none⟩,cap,rfl,hc,.inr ⟨g,A.length,rfl,h.lt,fun i hi=>?_⟩⟩
 have:=h.cell (j:=A.length+i) (by simp;omega)
 rwa [zb2 hi] at this
theorem digit_ok {w:World} {g j cap n:Nat} {A us C vs:List Int} {v:Value} (hA:A.length=j) (hu:us.length=n+2) (hv:vs.length=n+1) (aR:BlkP w g (A++us++C)) (du:Dig16 us) (hvs:Sl16N g w v vs)
  (ht:0<vs.getD n 0) (hq:val16 us<val16 vs*65536) (aD:n+2<=cap) (hn:n+2<=274877906944) (_hj:j<=549755813888):
  Calls Tryz.prog 203 #[.slice (some ⟨g,j,none⟩) (n+2) cap,v] w fun e w'=>∃us',e=.returned (.int .u32 (val16 us / val16 vs))/\us'.length=n+2/\Dig16 us'/\val16 us'=val16 us % val16 vs/\BlkP w' g (A++us'++C)/\Sav g w w':=by
 have hge:=zkh du hvs.1 hu hv ht
 have hsl:=aR.sl (cap:=cap) du (by omega) (by omega)
 rw[hA,hu] at hsl
 have fC:=hvs.sl
 have dv:=hvs.1
 have vpos:0<val16 vs:=by
  have:=zc0 hv
  have:=zai (zax dv n)
  have:=Int.mul_pos ht (za0 n)
  omega
 have upos:=zai du
 have q0:0<=val16 us / val16 vs:=Int.ediv_nonneg upos (by omega)
 have q1:val16 us / val16 vs<65536:=Int.ediv_lt_of_lt_mul vpos (by rwa [Int.mul_comm] at hq)
 have hdm:=Int.emod_add_mul_ediv (val16 us) (val16 vs)
 have hml:=Int.emod_lt_of_pos (val16 us) vpos
 have hm0:=Int.emod_nonneg (val16 us) (by omega:val16 vs≠0)
 have hgt:=aR.lt
 have hvs':Hid (Sl16N g w v vs):=hvs
 obtain⟨_,_,q2,cap2,rfl,hc2,hx⟩:=hvs
 have hne:vs≠[]:=by intro h;simp[h] at hv
 rcases hx with hx | ⟨b,o,rfl,hb,hbg,hcv⟩
 ·exact absurd hx hne
 have cu1:=aR.cell (j:=A.length+(n+1)) (by simp;omega)
 rw[zb2 (by omega),hA] at cu1
 have cu0:=aR.cell (j:=A.length+n) (by simp;omega)
 rw[zb2 (by omega),hA] at cu0
 have cv:=hcv n (by omega)
 have d1:=du (n+1)
 have d0:=du n
 have dn:=dv n
 rw[hv] at fC hc2
 have ae:Hid (us.length=n+2/\vs.length=n+1/\A.length=j):=⟨hu,hv,hA⟩
 have dC:Hid (BlkP w g (A++us++C)):=aR
 have du':Hid (Dig16 us):=du
 have dv':Hid (Dig16 vs):=dv
 have dQ:=zab hcv
 have gG:Hid (Sl16 w (.slice (some ⟨g,j,none⟩) (n+2) cap) us):=hsl
 have fe:Hid (Sl16 w (.slice (some ⟨b,o,none⟩) (n+1) cap2) vs):=fC
 obtain⟨Q,hQ⟩:∃Q,Hid (val16 us / val16 vs=Q):=⟨_,rfl⟩
 rw[hQ.out] at hge q0 q1 hdm ⊢
 have bZ:Hid (val16 us % val16 vs+val16 vs*Q=val16 us):=hdm
 have cH:Hid (vs≠[]):=hne
 generalize us.getD (n+1) 0=U1 at*
 generalize us.getD n 0=U0 at*
 generalize vs.getD n 0=V at*
 clear aR du dv hcv hsl fC hdm hne hq
 rw[hv]
 clear hu hv hA
 go_enter Tryz.func203,Tryz.ntmps203
 go_wp2
 go_quiet (fail)
 have hB:Below w.heap.size w (w.drewN nq):=zam (Below.refl _ _) _
 have cv':(w.drewN nq).cell? ⟨b,o+n,none⟩=some (.int .u32 V):=cv
 clear cu1 cu0 cv
 generalize w.drewN nq=wz at hB cv' ⊢
 by_cases gH:65536<=(U1*65536+U0) / V
 ·go_wp2
  go_loopw [7] (fun t7 wr=>∃G:Int,t7=.int .u64 G/\Q<=G/\G<=65535/\Below w.heap.size w wr) (fun t7 _=>(intOf t7).toNat)
  case atStart=>exact⟨65535,rfl,by omega,by omega,hB⟩
  case round=>
   obtain⟨G,rfl,hG0,hG1,hbw⟩:=hrel
   have bx:=zmp (g:=G) (gG.out.below hbw) (fe.out.below hbw) cH.out (by omega) (by omega) (by rw[ae.out.2.1];omega)
   by_cases hlt:val16 us<val16 vs*G
   ·rw[decide_eq_true hlt] at bx
    have hG2:1<=G:=by
     rcases (by omega:1<=G\/G<=0) with h | h
     ·exact h
     ·exfalso
      have:val16 vs*G<=0:=Int.mul_nonpos_of_nonneg_of_nonpos (by omega) h
      omega
    have hG3:Q<=G - 1:=by
     have h1:val16 vs*Q<=val16 us:=by have:=bZ.out;omega
     have h2:val16 vs*Q<val16 vs*G:=by omega
     have:=Int.lt_of_mul_lt_mul_left h2 (by omega)
     omega
    clear hlt
    go_wp2_with (go_at_call 314;refine bx.mono ?_;rintro e w1 ⟨rfl,hb1⟩)
    go_roundw
    case rel=>
     exact⟨G - 1,by go_num,hG3,by omega,hbw.trans (hb1.mono hbw.size)⟩
    case measure=>simp[intOf];omega
   ·rw[decide_eq_false hlt] at bx
    have hGQ:G=Q:=by
     rcases (by omega:G=Q\/Q+1<=G) with h | h
     ·exact h
     ·exfalso
      have h1:=Int.mul_le_mul_of_nonneg_left h (by omega:0<=val16 vs)
      rw[Int.mul_add,Int.mul_one] at h1
      have:=bZ.out
      omega
    subst hGQ
    clear hlt
    go_wp2_with (go_at_call 314;refine bx.mono ?_;rintro e w1 ⟨rfl,hb1⟩)
    have hs1:Sav g w w1:=Sav.of (hbw.trans (hb1.mono hbw.size))
    have hk1:BlkP w1 g (A++us++C):=(dC.out).below (hbw.trans (hb1.mono hbw.size))
    clear bx hb1 hbw
    go_loopw [8,44] (fun t8 t44 wr=>∃(i:Nat) (cur:List Int) (owed:Int),i<=n+2/\t44=.int .i64 i/\t8=.int .i64 owed/\-65536<=owed/\owed<=0/\Hid (Dg us vs G i cur owed)/\BlkP wr g (A++cur++C)/\Sav g w wr) (fun _ t44 _=>n+2 - (intOf t44).toNat)
    case atStart=>exact⟨0,us,0,Nat.zero_le _,rfl,rfl,by omega,by omega,Dg.zero du'.out,hk1,hs1⟩
    case round=>
     clear hs1 hk1
     obtain⟨i,cur,owed,hi,rfl,rfl,ow0,ow1,hdg,hbk,hsv⟩:=hrel
     by_cases hlt:i<n+2
     ·have hcl:cur.length=n+2:=by rw[hdg.out.len];exact ae.out.1
      have cu:=hbk.cell (j:=A.length+i) (by simp;omega)
      rw[zb2 (by omega),ae.out.2.2,hdg.out.rest i (Nat.le_refl _)] at cu
      have hfr:=hbk.frozen (j+i)
      have du_i:=du'.out i
      have dv_i:=dv'.out i
      have aY:=fun d=>(zd2 A cur C i d (by omega))
      rw[ae.out.2.2] at aY
      have bQ:Hid (∀d,(A++cur++C).set (j+i) d=A++cur.set i d++C):=aY
      clear aY hcl
      obtain⟨U,hU⟩:∃U,Hid (us.getD i 0=U):=⟨_,rfl⟩
      obtain⟨Y,hY⟩:∃Y,Hid (vs.getD i 0=Y):=⟨_,rfl⟩
      rw[hU.out] at cu du_i
      rw[hY.out] at dv_i
      obtain⟨u0,u1⟩:=du_i
      obtain⟨y0,y1⟩:=dv_i
      have hgy:=zbz ⟨q0,by omega⟩ ⟨y0,y1⟩
      have aa:=fun S hS=>hdg.out.step (S:=S) du'.out dv'.out ⟨q0,by omega⟩ (by rw[ae.out.1];exact hlt) hS
      rw[hU.out,hY.out] at aa
      have aE:Hid (∀S,S=U+owed - G*Y->Dg us vs G (i+1) (cur.set i (S % 65536)) (S / 65536)):=aa
      clear aa
      by_cases hiv:i<n+1
      ·have cy:=dQ.out i (by rw[ae.out.2.1];exact hiv)
       rw[hY.out] at cy
       have cy2:wr.cell? ⟨b,o+i,none⟩=some (.int .u32 Y):=(hsv.cell hb hbg).trans cy
       clear cy
       obtain⟨GY,hGY⟩:∃GY,G*Y=GY:=⟨_,rfl⟩
       rw[hGY] at hgy aE
       go_wp2
       go_roundw
       case rel=>
        have hdS:=aE.out (U+owed - GY) (by rfl)
        have hbS:=hbk.set (j+i) ((U+owed - GY) % 65536)
        rw[bQ.out] at hbS
        rw[zer,show((U+owed - GY) % 65536) % 4294967296=(U+owed - GY) % 65536 by omega]
        exact⟨i+1,_,_,by omega,by go_num,rfl,by omega,by omega,hdS,hbS,hsv.setCell _ _⟩
       case measure=>simp[intOf];omega
      ·have hY0:Y=0:=by
        rw[<-hY.out]
        have:=ae.out.2.1
        simp[List.getD,List.getElem?_eq_none (by omega:vs.length<=i)]
       subst hY0
       go_wp2
       go_roundw
       case rel=>
        have hdS:=aE.out (U+owed) (by simp)
        have hbS:=hbk.set (j+i) ((U+owed) % 65536)
        rw[bQ.out] at hbS
        rw[zer,show((U+owed) % 65536) % 4294967296=(U+owed) % 65536 by omega]
        exact⟨i+1,_,_,by omega,by go_num,rfl,by omega,by omega,hdS,hbS,hsv.setCell _ _⟩
       case measure=>simp[intOf];omega
     ·obtain rfl:i=n+2:=by omega
      have aN:=hdg.out
      have hlu:=ae.out.1
      rw[<-hlu] at aN
      have cQ:=aN.done dv'.out (by rw[ae.out.1,ae.out.2.1];omega) (by have:=bZ.out;rw[Int.mul_comm];omega) (by have:=bZ.out;rw[Int.mul_comm];omega)
      have di:Hid (val16 cur=val16 us - G*val16 vs):=cQ
      clear cQ aN hlu
      go_wp2
      go_ret
      refine⟨cur,rfl,by rw[hdg.out.len];exact ae.out.1,hdg.out.dig,?_,hbk,hsv⟩
      rw[di.out];have:=bZ.out;rw[Int.mul_comm];omega
 ·go_wp2
  go_loopw [7] (fun t7 wr=>∃G:Int,t7=.int .u64 G/\Q<=G/\G<=65535/\Below w.heap.size w wr) (fun t7 _=>(intOf t7).toNat)
  case atStart=>exact⟨_,rfl,hge,by omega,hB⟩
  case round=>
   obtain⟨G,rfl,hG0,hG1,hbw⟩:=hrel
   have bx:=zmp (g:=G) (gG.out.below hbw) (fe.out.below hbw) cH.out (by omega) (by omega) (by rw[ae.out.2.1];omega)
   by_cases hlt:val16 us<val16 vs*G
   ·rw[decide_eq_true hlt] at bx
    have hG2:1<=G:=by
     rcases (by omega:1<=G\/G<=0) with h | h
     ·exact h
     ·exfalso
      have:val16 vs*G<=0:=Int.mul_nonpos_of_nonneg_of_nonpos (by omega) h
      omega
    have hG3:Q<=G - 1:=by
     have h1:val16 vs*Q<=val16 us:=by have:=bZ.out;omega
     have h2:val16 vs*Q<val16 vs*G:=by omega
     have:=Int.lt_of_mul_lt_mul_left h2 (by omega)
     omega
    clear hlt
    go_wp2_with (go_at_call 314;refine bx.mono ?_;rintro e w1 ⟨rfl,hb1⟩)
    go_roundw
    case rel=>
     exact⟨G - 1,by go_num,hG3,by omega,hbw.trans (hb1.mono hbw.size)⟩
    case measure=>simp[intOf];omega
   ·rw[decide_eq_false hlt] at bx
    have hGQ:G=Q:=by
     rcases (by omega:G=Q\/Q+1<=G) with h | h
     ·exact h
     ·exfalso
      have h1:=Int.mul_le_mul_of_nonneg_left h (by omega:0<=val16 vs)
      rw[Int.mul_add,Int.mul_one] at h1
      have:=bZ.out
      omega
    subst hGQ
    clear hlt
    go_wp2_with (go_at_call 314;refine bx.mono ?_;rintro e w1 ⟨rfl,hb1⟩)
    have hs1:Sav g w w1:=Sav.of (hbw.trans (hb1.mono hbw.size))
    have hk1:BlkP w1 g (A++us++C):=(dC.out).below (hbw.trans (hb1.mono hbw.size))
    clear bx hb1 hbw
    go_loopw [8,44] (fun t8 t44 wr=>∃(i:Nat) (cur:List Int) (owed:Int),i<=n+2/\t44=.int .i64 i/\t8=.int .i64 owed/\-65536<=owed/\owed<=0/\Hid (Dg us vs G i cur owed)/\BlkP wr g (A++cur++C)/\Sav g w wr) (fun _ t44 _=>n+2 - (intOf t44).toNat)
    case atStart=>exact⟨0,us,0,Nat.zero_le _,rfl,rfl,by omega,by omega,Dg.zero du'.out,hk1,hs1⟩
    case round=>
     clear hs1 hk1
     obtain⟨i,cur,owed,hi,rfl,rfl,ow0,ow1,hdg,hbk,hsv⟩:=hrel
     by_cases hlt:i<n+2
     ·have hcl:cur.length=n+2:=by rw[hdg.out.len];exact ae.out.1
      have cu:=hbk.cell (j:=A.length+i) (by simp;omega)
      rw[zb2 (by omega),ae.out.2.2,hdg.out.rest i (Nat.le_refl _)] at cu
      have hfr:=hbk.frozen (j+i)
      have du_i:=du'.out i
      have dv_i:=dv'.out i
      have aY:=fun d=>(zd2 A cur C i d (by omega))
      rw[ae.out.2.2] at aY
      have bQ:Hid (∀d,(A++cur++C).set (j+i) d=A++cur.set i d++C):=aY
      clear aY hcl
      obtain⟨U,hU⟩:∃U,Hid (us.getD i 0=U):=⟨_,rfl⟩
      obtain⟨Y,hY⟩:∃Y,Hid (vs.getD i 0=Y):=⟨_,rfl⟩
      rw[hU.out] at cu du_i
      rw[hY.out] at dv_i
      obtain⟨u0,u1⟩:=du_i
      obtain⟨y0,y1⟩:=dv_i
      have hgy:=zbz ⟨q0,by omega⟩ ⟨y0,y1⟩
      have aa:=fun S hS=>hdg.out.step (S:=S) du'.out dv'.out ⟨q0,by omega⟩ (by rw[ae.out.1];exact hlt) hS
      rw[hU.out,hY.out] at aa
      have aE:Hid (∀S,S=U+owed - G*Y->Dg us vs G (i+1) (cur.set i (S % 65536)) (S / 65536)):=aa
      clear aa
      by_cases hiv:i<n+1
      ·have cy:=dQ.out i (by rw[ae.out.2.1];exact hiv)
       rw[hY.out] at cy
       have cy2:wr.cell? ⟨b,o+i,none⟩=some (.int .u32 Y):=(hsv.cell hb hbg).trans cy
       clear cy
       obtain⟨GY,hGY⟩:∃GY,G*Y=GY:=⟨_,rfl⟩
       rw[hGY] at hgy aE
       go_wp2
       go_roundw
       case rel=>
        have hdS:=aE.out (U+owed - GY) (by rfl)
        have hbS:=hbk.set (j+i) ((U+owed - GY) % 65536)
        rw[bQ.out] at hbS
        rw[zer,show((U+owed - GY) % 65536) % 4294967296=(U+owed - GY) % 65536 by omega]
        exact⟨i+1,_,_,by omega,by go_num,rfl,by omega,by omega,hdS,hbS,hsv.setCell _ _⟩
       case measure=>simp[intOf];omega
      ·have hY0:Y=0:=by
        rw[<-hY.out]
        have:=ae.out.2.1
        simp[List.getD,List.getElem?_eq_none (by omega:vs.length<=i)]
       subst hY0
       go_wp2
       go_roundw
       case rel=>
        have hdS:=aE.out (U+owed) (by simp)
        have hbS:=hbk.set (j+i) ((U+owed) % 65536)
        rw[bQ.out] at hbS
        rw[zer,show((U+owed) % 65536) % 4294967296=(U+owed) % 65536 by omega]
        exact⟨i+1,_,_,by omega,by go_num,rfl,by omega,by omega,hdS,hbS,hsv.setCell _ _⟩
       case measure=>simp[intOf];omega
     ·obtain rfl:i=n+2:=by omega
      have aN:=hdg.out
      have hlu:=ae.out.1
      rw[<-hlu] at aN
      have cQ:=aN.done dv'.out (by rw[ae.out.1,ae.out.2.1];omega) (by have:=bZ.out;rw[Int.mul_comm];omega) (by have:=bZ.out;rw[Int.mul_comm];omega)
      have di:Hid (val16 cur=val16 us - G*val16 vs):=cQ
      clear cQ aN hlu
      go_wp2
      go_ret
      refine⟨cur,rfl,by rw[hdg.out.len];exact ae.out.1,hdg.out.dig,?_,hbk,hsv⟩
      rw[di.out];have:=bZ.out;rw[Int.mul_comm];omega
theorem zk2 (ys:List Int):∀u∈ys.map (Value.int .u32),u.oneCell'=true:=ints_oneCell .u32 ys
theorem Sl16.news {w:World} {q:Option Addr} {n cap:Nat} {ys:List Int} (h:Sl16 w (.slice q n cap) ys) {q2:Addr} (hq:q=some q2):∀j u,(ys.map (Value.int .u32))[j]?=some u->w.cell? (q2.add j)=some u:=by
 obtain⟨_,_,q',cap',e,_,hx⟩:=h
 cases e
 intro j u hj
 rcases hx with rfl | ⟨b,o,e,_,hc⟩
 ·simp at hj
 ·cases hq
  cases e
  have hjl:j<ys.length:=by
   rcases Nat.lt_or_ge j ys.length with h | h
   ·exact h
   ·simp[List.getElem?_eq_none h] at hj
  have h:=hc j hjl
  simp only[List.getElem?_map,List.getElem?_eq_getElem hjl,Option.map_some,Option.some.injEq] at hj
  rw[show ys.getD j 0=ys[j] by simp[hjl],hj] at h
  by_cases h0:j=0
  ·subst h0
   simpa [Addr.add] using h
  ·simpa [Addr.add,h0] using h
theorem zc4 {P:Program} {w:World} (base:Nat) (t ty e:TypeId) (i:TypeInfo) (size c:Nat) (ht:P.underlying t=some (.slice e)) (hi:P.info? e=some i)
  (v:Value) (n:Nat) (xs:List Value) (az:w.ownsRow base e size v n xs):
  (Builtin.append_ #[t,t] ty #[v,.slice none 0 c]).run P w=.ok v w:=by
 rcases az.2 with⟨rfl,rfl⟩ | ⟨g,cap,cur,rfl,_,_,hnc,_⟩
 ·simp[Builtin.append_,run_underlying ht,sizeOf,typeInfo,hi,Builtin.lenOf,Builtin.firstCells]
 ·simp[Builtin.append_,run_underlying ht,sizeOf,typeInfo,hi,Builtin.lenOf,Builtin.firstCells,hnc,storeCells]
theorem zcj {P:Program} {w:World} {ops:Array Oper} {rest:List Oper} {o:Oper} {a:Act} {Q:Exit->Act->World->Prop} (hgd:o.guard=none) (s x:Operand) (t:TypeId)
  (ho:o.op=.call { callee:=.builtin .append,args:=#[s,x],argTypes:=#[t,t] })
  (base:Nat) (e:TypeId) (i:TypeInfo) (size c:Nat) (ht:P.underlying t=some (.slice e)) (hi:P.info? e=some i)
  (v:Value) (n:Nat) (xs:List Value) (hs:a.eval s=v) (az:w.ownsRow base e size v n xs) (hx:a.eval x=.slice none 0 c)
  (h:wpList P ops Q rest (a.put o.dst v) w):wpList P ops Q (o::rest) a w:=by
 refine wpList_plain hgd fun K hK=>?_
 have aQ:=zc4 (P:=P) (w:=w) base t o.type e i size c ht hi v n xs az
 unfold Oper.wp
 simp[execOp,ho,resolve,invoke,builtin,hs,hx,aQ,Result.andThen]
 exact hK _ _ h
theorem za2 {w:World} {ops:Array Oper} {rest:List Oper} {o:Oper} {a:Act} {Q:Exit->Act->World->Prop} (hgd:o.guard=none) (s x:Operand)
  (ho:o.op=.call { callee:=.builtin .append,args:=#[s,x],argTypes:=#[90,90] })
  (base:Nat) (v:Value) (n:Nat) (xs:List Value) (hs:a.eval s=v) (az:w.ownsRow base 150 1 v n xs)
  (ys:List Int) (vx:Value) (hx:a.eval x=vx) (hk:Sl16 w vx ys) (h63:n+ys.length<=549755813888) (gI:base<=w.heap.size)
  (h:∀v' w',w'.ownsRow base 150 1 v' (n+ys.length) (xs++ys.map (Value.int .u32))->w.grownBy w' v.ownBlock->wpList Tryz.prog ops Q rest (a.put o.dst v') w'):wpList Tryz.prog ops Q (o::rest) a w:=by
 obtain⟨j0,hj,hz0,hz1,hz2⟩:=info_parts (show(Tryz.prog.info? 150).map (fun i=>(i.zero,i.size,i.bytes))=some (some (.int .u32 0),1,4) by kernel_rfl)
 have hk':=hk
 obtain⟨_,_,q,cap,rfl,aD,hxx⟩:=hk
 match q with
 | none=>
  have:ys=[]:=by
   rcases hxx with h | ⟨b,o,e,_⟩
   ·exact h
   ·cases e
  subst this
  exact zcj hgd s x 90 ho base 150 j0 1 cap Tryz.underlying90 hj v n xs hs az hx (h v w (by simpa using az) ⟨rfl,rfl,rfl,Nat.le_refl _,fun _ _ _=>rfl⟩)
 | some q2=>
  exact wpList_append_own w hgd s x 90 ho base 150 j0 (.int .u32 0) 1 4 Tryz.underlying90 hj hz0 hz1 hz2 rfl (by decide) v n xs hs az q2 ys.length cap (ys.map (Value.int .u32)) hx (by simp) (hk'.news rfl) (zk2 ys) (by unfold maxLen;omega) (by omega) gI fun v' w' h1 h2 _=>h v' w' h1 h2
def OwR (w:World) (base:Nat) (v:Value) (zs:List Int):Prop:=w.ownsRow base 150 1 v zs.length (zs.map (Value.int .u32))
theorem OwR.sl {w:World} {base:Nat} {v:Value} {zs:List Int} (h:OwR w base v zs) (hd:Dig16 zs) (hl:zs.length<=549755813888):Sl16 w v zs:=zem rfl h hd hl
theorem OwR.blk {w:World} {base:Nat} {v:Value} {zs:List Int} (h:OwR w base v zs) (hne:zs≠[]):∃g cap,v=.slice (some ⟨g,0,none⟩) zs.length cap/\base<=g/\zs.length<=cap/\BlkP w g zs:=by
 obtain⟨_,⟨rfl,h0⟩ | ⟨g,cp,cur,rfl,hg,be,h4,h5,h6,h7⟩⟩:=h
 ·exact absurd (List.eq_nil_of_length_eq_zero h0) hne
 ·refine⟨g,cp,rfl,hg,h4,cur,be,fun j hj=>?_⟩
  have h8:(cur.toList.take (zs.length*1))[j]?=(zs.map (Value.int .u32))[j]?:=by rw[h7]
  rw[List.getElem?_take,if_pos (by omega)] at h8
  rw[<-Array.getElem?_toList,h8]
  simp[hj]
theorem zi2 {W:World} {base:Nat} {v:Value} {zs:List Int} (af:OwR W base v zs) (hd:Dig16 zs) (hl:zs.length<=549755813888):
  ∃r,(Calls Tryz.prog 204 #[v] W fun e w'=>e=.returned r/\w'=W)/\OwR W base r (trim zs):=by
 have htl:(trim zs).length=trimTo zs zs.length:=zag zs
 have htt:=zan zs zs.length
 have hsl:=af.sl hd hl
 by_cases hne:zs=[]
 ·subst hne
  obtain⟨_,_,q,cap,rfl,_,_⟩:=hsl
  refine⟨_,zc3 q cap W,?_⟩
  exact af
 ·obtain⟨_,⟨rfl,h0⟩ | ⟨g,cp,cur,rfl,hg,be,h4,h5,h6,h7⟩⟩:=id af
  ·exact absurd (List.eq_nil_of_length_eq_zero h0) hne
  ·obtain⟨_,_,q,cap,e,_,hx⟩:=hsl
   cases e
   rcases hx with h | ⟨b,o,e,hb,hc⟩
   ·exact absurd h hne
   ·cases e
    refine⟨_,zbj g 0 zs.length cp zs W hc h4 (by omega),?_⟩
    rw[<-htl]
    refine⟨by simp,.inr ⟨g,cp,cur,rfl,hg,be,by omega,h5,h6,?_⟩⟩
    have:cur.toList.take ((trim zs).length*1)=(cur.toList.take (zs.length*1)).take ((trim zs).length):=by
     rw[List.take_take]
     congr 1
     omega
    rw[this,h7,<-List.map_take]
    unfold trim
    rw[List.length_take,Nat.min_eq_left htt]
theorem or_add {x c:Int} {s:Nat} (hx:0<=x/\x<=65535) (hs:s<=15) (hc:0<=c/\c<2^s):Go.bits .or .u32 (x*2^s) c=x*2^s+c:=by
 obtain⟨X,rfl⟩:=Int.eq_ofNat_of_zero_le hx.1
 obtain⟨C,rfl⟩:=Int.eq_ofNat_of_zero_le hc.1
 have hC:C<2^s:=by
  have:=hc.2
  rw[show ((2:Int)^s)=((2^s:Nat):Int) by simp] at this
  omega
 have hp:2^s<=2^15:=Nat.pow_le_pow_right (by decide) hs
 have hX:X<=65535:=by omega
 have hXp:X*2^s<=65535*2^15:=Nat.mul_le_mul hX hp
 have h:((BitVec.ofInt 32 ((X:Int)*2^s) ||| BitVec.ofInt 32 (C:Int)).toNat:Int)=(X:Int)*2^s+C:=by
  rw[show (X:Int)*2^s=((X*2^s:Nat):Int) by simp]
  rw[BitVec.toNat_or,BitVec.toNat_ofInt,BitVec.toNat_ofInt]
  have e1:(((X*2^s:Nat):Int) % ((2^32:Nat):Int)).toNat=X*2^s:=by omega
  have e2:((C:Int) % ((2^32:Nat):Int)).toNat=C:=by omega
  rw[e1,e2,Nat.mul_comm,<-Nat.two_pow_add_eq_or_of_lt hC]
  omega
 show IntKind.u32.wrap ((BitVec.ofInt 32 ((X:Int)*2^s) ||| BitVec.ofInt 32 (C:Int)).toNat:Int)=_
 rw[h]
 rw[show (X:Int)*2^s+C=((X*2^s+C:Nat):Int) by simp]
 simp only[IntKind.wrap_u32]
 omega
structure Sh (xs:List Int) (s k:Nat) (out:List Int) (cy:Int):Prop where
 len:out.length=k
 dig:Dig16 out
 c:0<=cy/\cy<2^s
 eq:val16 out+cy*65536^k=val16 (xs.take k)*2^s
theorem zar (s:Nat):(0:Int)<2^s:=Int.pow_pos (by decide)
theorem Sh.zero (xs:List Int) (s:Nat):Sh xs s 0 [] 0:=⟨rfl,fun j=>by simp[List.getD],⟨by decide,zar s⟩,by simp[val16]⟩
theorem Sh.step {xs out:List Int} {s k:Nat} {cy S:Int} (h:Sh xs s k out cy) (dx:Dig16 xs) (hS:S=xs.getD k 0*2^s+cy):Sh xs s (k+1) (out++[S % 65536]) (S / 65536):=by
 have hd:=dx k
 have hc:=h.c
 have hp:=zar s
 have h0:0<=xs.getD k 0*2^s:=Int.mul_nonneg hd.1 (by omega)
 have h1:xs.getD k 0*2^s<=65535*2^s:=Int.mul_le_mul_of_nonneg_right hd.2 (by omega)
 refine⟨by simp[h.len],zbu h.dig (by omega),by omega,?_⟩
 have he:=h.eq
 rw[zbv,zas,h.len,Int.pow_succ,Int.add_mul]
 have e:S*65536^k=S % 65536*65536^k+S / 65536*(65536^k*65536):=by
  have h1:S=S % 65536+65536*(S / 65536):=by omega
  generalize (65536:Int)^k=p
  calc S*p=(S % 65536+65536*(S / 65536))*p:=by rw[<-h1]
   _=_:=by rw[Int.add_mul,Int.mul_comm 65536,Int.mul_assoc,Int.mul_comm 65536 p]
 have e2:S*65536^k=xs.getD k 0*65536^k*2^s+cy*65536^k:=by
  rw[hS,Int.add_mul,Int.mul_assoc,Int.mul_comm (2^s),<-Int.mul_assoc]
 omega
theorem zdl (w:World):(w.alloc (.cells #[] 150)).ownsRow w.heap.size 150 1 (.slice (some ⟨w.heap.size,0,none⟩) 0 0) 0 []:=World.ownsRow_made w #[] 0 (Nat.le_refl _) (by decide) rfl
theorem zaa (w:World) (o:Obj):Below w.heap.size w (w.alloc o):=(Below.refl _ _).alloc (Nat.le_refl _) o
theorem zjp {w:World} {q:Option Addr} {cap:Nat} (s:Int) (hx:Sl16 w (.slice q 0 cap) []):
  Calls Tryz.prog 202 #[.slice q 0 cap,.int .i64 s] w fun e w'=>∃r,e=.returned r/\OwR w' w.heap.size r []/\Below w.heap.size w w':=by
 have hx':=hx.below (zaa w (.cells #[] 150))
 go_enter Tryz.func202,Tryz.ntmps202
 go_wp2_with (at_builtin;refine za2 rfl _ _ rfl w.heap.size (.slice (some ⟨w.heap.size,0,none⟩) 0 0) 0 [] rfl (zdl w) [] (.slice q 0 cap) rfl hx' (by simp) (by simp) ?_;intro v' w2 aA dj)
 go_ret
 exact⟨v',rfl,aA,(zaa w _).grown dj (by simp) (fun g hg=>by cases hg;exact Nat.le_refl _)⟩
theorem zh4 {w:World} {q:Option Addr} {cap:Nat} {xs:List Int} (hx:Sl16 w (.slice q xs.length cap) xs) (hne:((xs.length:Int)==0)=false):
  Calls Tryz.prog 202 #[.slice q xs.length cap,.int .i64 0] w fun e w'=>∃r,e=.returned r/\OwR w' w.heap.size r xs/\Below w.heap.size w w':=by
 have hx':=hx.below (zaa w (.cells #[] 150))
 have hl:=hx.2.1
 go_enter Tryz.func202,Tryz.ntmps202
 go_wp2_with (at_builtin;refine za2 rfl _ _ rfl w.heap.size (.slice (some ⟨w.heap.size,0,none⟩) 0 0) 0 [] rfl (zdl w) xs (.slice q xs.length cap) rfl hx' (by omega) (by simp) ?_;intro v' w2 aA dj)
 go_ret
 refine⟨v',rfl,?_,(zaa w _).grown dj (by simp) (fun g hg=>by cases hg;exact Nat.le_refl _)⟩
 simpa [OwR] using aA
theorem zh5 {w:World} {b o cap:Nat} {xs:List Int} (s:Nat) (hs0:1<=s) (hs1:s<=15) (hne:((xs.length:Int)==0)=false) (dx:Dig16 xs) (lx:xs.length<=274877906944) (hb:b<w.heap.size)
  (hcx:∀i,i<xs.length->w.cell? ⟨b,o+i,none⟩=some (.int .u32 (xs.getD i 0))):
  Calls Tryz.prog 202 #[.slice (some ⟨b,o,none⟩) xs.length cap,.int .i64 s] w fun e w'=>∃r out cy,e=.returned r/\Sh xs s xs.length out cy/\OwR w' w.heap.size r (trim (out++[cy]))/\Below w.heap.size w w':=by
 obtain⟨i0,hi,hz0,hz1,hz2⟩:=info_parts (show(Tryz.prog.info? 150).map (fun i=>(i.zero,i.size,i.bytes))=some (some (.int .u32 0),1,4) by kernel_rfl)
 have hq:(s:Int).tdiv 16=0:=by rw[Int.tdiv_eq_ediv_of_nonneg (by omega)];omega
 have hr:(s:Int).tmod 16=s:=by rw[Int.tmod_eq_emod_of_nonneg (by omega)];omega
 have hnle:¬(s:Int)<=0:=by omega
 have hp1:(2:Int)^s<=32768:=by
  have:2^s<=2^15:=Nat.pow_le_pow_right (by decide) hs1
  rw[show ((2:Int)^s)=((2^s:Nat):Int) by simp]
  omega
 have iI:Hid ((2:Int)^s<=32768):=hp1
 have cx':=zab hcx
 have dx':Hid (Dig16 xs):=dx
 clear hcx dx hp1
 go_enter Tryz.func202,Tryz.ntmps202
 go_wp2_with (at_make;refine wpList_make_own _ rfl _ _ 90 rfl w.heap.size 150 i0 (.int .u32 0) 1 Tryz.underlying90 hi hz0 hz1 .i64 .i64 _ (xs.length+1) rfl rfl (by omega) (by rw[hz2];omega) (by unfold maxLen;omega) (Nat.le_refl _) ?_;intro w1 cR dR)
 have W1:Below w.heap.size w w1:=(Below.refl _ _).grown dR (Nat.le_refl _) (fun g hg=>by cases hg)
 go_loopw [5,6,31] (fun t5 t6 i wr=>∃(k:Nat) (out:List Int) (cy:Int),k<=xs.length/\i=.int .i64 k/\t6=.int .u32 cy/\0<=cy/\cy<=65535/\wr.ownsRow w.heap.size 150 1 t5 k (out.map (Value.int .u32))/\Hid (Sh xs s k out cy)/\Below w.heap.size w wr) (fun _ _ i _=>xs.length - (intOf i).toNat)
 case atStart=>exact⟨0,[],0,Nat.zero_le _,rfl,rfl,by omega,by omega,cR,Sh.zero xs s,W1⟩
 case round=>
  clear cR dR W1
  obtain⟨k,out,cy,hk,rfl,rfl,c0,c1,af,hsh,hbw⟩:=hrel
  have hws:=hbw.size
  by_cases hlt:k<xs.length
  ·have aF:(k:Int)<(xs.length:Int):=by omega
   have cc:wr.cell? ⟨b,o+k,none⟩=some (.int .u32 (xs.getD k 0)):=(hbw.cell (by exact hb)).trans (cx'.out k hlt)
   have hxk:=dx'.out k
   obtain⟨X,hX⟩:∃X,Hid (xs.getD k 0=X):=⟨_,rfl⟩
   rw[hX.out] at cc hxk
   obtain⟨x0,x1⟩:=hxk
   have hcs:=hsh.out.c
   have hm0:0<=X*2^s:=Int.mul_nonneg x0 (by have:=zar s;omega)
   have hm1:X*2^s<=2147450880:=by
    have h1:X*2^s<=65535*2^s:=Int.mul_le_mul_of_nonneg_right x1 (by have:=zar s;omega)
    have:=iI.out
    omega
   have hor:=or_add ⟨x0,x1⟩ hs1 hcs
   have hS1:X*2^s+cy<=2147516415:=by omega
   have aa:=hsh.out.step dx'.out (S:=X*2^s+cy) (by rw[hX.out])
   clear hcs
   obtain⟨S,hS⟩:∃S,X*2^s+cy=S:=⟨_,rfl⟩
   rw[hS] at hor hS1 aa
   have hS0:0<=S:=by omega
   clear hS
   have aE:Hid (Sh xs s (k+1) (out++[S % 65536]) (S / 65536)):=aa
   clear aa
   go_wp2_with (at_builtin;refine wpList_append_own _ rfl _ _ 90 rfl w.heap.size 150 i0 (.int .u32 0) 1 4 Tryz.underlying90 hi hz0 hz1 hz2 rfl (by decide) _ _ _ rfl (af.alloc _) ⟨wr.heap.size,0,none⟩ 1 1 [.int .u32 (S % 65536)] rfl rfl (World.news_of_block (heap_alloc_last wr (.cells #[.int .u32 (S % 65536)] 150))) (ints_oneCell .u32 [S % 65536]) (by unfold maxLen;omega) (by omega) (by simp;omega) ?_;intro v' w2 aA ap _)
   go_roundw
   case rel=>
    exact⟨k+1,out++[S % 65536],S / 65536,by omega,by go_num,rfl,by omega,by omega,by rw[List.map_append];exact aA,aE,(hbw.alloc hws _).grown ap (by simp;omega) (fun g hg=>(af.lt g hg).1)⟩
   case measure=>simp[intOf];omega
  ·obtain rfl:k=xs.length:=by omega
   have ae:=hsh.out.len
   go_wp2_with (at_builtin;refine wpList_append_own _ rfl _ _ 90 rfl w.heap.size 150 i0 (.int .u32 0) 1 4 Tryz.underlying90 hi hz0 hz1 hz2 rfl (by decide) _ _ _ rfl (af.alloc _) ⟨wr.heap.size,0,none⟩ 1 1 [.int .u32 cy] rfl rfl (World.news_of_block (heap_alloc_last wr (.cells #[.int .u32 cy] 150))) (ints_oneCell .u32 [cy]) (by unfold maxLen;omega) (by omega) (by simp;omega) ?_;intro v' w2 aA ap _)
   have hor:OwR w2 w.heap.size v' (out++[cy]):=by
    unfold OwR
    rw[List.map_append,List.length_append,ae]
    exact aA
   obtain⟨r,ai,hr⟩:=zi2 hor (zbu hsh.out.dig ⟨c0,c1⟩) (by simp[ae];omega)
   go_wp2_with (go_at_call 204;refine ai.mono ?_;rintro e w9 ⟨rfl,rfl⟩)
   go_ret
   exact⟨r,out,cy,rfl,hsh.out,hr,(hbw.alloc hws _).grown ap (by simp;omega) (fun g hg=>(af.lt g hg).1)⟩
theorem Sh.done {xs out:List Int} {s:Nat} {cy:Int} (h:Sh xs s xs.length out cy):val16 (trim (out++[cy]))=val16 xs*2^s:=by
 have:=h.eq
 rw[List.take_length] at this
 rw[zaq,zbv,h.len,this]
theorem zg0 {w:World} {v:Value} {xs:List Int} (hx:Sl16 w v xs) (cx:Canon xs) (lx:xs.length<=274877906944) (s:Nat) (hs:s<=15):
  Calls Tryz.prog 202 #[v,.int .i64 s] w fun e w'=>∃r zs,e=.returned r/\OwR w' w.heap.size r zs/\Dig16 zs/\Canon zs/\val16 zs=val16 xs*2^s/\zs.length<=xs.length+1/\Below w.heap.size w w':=by
 have hx':=hx
 obtain⟨dx,_,q,cap,rfl,aD,hxx⟩:=hx
 by_cases h0:xs=[]
 ·subst h0
  refine(zjp s hx').mono ?_
  rintro e w' ⟨r,rfl,hr,hb⟩
  exact⟨r,[],rfl,hr,dx,cx,by simp[val16],by simp,hb⟩
 ·have hne:((xs.length:Int)==0)=false:=by
   have:xs.length≠0:=fun h=>h0 (List.eq_nil_of_length_eq_zero h)
   simp;omega
  by_cases hs0:s=0
  ·subst hs0
   refine(zh4 hx' hne).mono ?_
   rintro e w' ⟨r,rfl,hr,hb⟩
   exact⟨r,xs,rfl,hr,dx,cx,by simp,by omega,hb⟩
  ·rcases hxx with h | ⟨b,o,rfl,hb,hc⟩
   ·exact absurd h h0
   ·refine(zh5 s (by omega) hs hne dx lx hb hc).mono ?_
    rintro e w' ⟨r,out,cy,rfl,hsh,hr,hbw⟩
    have hp1:(2:Int)^s<=65536:=by
     have:2^s<=2^16:=Nat.pow_le_pow_right (by decide) (by omega)
     rw[show ((2:Int)^s)=((2^s:Nat):Int) by simp]
     omega
    have hcc:=hsh.c
    refine⟨r,trim (out++[cy]),rfl,hr,zaw (zbu hsh.dig ⟨hcc.1,by omega⟩),zal _,hsh.done,?_,hbw⟩
    rw[zag]
    have:=zan (out++[cy]) (out++[cy]).length
    have h2:=hsh.len
    simp at this
    simp
    omega
end Go.Proofs.YtnnhofmknilopaaGreatDoor
