import Derived.Test.YtaonejnicgbifaaGreatDoorQk21
namespace Go.Proofs.YtaonejnicgbifaaGreatDoor
open Go Go.RowKit
set_option maxRecDepth 100000
set_option maxHeartbeats 16000000
theorem zjs (b o cap b2 o2 cap2:Nat) (xs ys:List Int) (w:World) (hl:xs.length=ys.length) (dx:Dig xs) (dy:Dig ys) (hn:xs.length<=1099511627776)
  (hcx:∀i,i<xs.length->w.cell? ⟨b,o+i,none⟩=some (.int .u32 (xs.getD i 0))) (hcy:∀i,i<ys.length->w.cell? ⟨b2,o2+i,none⟩=some (.int .u32 (ys.getD i 0))) (hb1:b<w.heap.size) (hb2:b2<w.heap.size):
  Calls Tryz.prog 89 #[.slice (some ⟨b,o,none⟩) xs.length cap,.slice (some ⟨b2,o2,none⟩) xs.length cap2] w fun e w'=>∃c:Int,e=.returned (.int .i64 c)/\(c<0↔val xs<val ys)/\(c=0↔xs=ys)/\(-1<=c/\c<=1)/\Below w.heap.size w w':=by
 have dx':Hid (Dig xs):=dx
 have dy':Hid (Dig ys):=dy
 clear dx dy
 go_enter Tryz.func89,Tryz.ntmps89
 go_wp2
 go_loopw [5] (fun i wr=>∃k:Nat,k<=xs.length/\i=.int .i64 ((k:Int) - 1)/\(∀j,k<=j->j<xs.length->xs.getD j 0=ys.getD j 0)/\Below w.heap.size w wr) (fun i _=>(intOf i+1).toNat)
 case atStart=>exact⟨xs.length,Nat.le_refl _,by simp[hl],fun j h1 h2=>by omega,Below.refl _ _⟩
 case round=>
  obtain⟨k,hk,rfl,hag,hbw⟩:=hrel
  have aK:=zac hag
  clear hag
  match k,hk,aK with
  | 0,hk,aK=>
   go_wp2
   go_ret
   have e:=zcy hl (fun j hj=>aK.out j (Nat.zero_le _) hj)
   exact⟨0,rfl,by simp[e],by simp[e],by decide,hbw⟩
  | k+1,hk,aK=>
   have e1:((k+1:Nat):Int) - 1=(k:Int):=by omega
   rw[e1]
   have c1:wr.cell? ⟨b,o+k,none⟩=some (.int .u32 (xs.getD k 0)):=(hbw.cell (by exact hb1)).trans (hcx k (by omega))
   have c2:wr.cell? ⟨b2,o2+k,none⟩=some (.int .u32 (ys.getD k 0)):=(hbw.cell (by exact hb2)).trans (hcy k (by omega))
   generalize hX:xs.getD k 0=X at c1
   generalize hY:ys.getD k 0=Y at c2
   have hkl:(k:Int)<(xs.length:Int):=by omega
   go_wp2
   go_quiet (fail)
   have hB:Below w.heap.size w (wr.drewN nq):=zaj hbw _
   have c1':(wr.drewN nq).cell? ⟨b,o+k,none⟩=some (.int .u32 X):=c1
   have c2':(wr.drewN nq).cell? ⟨b2,o2+k,none⟩=some (.int .u32 Y):=c2
   generalize wr.drewN nq=wz at hB c1' c2' ⊢
   clear c1 c2
   go_wp2
   ·go_ret
    have hlt:X<Y:=by assumption
    have e:=zb2 (xs:=xs) (ys:=ys) (j:=k) (by omega)
    exact⟨-1,rfl,⟨fun _=>zcs hl dx'.out dy'.out (by omega) (by rw[hX,hY];exact hlt) aK.out,fun _=>by decide⟩,by simp[e],by decide,hB⟩
   ·go_quiet (fail)
    have hB2:Below w.heap.size w (wz.drewN nq):=zaj hB _
    go_wp2
    ·go_ret
     have hlt:X > Y:=by assumption
     have e:=zb2 (xs:=xs) (ys:=ys) (j:=k) (by omega)
     have hv:=zcs hl.symm dy'.out dx'.out (k:=k) (by omega) (by rw[hX,hY];exact hlt) (fun j h1 h2=>(aK.out j h1 (by omega)).symm)
     exact⟨1,rfl,⟨fun h=>absurd h (by decide),fun h=>by omega⟩,by simp[e],by decide,hB2⟩
    ·go_roundw
     case rel=>
      refine⟨k,by omega,by go_num,fun j h1 h2=>?_,hB2⟩
      rcases Nat.lt_or_ge k j with h | h
      ·exact aK.out j h h2
      ·have:j=k:=by omega
       subst this;omega
     case measure=>simp[intOf]
theorem zlm {w:World} {v u:Value} {xs ys:List Int} (hx:Sl w v xs) (hy:Sl w u ys) (cx:Canon xs) (cy:Canon ys):
  Calls Tryz.prog 89 #[v,u] w fun e w'=>∃c:Int,e=.returned (.int .i64 c)/\(c<0↔val xs<val ys)/\(c=0↔xs=ys)/\(-1<=c/\c<=1)/\Below w.heap.size w w':=by
 obtain⟨x1,x2,q,cap,rfl,x4,x5⟩:=hx
 obtain⟨y1,y2,q',cap',rfl,y4,y5⟩:=hy
 rcases Nat.lt_trichotomy xs.length ys.length with hl | hl | hl
 ·refine(zee q q' xs.length ys.length cap cap' w hl).mono ?_
  rintro e w' ⟨rfl,rfl⟩
  exact⟨-1,rfl,⟨fun _=>zbt x1 y1 cy hl,fun _=>by decide⟩,⟨fun h=>absurd h (by decide),fun h=>by rw[h] at hl;omega⟩,by decide,Below.refl _ _⟩
 ·by_cases hx0:xs=[]
  ·subst hx0
   have hy0:ys=[]:=List.eq_nil_of_length_eq_zero hl.symm
   subst hy0
   refine(zew q q' cap cap' w).mono ?_
   rintro e w' ⟨rfl,rfl⟩
   exact⟨0,rfl,by simp,by simp,by decide,Below.refl _ _⟩
  ·have hy0:ys≠[]:=fun h=>hx0 (List.eq_nil_of_length_eq_zero (by rw[hl,h];rfl))
   rcases x5 with h | ⟨b,o,rfl,hlt,hc⟩
   ·exact absurd h hx0
   rcases y5 with h | ⟨b',o',rfl,aA,hc'⟩
   ·exact absurd h hy0
   rw[<-hl]
   exact zjs b o cap b' o' cap' xs ys w hl x1 y1 (by omega) hc hc' hlt aA
 ·refine(zex q q' xs.length ys.length cap cap' w hl).mono ?_
  rintro e w' ⟨rfl,rfl⟩
  have:=zbt y1 x1 cx hl
  exact⟨1,rfl,⟨fun h=>absurd h (by decide),fun h=>by omega⟩,⟨fun h=>absurd h (by decide),fun h=>by rw[h] at hl;omega⟩,by decide,Below.refl _ _⟩
def sgF (g:Bool) (n:Int):Int:=if n=0 then 0 else if g then -1 else 1
def cmp3 (x y:Int):Int:=if x<y then -1 else if x=y then 0 else 1
def fcS (g1:Bool) (n1 d1:Int) (g2:Bool) (n2 d2:Int):Int:=
 if sgF g1 n1=sgF g2 n2 then(if g1 then - cmp3 (n1*d2) (n2*d1) else cmp3 (n1*d2) (n2*d1)) else if sgF g1 n1<sgF g2 n2 then -1 else 1
theorem sgF_b (g:Bool) (n:Int):-1<=sgF g n/\sgF g n<=1:=by
 unfold sgF
 split
 ·omega
 ·split<;>omega
theorem cmp3_b (x y:Int):-1<=cmp3 x y/\cmp3 x y<=1:=by
 unfold cmp3
 split
 ·omega
 ·split<;>omega
theorem zln {w:World} {a b:Value} {xs ys:List Int} (hx:Sl w a xs) (hy:Sl w b ys) (_cx:Canon xs) (_cy:Canon ys) (lx:xs.length<=274877906000) (ly:ys.length<=274877906000):
  Calls Tryz.prog 88 #[a,b] w fun e w'=>∃u zs,e=.returned u/\Sl w' u zs/\Canon zs/\val zs=val xs*val ys/\zs.length<=549755813000/\Below w.heap.size w w':=by
 obtain⟨dx,_,q,cap,rfl,_,hx2⟩:=hx
 obtain⟨dy,_,q',cap',rfl,_,hy2⟩:=hy
 by_cases h0:xs.length=0\/ys.length=0
 ·refine(zkf h0).mono ?_
  rintro e w' ⟨rfl,rfl⟩
  have hv:val xs*val ys=0:=by
   rcases h0 with h | h
   ·rw[List.eq_nil_of_length_eq_zero h];simp[val]
   ·rw[List.eq_nil_of_length_eq_zero h];simp[val]
  exact⟨_,[],rfl,Sl.nil _,zbb,by rw[hv];rfl,by simp,Below.refl _ _⟩
 ·rcases hx2 with h | ⟨b1,o1,rfl,hb1,hc1⟩
  ·exact absurd (.inl (by rw[h];rfl)) h0
  rcases hy2 with h | ⟨b2,o2,rfl,hb2,hc2⟩
  ·exact absurd (.inr (by rw[h];rfl)) h0
  refine(zkg b1 o1 cap b2 o2 cap' _ xs ys w rfl (by omega) (by omega) (by omega) dx dy hc1 hc2 hb1 hb2).mono ?_
  rintro e w' ⟨u,os,hO,rfl,hu,hb⟩
  refine⟨u,trim os,rfl,hu,zak os,?_,?_,hb⟩
  ·rw[zbl,hO.eq,List.take_length]
  ·have h1:=zam os os.length
   have h2:=hO.len
   rw[zai]
   omega
abbrev SRd (w:World) (g1:Bool) (q1:Option Addr) (l1:Nat) (c1:Nat) (p1:Option Addr) (m1:Nat) (e1:Nat) (g2:Bool) (q2:Option Addr) (l2:Nat) (c2:Nat) (p2:Option Addr) (m2:Nat) (e2:Nat):World->Prop:=fun z=>z.cell? ⟨w.heap.size,0,none⟩=some (.bool g1)/\z.cell? ⟨w.heap.size,1,none⟩=some (.slice q1 l1 c1)/\z.cell? ⟨w.heap.size,2,none⟩=some (.slice p1 m1 e1)/\z.cell? ⟨(w.heap.size+1),0,none⟩=some (.bool g2)/\z.cell? ⟨(w.heap.size+1),1,none⟩=some (.slice q2 l2 c2)/\z.cell? ⟨(w.heap.size+1),2,none⟩=some (.slice p2 m2 e2)
theorem zlo {w:World} {g1 g2:Bool} {q1 p1 q2 p2:Option Addr} {l1 c1 m1 e1 l2 c2 m2 e2:Nat} {s1 s2 c:Int}
  (hs1:CA w 87 #[.agg (qA g1 q1 l1 c1 p1 m1 e1)] (.int .i64 s1))
  (hs2:CA w 87 #[.agg (qA g2 q2 l2 c2 p2 m2 e2)] (.int .i64 s2))
  (hm:∀z,Below w.heap.size w z->Calls Tryz.prog 88 #[.slice q1 l1 c1,.slice p2 m2 e2] z fun e w'=>∃qa la ca,e=.returned (.slice qa la ca)/\Below z.heap.size z w'/\∀z2,Below w'.heap.size w' z2->Calls Tryz.prog 88 #[.slice q2 l2 c2,.slice p1 m1 e1] z2 fun e w''=>∃qb lb cb,e=.returned (.slice qb lb cb)/\Below z2.heap.size z2 w''/\Calls Tryz.prog 89 #[.slice qa la ca,.slice qb lb cb] w'' fun e w3=>e=.returned (.int .i64 c)/\Below w''.heap.size w'' w3)
  (hc:-1<=c/\c<=1) (_hr1:-1<=s1/\s1<=1) (_hr2:-1<=s2/\s2<=1):
  Calls Tryz.prog 58 #[.agg (qA g1 q1 l1 c1 p1 m1 e1),.agg (qA g2 q2 l2 c2 p2 m2 e2)] w fun e w'=>e=.returned (.int .i64 (if s1=s2 then(if g1 then -c else c) else if s1<s2 then -1 else 1))/\Below w.heap.size w w':=by
 have hb0:Hid (Below w.heap.size w ((w.alloc (.cells (qA g1 q1 l1 c1 p1 m1 e1) 107)).alloc (.cells (qA g2 q2 l2 c2 p2 m2 e2) 107))):=zah w _ _
 have h1:=zac hs1
 have h2:=zac hs2
 have hmm:Hid _:=hm
 have hS0:(SRd w g1 q1 l1 c1 p1 m1 e1 g2 q2 l2 c2 p2 m2 e2) ((w.alloc (.cells (qA g1 q1 l1 c1 p1 m1 e1) 107)).alloc (.cells (qA g2 q2 l2 c2 p2 m2 e2) 107)):=⟨by simp,by simp,by simp,by simp,by simp,by simp⟩
 have hsT:w.heap.size+1<((w.alloc (.cells (qA g1 q1 l1 c1 p1 m1 e1) 107)).alloc (.cells (qA g2 q2 l2 c2 p2 m2 e2) 107)).heap.size:=by simp
 have hrc:Hid (-1<=c/\c<=1):=hc
 clear hs1 hs2 hm hc
 obtain⟨R,hR⟩:∃R:Int,Hid ((if s1=s2 then(if g1 then -c else c) else if s1<s2 then -1 else 1)=R):=⟨_,rfl⟩
 rw[hR.out]
 go_enter Tryz.func58,Tryz.ntmps58
 go_upto_region 1 with fail
 generalize ((w.alloc (.cells (qA g1 q1 l1 c1 p1 m1 e1) 107)).alloc (.cells (qA g2 q2 l2 c2 p2 m2 e2) 107))=W0 at*
 have jZ:w.heap.size<W0.heap.size:=by omega
 have aG:w.heap.size+1<W0.drew.heap.size:=hsT
 have dV:w.heap.size<W0.drew.heap.size:=jZ
 refine wp_region_held_drew (S:=(SRd w g1 q1 l1 c1 p1 m1 e1 g2 q2 l2 c2 p2 m2 e2)) (by kernel_rfl) hS0 (fun ah=>?_)
 refine tk 0 (.agg (qA g1 q1 l1 c1 p1 m1 e1)) rfl ah ?_
 simp only[pz]
 refine tk 2 (.agg (qA g2 q2 l2 c2 p2 m2 e2)) rfl ah ?_
 simp only[pz]
 refine rdy 1 rfl (fun K hK=>?_)
 go_simp
 refine(h1.out _ hb0.out.drew).mono ?_
 rintro e w5 ⟨rfl,hb5⟩
 have H5:(SRd w g1 q1 l1 c1 p1 m1 e1 g2 q2 l2 c2 p2 m2 e2) w5:=⟨(hb5.cell (by exact dV)).trans hS0.1,(hb5.cell (by exact dV)).trans hS0.2.1,(hb5.cell (by exact dV)).trans hS0.2.2.1,(hb5.cell (by exact aG)).trans hS0.2.2.2.1,(hb5.cell (by exact aG)).trans hS0.2.2.2.2.1,(hb5.cell (by exact aG)).trans hS0.2.2.2.2.2⟩
 have s5:w.heap.size<w5.heap.size:=Nat.lt_of_lt_of_le dV hb5.size
 have t5:w.heap.size+1<w5.heap.size:=Nat.lt_of_lt_of_le aG hb5.size
 have W5:Hid (Below w.heap.size w w5):=hb0.out.drew.trans (hb5.mono hb0.out.drew.size)
 refine hK.out _ _ H5 (fun b6=>?_)
 clear hK K ah
 refine rdy 3 rfl (fun K hK=>?_)
 go_simp
 refine(h2.out _ W5.out).mono ?_
 rintro e w6 ⟨rfl,hb6⟩
 have H6:(SRd w g1 q1 l1 c1 p1 m1 e1 g2 q2 l2 c2 p2 m2 e2) w6:=⟨(hb6.cell (by exact s5)).trans H5.1,(hb6.cell (by exact s5)).trans H5.2.1,(hb6.cell (by exact s5)).trans H5.2.2.1,(hb6.cell (by exact t5)).trans H5.2.2.2.1,(hb6.cell (by exact t5)).trans H5.2.2.2.2.1,(hb6.cell (by exact t5)).trans H5.2.2.2.2.2⟩
 have s6:w.heap.size<w6.heap.size:=Nat.lt_of_lt_of_le s5 hb6.size
 have t6:w.heap.size+1<w6.heap.size:=Nat.lt_of_lt_of_le t5 hb6.size
 have W6:Hid (Below w.heap.size w w6):=W5.out.trans (hb6.mono W5.out.size)
 refine hK.out _ _ H6 (fun cC=>?_)
 clear hK K b6
 refine tk 4 (.bool (s1 != s2)) rfl cC ?_
 simp only[pz]
 refine wpAnyH_done (by kernel_rfl) ?_ _
 clear cC
 have x0:=H6.1
 by_cases he:s1=s2
 ·have hne:(s1 != s2)=false:=by simp[he]
  have hR1:Hid (R=if g1 then -c else c):=by
   show R=_
   rw[<-hR.out,if_pos he]
  rw[hne]
  clear h1 h2 hS0 hR
  go_upto_region 5 with fail
  have s6':w.heap.size<w6.drew.heap.size:=s6
  have t6':w.heap.size+1<w6.drew.heap.size:=t6
  refine wp_region_held_drew (S:=(SRd w g1 q1 l1 c1 p1 m1 e1 g2 q2 l2 c2 p2 m2 e2)) (by kernel_rfl) H6 (fun ah=>?_)
  refine tk 0 (.pointer (some ⟨w.heap.size,1,none⟩)) rfl ah ?_
  simp only[pz]
  refine tk 1 (.slice q1 l1 c1) rfl ah ?_
  simp only[pz]
  refine tk 2 (.pointer (some ⟨(w.heap.size+1),2,none⟩)) rfl ah ?_
  simp only[pz]
  refine tk 3 (.slice p2 m2 e2) rfl ah ?_
  simp only[pz]
  refine tk 5 (.pointer (some ⟨(w.heap.size+1),1,none⟩)) rfl ah ?_
  simp only[pz]
  refine tk 6 (.slice q2 l2 c2) rfl ah ?_
  simp only[pz]
  refine tk 7 (.pointer (some ⟨w.heap.size,2,none⟩)) rfl ah ?_
  simp only[pz]
  refine tk 8 (.slice p1 m1 e1) rfl ah ?_
  simp only[pz]
  refine rdy 4 rfl (fun K hK=>?_)
  go_simp
  refine(hmm.out _ W6.out.drew).mono ?_
  rintro e w8 ⟨qa,la,ca,rfl,hb8,hm2⟩
  have H8:(SRd w g1 q1 l1 c1 p1 m1 e1 g2 q2 l2 c2 p2 m2 e2) w8:=⟨(hb8.cell (by exact s6')).trans H6.1,(hb8.cell (by exact s6')).trans H6.2.1,(hb8.cell (by exact s6')).trans H6.2.2.1,(hb8.cell (by exact t6')).trans H6.2.2.2.1,(hb8.cell (by exact t6')).trans H6.2.2.2.2.1,(hb8.cell (by exact t6')).trans H6.2.2.2.2.2⟩
  have s8:w.heap.size<w8.heap.size:=Nat.lt_of_lt_of_le s6' hb8.size
  have t8:w.heap.size+1<w8.heap.size:=Nat.lt_of_lt_of_le t6' hb8.size
  have W8:Hid (Below w.heap.size w w8):=W6.out.drew.trans (hb8.mono W6.out.drew.size)
  refine hK.out _ _ H8 (fun b9=>?_)
  clear hK K ah
  refine rdy 9 rfl (fun K hK=>?_)
  go_simp
  refine(hm2 _ (Below.refl _ _)).mono ?_
  rintro e w9 ⟨qb,lb,cb,rfl,hb9,hm3⟩
  have H9:(SRd w g1 q1 l1 c1 p1 m1 e1 g2 q2 l2 c2 p2 m2 e2) w9:=⟨(hb9.cell (by exact s8)).trans H8.1,(hb9.cell (by exact s8)).trans H8.2.1,(hb9.cell (by exact s8)).trans H8.2.2.1,(hb9.cell (by exact t8)).trans H8.2.2.2.1,(hb9.cell (by exact t8)).trans H8.2.2.2.2.1,(hb9.cell (by exact t8)).trans H8.2.2.2.2.2⟩
  have s9:w.heap.size<w9.heap.size:=Nat.lt_of_lt_of_le s8 hb9.size
  have t9:w.heap.size+1<w9.heap.size:=Nat.lt_of_lt_of_le t8 hb9.size
  have W9:Hid (Below w.heap.size w w9):=W8.out.trans (hb9.mono W8.out.size)
  refine hK.out _ _ H9 (fun bu=>?_)
  clear hK K b9
  refine rdy 10 rfl (fun K hK=>?_)
  go_simp
  refine hm3.mono ?_
  rintro e w10 ⟨rfl,cV⟩
  have H10:(SRd w g1 q1 l1 c1 p1 m1 e1 g2 q2 l2 c2 p2 m2 e2) w10:=⟨(cV.cell (by exact s9)).trans H9.1,(cV.cell (by exact s9)).trans H9.2.1,(cV.cell (by exact s9)).trans H9.2.2.1,(cV.cell (by exact t9)).trans H9.2.2.2.1,(cV.cell (by exact t9)).trans H9.2.2.2.2.1,(cV.cell (by exact t9)).trans H9.2.2.2.2.2⟩
  have s10:w.heap.size<w10.heap.size:=Nat.lt_of_lt_of_le s9 cV.size
  have t10:w.heap.size+1<w10.heap.size:=Nat.lt_of_lt_of_le t9 cV.size
  have W10:Hid (Below w.heap.size w w10):=W9.out.trans (cV.mono W9.out.size)
  refine hK.out _ _ H10 (fun dX=>?_)
  clear hK K bu
  refine tk 11 (.int .i64 c) rfl dX ?_
  simp only[pz]
  refine wpAnyH_done (by kernel_rfl) ?_ _
  clear dX
  have y0:=H10.1
  have hrc':=hrc.out
  cases g1 with
  | false=>
   have hRc:R=c:=hR1.out
   subst hRc
   go_wp2_with fail
   go_ret
   exact⟨rfl,W10.out⟩
  | true=>
   have hRc:R=-c:=hR1.out
   subst hRc
   go_wp2_with fail
   go_ret
   exact⟨rfl,W10.out⟩
 ·have hne:(s1 != s2)=true:=by simp[he]
  have hR1:Hid (R=if s1<s2 then -1 else 1):=by
   show R=_
   rw[<-hR.out,if_neg he]
  rw[hne]
  clear hR
  go_upto_region 2 with fail
  have s6':w.heap.size<w6.drew.heap.size:=s6
  have t6':w.heap.size+1<w6.drew.heap.size:=t6
  refine wp_region_held_drew (S:=(SRd w g1 q1 l1 c1 p1 m1 e1 g2 q2 l2 c2 p2 m2 e2)) (by kernel_rfl) H6 (fun ah=>?_)
  refine tk 0 (.agg (qA g1 q1 l1 c1 p1 m1 e1)) rfl ah ?_
  simp only[pz]
  refine tk 2 (.agg (qA g2 q2 l2 c2 p2 m2 e2)) rfl ah ?_
  simp only[pz]
  refine rdy 1 rfl (fun K hK=>?_)
  go_simp
  refine(h1.out _ W6.out.drew).mono ?_
  rintro e w8 ⟨rfl,hb8⟩
  have H8:(SRd w g1 q1 l1 c1 p1 m1 e1 g2 q2 l2 c2 p2 m2 e2) w8:=⟨(hb8.cell (by exact s6')).trans H6.1,(hb8.cell (by exact s6')).trans H6.2.1,(hb8.cell (by exact s6')).trans H6.2.2.1,(hb8.cell (by exact t6')).trans H6.2.2.2.1,(hb8.cell (by exact t6')).trans H6.2.2.2.2.1,(hb8.cell (by exact t6')).trans H6.2.2.2.2.2⟩
  have s8:w.heap.size<w8.heap.size:=Nat.lt_of_lt_of_le s6' hb8.size
  have t8:w.heap.size+1<w8.heap.size:=Nat.lt_of_lt_of_le t6' hb8.size
  have W8:Hid (Below w.heap.size w w8):=W6.out.drew.trans (hb8.mono W6.out.drew.size)
  refine hK.out _ _ H8 (fun b9=>?_)
  clear hK K ah
  refine rdy 3 rfl (fun K hK=>?_)
  go_simp
  refine(h2.out _ W8.out).mono ?_
  rintro e w9 ⟨rfl,hb9⟩
  have H9:(SRd w g1 q1 l1 c1 p1 m1 e1 g2 q2 l2 c2 p2 m2 e2) w9:=⟨(hb9.cell (by exact s8)).trans H8.1,(hb9.cell (by exact s8)).trans H8.2.1,(hb9.cell (by exact s8)).trans H8.2.2.1,(hb9.cell (by exact t8)).trans H8.2.2.2.1,(hb9.cell (by exact t8)).trans H8.2.2.2.2.1,(hb9.cell (by exact t8)).trans H8.2.2.2.2.2⟩
  have s9:w.heap.size<w9.heap.size:=Nat.lt_of_lt_of_le s8 hb9.size
  have t9:w.heap.size+1<w9.heap.size:=Nat.lt_of_lt_of_le t8 hb9.size
  have W9:Hid (Below w.heap.size w w9):=W8.out.trans (hb9.mono W8.out.size)
  refine hK.out _ _ H9 (fun bu=>?_)
  clear hK K b9
  refine tk 4 (.bool (decide (s1<s2))) rfl bu ?_
  simp only[pz]
  refine wpAnyH_done (by kernel_rfl) ?_ _
  clear bu
  by_cases hl:s1<s2
  ·have hRc:R=-1:=by rw[hR1.out,if_pos hl]
   subst hRc
   rw[decide_eq_true hl]
   go_wp2_with fail
   go_ret
   exact⟨rfl,W9.out⟩
  ·have hRc:R=1:=by rw[hR1.out,if_neg hl]
   subst hRc
   rw[decide_eq_false hl]
   go_wp2_with fail
   go_ret
   exact⟨rfl,W9.out⟩
theorem zfq {w:World} {v u:Value} {g1 g2:Bool} {n1 d1 n2 d2:Int} (h1:FAt w v g1 n1 d1) (h2:FAt w u g2 n2 d2):
  Calls Tryz.prog 58 #[v,u] w fun e w'=>e=.returned (.int .i64 (fcS g1 n1 d1 g2 n2 d2))/\Below w.heap.size w w':=by
 have h1':=h1
 have h2':=h2
 obtain⟨a,b,ns,ds,rfl,z1,z2,z3,z4,z5,z6,z7,z8⟩:=h1
 obtain⟨a2,b2,ns2,ds2,rfl,y1,y2,y3,y4,y5,y6,y7,y8⟩:=h2
 obtain⟨q1,c1,rfl⟩:=z1.form
 obtain⟨p1,e1,rfl⟩:=z4.form
 obtain⟨q2,c2,rfl⟩:=y1.form
 obtain⟨p2,e2,rfl⟩:=y4.form
 refine zlo (s1:=sgF g1 n1) (s2:=sgF g2 n2) (c:=cmp3 (n1*d2) (n2*d1)) (fun z hz=>zd6 (h1'.below hz)) (fun z hz=>zd6 (h2'.below hz)) (fun z hz=>?_) (cmp3_b _ _) (sgF_b _ _) (sgF_b _ _)
 refine(zln (z1.below hz) (y4.below hz) z2 y5 z7 y8).mono ?_
 rintro e w' ⟨u,zs,rfl,k1,k2,k3,k4,hb⟩
 obtain⟨qa,ca,rfl⟩:=k1.form
 refine⟨_,_,_,rfl,hb,fun z2 hz2=>?_⟩
 have hzz:=(hz.trans (hb.mono hz.size)).trans (hz2.mono (Nat.le_trans hz.size hb.size))
 refine(zln (y1.below hzz) (z4.below hzz) y2 z5 y7 z8).mono ?_
 rintro e w'' ⟨u2,zs2,rfl,m1,m2,m3,m4,hb2⟩
 obtain⟨qb,cb,rfl⟩:=m1.form
 refine⟨_,_,_,rfl,hb2,?_⟩
 have k1':=(k1.below hz2).below hb2
 refine(zlm k1' m1 k2 m2).mono ?_
 rintro e w3 ⟨c,rfl,hc1,hc2,hc3,hb3⟩
 refine⟨?_,hb3⟩
 have he:zs=zs2↔val zs=val zs2:=⟨fun h=>by rw[h],fun h=>zk7 k1'.1 m1.1 k2 m2 h⟩
 rw[he] at hc2
 rw[k3,m3,z3,z6,y3,y6] at hc1 hc2
 have hcc:c=cmp3 (n1*d2) (n2*d1):=by
  unfold cmp3
  split
  ·rename_i h;have:=hc1.2 h;omega
  ·rename_i h
   split
   ·rename_i h2;exact hc2.2 h2
   ·rename_i h2
    have h3:¬c<0:=fun h4=>h (hc1.1 h4)
    have h5:¬c=0:=fun h4=>h2 (hc2.1 h4)
    omega
 rw[hcc]
end Go.Proofs.YtaonejnicgbifaaGreatDoor
