import Derived.Test.YtfhjhnofkaiceaaGreatDoorWdC
import Derived.Test.YtfhjhnofkaiceaaGreatDoorDvJ
import Derived.Deep.RegionHeld3
namespace Go.Proofs.YtfhjhnofkaiceaaGreatDoor
open Go Go.RowKit
def QAt (w:World) (v:Value) (g:Bool) (n d:Int):Prop:=
 ∃a b ns ds,v=.agg #[.bool g,a,b]/\Sl16 w a ns/\Canon ns/\val16 ns=n/\Sl16 w b ds/\Canon ds/\val16 ds=d
theorem QAt.below {w w':World} {v:Value} {g:Bool} {n d:Int} (h:QAt w v g n d) (hb:Below w.heap.size w w'):QAt w' v g n d:=by
 obtain⟨a,b,ns,ds,h1,h2,h3,h4,h5,h6,h7⟩:=h
 exact⟨a,b,ns,ds,h1,h2.below hb,h3,h4,h5.below hb,h6,h7⟩
def mkG (g:Bool) (n d:Int):Bool:=if n=0\/d=0 then false else g
def mkN (n d:Int):Int:=if n=0\/d=0 then 0 else n / gcdI n d
def mkD (n d:Int):Int:=if n=0\/d=0 then 1 else d / gcdI n d
theorem gcdI_one {a:Int}:gcdI a 1=1:=by
 unfold gcdI
 simp
theorem zcj {a b:Int} (ha:0<a):0<gcdI a b:=by
 unfold gcdI
 have:=Nat.gcd_pos_of_pos_left b.toNat (by omega:0<a.toNat)
 omega
theorem ze9 {ds:List Int} (h1:ds.length=1):val16 ds=ds.getD 0 0:=by
 have:=val_top1 (m:=0) h1
 rw[this]
 simp[val16]
def QNew (w:World) (N:Nat):Prop:=w.heap[N]?=some (.cells #[.bool false,.slice none 0 0,.slice none 0 0] 89 (0,0))
theorem QNew.made (w:World):QNew (w.alloc (.cells #[.bool false,.slice none 0 0,.slice none 0 0] 89)) w.heap.size:=heap_alloc_new w _
theorem QNew.below {w w':World} {N:Nat} (h:QNew w N) (hb:Below w.heap.size w w'):QNew w' N:=by
 unfold QNew at h ⊢
 rw[hb.block N (Array.getElem?_eq_some_iff.1 h).1]
 exact h
theorem QNew.c0 {w:World} {N:Nat} (h:QNew w N):w.cell? ⟨N,0,none⟩=some (.bool false):=by unfold QNew at h;simp[World.cell?,h]
theorem QNew.c1 {w:World} {N:Nat} (h:QNew w N):w.cell? ⟨N,1,none⟩=some (.slice none 0 0):=by unfold QNew at h;simp[World.cell?,h]
theorem QNew.c2 {w:World} {N:Nat} (h:QNew w N):w.cell? ⟨N,2,none⟩=some (.slice none 0 0):=by unfold QNew at h;simp[World.cell?,h]
theorem QNew.fr {w:World} {N:Nat} (h:QNew w N) (j:Nat):w.frozen? ⟨N,j,none⟩=false:=by unfold QNew at h;simp[World.frozen?,h]
theorem QNew.no {w:World} {N:Nat} (h:QNew w N) (j:Nat) (x:Int):w.cell? ⟨N,j,none⟩≠some (.int .u32 x):=by
 unfold QNew at h
 simp only[World.cell?,h]
 match j with
 | 0=>simp
 | 1=>simp
 | 2=>simp
 | j+3=>simp
theorem Sl16.notQ {w:World} {v:Value} {xs:List Int} {N:Nat} (h:Sl16 w v xs) (hN:QNew w N):Sl16N N w v xs:=by
 obtain⟨h1,h2,q,cap,h3,h4,h5⟩:=h
 refine⟨h1,h2,q,cap,h3,h4,?_⟩
 by_cases hx:xs=[]
 ·exact .inl hx
 ·rcases h5 with h5 | ⟨b,o,e,hlt,hc⟩
  ·exact absurd h5 hx
  ·refine .inr ⟨b,o,e,hlt,?_,hc⟩
   rintro rfl
   exact hN.no _ _ (hc 0 (List.length_pos_iff.2 hx))
theorem zbg {w:World} {N:Nat} (h:QNew w N) (x0 x1 x2:Value):(((w.setCell ⟨N,0,none⟩ x0).setCell ⟨N,1,none⟩ x1).setCell ⟨N,2,none⟩ x2).rangeAt N 0 [x0,x1,x2]/\Sav N w (((w.setCell ⟨N,0,none⟩ x0).setCell ⟨N,1,none⟩ x1).setCell ⟨N,2,none⟩ x2):=by
 refine⟨fun j v hv=>?_,((Sav.of (Below.refl _ _)).setCell 0 x0 |>.setCell 1 x1).setCell 2 x2⟩
 match j,hv with
 | 0,hv=>
  simp only[List.getElem?_cons_zero,Option.some.injEq] at hv
  subst hv
  rw[World.cell?_setCell_other _ _ _ _ (by simp),World.cell?_setCell_other _ _ _ _ (by simp),World.cell?_setCell_same _ _ _ h.c0]
 | 1,hv=>
  simp only[List.getElem?_cons_succ,List.getElem?_cons_zero,Option.some.injEq] at hv
  subst hv
  rw[World.cell?_setCell_other _ _ _ _ (by simp),World.cell?_setCell_same _ _ _ (by rw[World.cell?_setCell_other _ _ _ _ (by simp)];exact h.c1)]
 | 2,hv=>
  simp only[List.getElem?_cons_succ,List.getElem?_cons_zero,Option.some.injEq] at hv
  subst hv
  rw[World.cell?_setCell_same _ _ _ (by rw[World.cell?_setCell_other _ _ _ _ (by simp),World.cell?_setCell_other _ _ _ _ (by simp)];exact h.c2)]
theorem zdl:∃d,Tryz.prog.underlying 89=some d/\d.isRow=true:=⟨_,Tryz.underlying89,rfl⟩
theorem zav:(Tryz.prog.info? 89).map (·.size)=some 3:=by kernel_rfl
set_option maxRecDepth 100000 in
set_option maxHeartbeats 1000000 in
theorem zcy {w:World} {g:Bool} {q q':Option Addr} {m n cap cap':Nat} (h:((m:Int)==0)=true\/((m:Int)==0)=false/\((n:Int)==0)=true):
  Calls Tryz.prog 72 #[.bool g,.slice q m cap,.slice q' n cap'] w fun e w'=>∃v,e=.returned v/\QAt w' v false 0 1/\Below w.heap.size w w':=by
 have hof:=fun z=>natOf_ok z 1 (by omega) (by omega)
 have hnew:=QNew.made w
 have hb0:Below w.heap.size w (w.alloc (.cells #[.bool false,.slice none 0 0,.slice none 0 0] 89)):=below_alloc w _
 obtain⟨dd,hu,hd⟩:=zdl
 have key:∀w1 r zs,Below (w.alloc (.cells #[.bool false,.slice none 0 0,.slice none 0 0] 89)).heap.size (w.alloc (.cells #[.bool false,.slice none 0 0,.slice none 0 0] 89)) w1->Sl16 w1 r zs->Canon zs->val16 zs=1->
   Hid (QAt (((w1.setCell ⟨w.heap.size,0,none⟩ (.bool false)).setCell ⟨w.heap.size,1,none⟩ (.slice none 0 0)).setCell ⟨w.heap.size,2,none⟩ r) (.agg #[.bool false,.slice none 0 0,r]) false 0 1/\Below w.heap.size w (((w1.setCell ⟨w.heap.size,0,none⟩ (.bool false)).setCell ⟨w.heap.size,1,none⟩ (.slice none 0 0)).setCell ⟨w.heap.size,2,none⟩ r)):=by
  intro w1 r zs hb1 hz hzc hzv
  have h1:=hnew.below hb1
  obtain⟨_,h3⟩:=zbg h1 (.bool false) (.slice none 0 0) r
  exact⟨⟨_,r,[],zs,rfl,⟨fun j=>by simp[List.getD],by simp,none,0,rfl,Nat.le_refl _,.inl rfl⟩,fun m hm=>by simp at hm,rfl,((hz.notQ h1).sav h3).sl,hzc,hzv⟩,(hb0.trans (hb1.mono hb0.size)).trans (h3.below (Nat.le_refl _) (Nat.le_trans hb0.size hb1.size))⟩
 rcases h with h | ⟨h,h2⟩
 ·go_enter Tryz.func72,Tryz.ntmps72
  go_wp2_with (go_at_call 73;with_reducible refine(hof _).mono ?_;rintro e w1 ⟨r,zs,rfl,hz,hzc,hzv,hzl,hb1⟩
               obtain⟨qr,cr,rfl⟩:=hz.form
               have hk:=key _ _ _ hb1 hz hzc hzv
               have h1:=hnew.below hb1
               have c0:=h1.c0
               have c1:=h1.c1
               have c2:=h1.c2
               have fr:=h1.fr
               have hrow:=(zbg h1 (.bool false) (.slice none 0 0) (.slice qr zs.length cr)).1
               clear key hb1 h1 hnew hb0)
  refine bodyPost_ret (zac rfl _ _ w.heap.size _ dd rfl hrow hu hd zav) rfl ?_
  exact⟨_,rfl,hk.out⟩
 ·go_enter Tryz.func72,Tryz.ntmps72
  go_wp2_with (go_at_call 73;with_reducible refine(hof _).mono ?_;rintro e w1 ⟨r,zs,rfl,hz,hzc,hzv,hzl,hb1⟩
               obtain⟨qr,cr,rfl⟩:=hz.form
               have hk:=key _ _ _ hb1 hz hzc hzv
               have h1:=hnew.below hb1
               have c0:=h1.c0
               have c1:=h1.c1
               have c2:=h1.c2
               have fr:=h1.fr
               have hrow:=(zbg h1 (.bool false) (.slice none 0 0) (.slice qr zs.length cr)).1
               clear key hb1 h1 hnew hb0)
  refine bodyPost_ret (zac rfl _ _ w.heap.size _ dd rfl hrow hu hd zav) rfl ?_
  exact⟨_,rfl,hk.out⟩
theorem q_end {w W0 w1:World} {g:Bool} {a b:Value} {ns ds:List Int} {n d:Int} (h0:QNew W0 w.heap.size) (hb0:Below w.heap.size w W0) (hb1:Below W0.heap.size W0 w1) (ha:Sl16 w1 a ns) (ca:Canon ns) (va:val16 ns=n) (hb:Sl16 w1 b ds) (cb:Canon ds) (vb:val16 ds=d):
  Hid (QAt (((w1.setCell ⟨w.heap.size,0,none⟩ (.bool g)).setCell ⟨w.heap.size,1,none⟩ a).setCell ⟨w.heap.size,2,none⟩ b) (.agg #[.bool g,a,b]) g n d/\Below w.heap.size w (((w1.setCell ⟨w.heap.size,0,none⟩ (.bool g)).setCell ⟨w.heap.size,1,none⟩ a).setCell ⟨w.heap.size,2,none⟩ b))/\
  (((w1.setCell ⟨w.heap.size,0,none⟩ (.bool g)).setCell ⟨w.heap.size,1,none⟩ a).setCell ⟨w.heap.size,2,none⟩ b).rangeAt w.heap.size 0 [.bool g,a,b]:=by
 have h1:=h0.below hb1
 obtain⟨h2,h3⟩:=zbg h1 (.bool g) a b
 exact⟨⟨⟨a,b,ns,ds,rfl,((ha.notQ h1).sav h3).sl,ca,va,((hb.notQ h1).sav h3).sl,cb,vb⟩,(hb0.trans (hb1.mono hb0.size)).trans (h3.below (Nat.le_refl _) (Nat.le_trans hb0.size hb1.size))⟩,h2⟩
set_option maxRecDepth 100000 in
set_option maxHeartbeats 1000000 in
theorem zee {w:World} {g:Bool} {q q':Option Addr} {cap cap':Nat} {xs ys:List Int} (hx:Sl16 w (.slice q xs.length cap) xs) (hy:Sl16 w (.slice q' 1 cap') ys) (cx:Canon xs) (nx:((xs.length:Int)==0)=false) (hy0:ys.length=1) (hy1:ys.getD 0 0=1):
  Calls Tryz.prog 72 #[.bool g,.slice q xs.length cap,.slice q' 1 cap'] w fun e w'=>∃v,e=.returned v/\QAt w' v g (val16 xs) 1/\Below w.heap.size w w':=by
 have hof:=fun z=>natOf_ok z 1 (by omega) (by omega)
 have hnew:=QNew.made w
 have hb0:Below w.heap.size w (w.alloc (.cells #[.bool false,.slice none 0 0,.slice none 0 0] 89)):=below_alloc w _
 obtain⟨dd,hu,hd⟩:=zdl
 have lx:=hx.2.1
 obtain⟨_,_,q2,cap2,e,_,hyx⟩:=hy
 simp only[Value.slice.injEq] at e
 obtain⟨rfl,he,rfl⟩:=e
 clear he
 rcases hyx with h | ⟨b,o,rfl,hb,hc⟩
 ·simp[h] at hy0
 have h00:=hc 0 (by omega)
 rw[hy1] at h00
 have c9:(w.alloc (.cells #[.bool false,.slice none 0 0,.slice none 0 0] 89)).cell? ⟨b,o,none⟩=some (.int .u32 1):=(hb0.cell (p:=⟨b,o,none⟩) (by exact hb)).trans h00
 clear h00
 have hx1:=(hx.below hb0).below (below_alloc (w.alloc (.cells #[.bool false,.slice none 0 0,.slice none 0 0] 89)) (.cells #[] 137))
 have hx':Hid (Sl16 w (.slice q xs.length cap) xs):=hx
 have cx':Hid (Canon xs):=cx
 have hx1':Hid (Sl16 ((w.alloc (.cells #[.bool false,.slice none 0 0,.slice none 0 0] 89)).alloc (.cells #[] 137)) (.slice q xs.length cap) xs):=hx1
 clear hx hc hy0 hy1 cx hx1
 have own1:Hid (((w.alloc (.cells #[.bool false,.slice none 0 0,.slice none 0 0] 89)).alloc (.cells #[] 137)).ownsRow (w.alloc (.cells #[.bool false,.slice none 0 0,.slice none 0 0] 89)).heap.size 137 1 (.slice (some ⟨w.heap.size+1,0,none⟩) 0 0) 0 []):=by
  have:=own_none0 (w.alloc (.cells #[.bool false,.slice none 0 0,.slice none 0 0] 89))
  have e:(w.alloc (.cells #[.bool false,.slice none 0 0,.slice none 0 0] 89)).heap.size=w.heap.size+1:=by simp
  rw[e] at this ⊢
  exact this
 go_enter Tryz.func72,Tryz.ntmps72
 go_wp2_with (first
  | (at_builtin;refine wpList_append_words rfl _ _ rfl (w.alloc (.cells #[.bool false,.slice none 0 0,.slice none 0 0] 89)).heap.size (.slice (some ⟨w.heap.size+1,0,none⟩) 0 0) 0 [] rfl own1.out xs (.slice q xs.length cap) rfl hx1'.out (by omega) (by simp) ?_;intro v' w2 hown2 hgr2
     have hb2:Below (w.alloc (.cells #[.bool false,.slice none 0 0,.slice none 0 0] 89)).heap.size (w.alloc (.cells #[.bool false,.slice none 0 0,.slice none 0 0] 89)) w2:=(below_alloc (w.alloc (.cells #[.bool false,.slice none 0 0,.slice none 0 0] 89)) _).grown hgr2 (by simp) (fun g hg=>by cases hg;simp)
     have hs2:Sl16 w2 v' xs:=row_sl16 (base:=(w.alloc (.cells #[.bool false,.slice none 0 0,.slice none 0 0] 89)).heap.size) rfl (by simpa using hown2) hx'.out.1 lx
     obtain⟨q3,cap3,rfl⟩:=hs2.form)
  | (go_at_call 73;with_reducible refine(hof _).mono ?_;rintro e w3 ⟨r,zs,rfl,hz,hzc,hzv,hzl,hb3⟩
     obtain⟨qr,cr,rfl⟩:=hz.form
     have hb13:Below (w.alloc (.cells #[.bool false,.slice none 0 0,.slice none 0 0] 89)).heap.size (w.alloc (.cells #[.bool false,.slice none 0 0,.slice none 0 0] 89)) w3:=hb2.trans (hb3.mono hb2.size)
     obtain⟨hk,hrow⟩:=q_end (g:=g) hnew hb0 hb13 (hs2.below hb3) cx'.out rfl hz hzc hzv
     have h1:=hnew.below hb13
     have c0:=h1.c0
     have c1:=h1.c1
     have c2:=h1.c2
     have fr:=h1.fr
     clear hb3 h1 hnew hb0 hb2 hb13))
 refine bodyPost_ret (zac rfl _ _ w.heap.size _ dd rfl hrow hu hd zav) rfl ?_
 exact⟨_,rfl,hk.out⟩
set_option maxRecDepth 100000 in
set_option maxHeartbeats 1000000 in
theorem zd0 {w:World} {g:Bool} {q q':Option Addr} {cap cap':Nat} {xs ys:List Int} (hx:Sl16 w (.slice q xs.length cap) xs) (hy:Sl16 w (.slice q' ys.length cap') ys) (cx:Canon xs) (cy:Canon ys) (nx:((xs.length:Int)==0)=false) (ny:((ys.length:Int)==0)=false)
  (lx:xs.length<=274877906000) (ly:ys.length<=274877906000)
  (h1:((ys.length:Int)==1)=false\/((ys.length:Int)==1)=true/\∃b o X,q'=some ⟨b,o,none⟩/\b<w.heap.size/\w.cell? ⟨b,o,none⟩=some (.int .u32 X)/\(X==1)=false/\0<ys.length):
  Calls Tryz.prog 72 #[.bool g,.slice q xs.length cap,.slice q' ys.length cap'] w fun e w'=>∃v,e=.returned v/\QAt w' v g (val16 xs / gcdI (val16 xs) (val16 ys)) (val16 ys / gcdI (val16 xs) (val16 ys))/\Below w.heap.size w w':=by
 have hnew:=QNew.made w
 have hb0:Below w.heap.size w (w.alloc (.cells #[.bool false,.slice none 0 0,.slice none 0 0] 89)):=below_alloc w _
 obtain⟨dd,hu,hd⟩:=zdl
 have x0:xs≠[]:=by rintro rfl;simp at nx
 have vx:=val_pos16 hx.1 cx x0
 have hgp:=zcj (b:=val16 ys) vx
 have hx0:Hid (Sl16 w (.slice q xs.length cap) xs/\Canon xs):=⟨hx,cx⟩
 have hy0:Hid (Sl16 w (.slice q' ys.length cap') ys/\Canon ys):=⟨hy,cy⟩
 have hgcd:=natGcd_ok (hx.below hb0) (hy.below hb0) cx cy lx ly
 obtain⟨G,hG⟩:∃G,gcdI (val16 xs) (val16 ys)=G:=⟨_,rfl⟩
 rw[hG] at hgcd hgp ⊢
 have hgp':Hid (0<G):=hgp
 clear hx hy cx cy hG x0 vx hgp
 rcases h1 with h1 | ⟨h1,b,o,X,rfl,hb,hc,hX,hyl⟩
 ·go_enter Tryz.func72,Tryz.ntmps72
  go_wp2_with (first
   | (go_at_call 91;with_reducible refine hgcd.mono ?_;rintro e w1 ⟨rg,gs,rfl,hg,cg,vg,lg,hb1⟩
      have ng:gs≠[]:=by
       rintro rfl
       have:=hgp'.out
       simp only[val16] at vg
       omega
      have hd1:=natDiv_ok ((hx0.out.1.below hb0).below hb1) hg hx0.out.2 cg ng lx)
   | (go_at_call 92;with_reducible refine hd1.mono ?_;rintro e w2 ⟨r1,r2,ns,rs,rfl,hn,cn,vn,_,_,_,hb2⟩
      have hd2:=natDiv_ok (((hy0.out.1.below hb0).below hb1).below hb2) (hg.below hb2) hy0.out.2 cg ng ly)
   | (go_at_call 92;with_reducible refine hd2.mono ?_;rintro e w3 ⟨r3,r4,ds,rs',rfl,hdd,cd,vd,_,_,_,hb3⟩
      rw[vg] at vn vd
      obtain⟨qn,kn,rfl⟩:=hn.form
      obtain⟨qd,kd,rfl⟩:=hdd.form
      have hb13:Below (w.alloc (.cells #[.bool false,.slice none 0 0,.slice none 0 0] 89)).heap.size (w.alloc (.cells #[.bool false,.slice none 0 0,.slice none 0 0] 89)) w3:=hb1.trans ((hb2.trans (hb3.mono hb2.size)).mono hb1.size)
      obtain⟨hk,hrow⟩:=q_end (g:=g) hnew hb0 hb13 (hn.below hb3) cn vn hdd cd vd
      have h9:=hnew.below hb13
      have c0:=h9.c0
      have c1:=h9.c1
      have c2:=h9.c2
      have fr:=h9.fr
      clear hb3 h9 hnew hb0 hb2 hb13 hb1 hd1 hd2 hgcd))
  refine bodyPost_ret (zac rfl _ _ w.heap.size _ dd rfl hrow hu hd zav) rfl ?_
  exact⟨_,rfl,hk.out⟩
 ·have c9:(w.alloc (.cells #[.bool false,.slice none 0 0,.slice none 0 0] 89)).cell? ⟨b,o,none⟩=some (.int .u32 X):=(hb0.cell (by exact hb)).trans hc
  clear hc
  go_enter Tryz.func72,Tryz.ntmps72
  go_wp2_with (first
   | (go_at_call 91;with_reducible refine hgcd.mono ?_;rintro e w1 ⟨rg,gs,rfl,hg,cg,vg,lg,hb1⟩
      have ng:gs≠[]:=by
       rintro rfl
       have:=hgp'.out
       simp only[val16] at vg
       omega
      have hd1:=natDiv_ok ((hx0.out.1.below hb0).below hb1) hg hx0.out.2 cg ng lx)
   | (go_at_call 92;with_reducible refine hd1.mono ?_;rintro e w2 ⟨r1,r2,ns,rs,rfl,hn,cn,vn,_,_,_,hb2⟩
      have hd2:=natDiv_ok (((hy0.out.1.below hb0).below hb1).below hb2) (hg.below hb2) hy0.out.2 cg ng ly)
   | (go_at_call 92;with_reducible refine hd2.mono ?_;rintro e w3 ⟨r3,r4,ds,rs',rfl,hdd,cd,vd,_,_,_,hb3⟩
      rw[vg] at vn vd
      obtain⟨qn,kn,rfl⟩:=hn.form
      obtain⟨qd,kd,rfl⟩:=hdd.form
      have hb13:Below (w.alloc (.cells #[.bool false,.slice none 0 0,.slice none 0 0] 89)).heap.size (w.alloc (.cells #[.bool false,.slice none 0 0,.slice none 0 0] 89)) w3:=hb1.trans ((hb2.trans (hb3.mono hb2.size)).mono hb1.size)
      obtain⟨hk,hrow⟩:=q_end (g:=g) hnew hb0 hb13 (hn.below hb3) cn vn hdd cd vd
      have h9:=hnew.below hb13
      have c0:=h9.c0
      have c1:=h9.c1
      have c2:=h9.c2
      have fr:=h9.fr
      clear hb3 h9 hnew hb0 hb2 hb13 hb1 hd1 hd2 hgcd))
  refine bodyPost_ret (zac rfl _ _ w.heap.size _ dd rfl hrow hu hd zav) rfl ?_
  exact⟨_,rfl,hk.out⟩
theorem zb3 {w:World} {a b:Value} {g:Bool} {xs ys:List Int} (hx:Sl16 w a xs) (hy:Sl16 w b ys) (cx:Canon xs) (cy:Canon ys) (lx:xs.length<=274877906000) (ly:ys.length<=274877906000):
  Calls Tryz.prog 72 #[.bool g,a,b] w fun e w'=>∃v,e=.returned v/\QAt w' v (mkG g (val16 xs) (val16 ys)) (mkN (val16 xs) (val16 ys)) (mkD (val16 xs) (val16 ys))/\Below w.heap.size w w':=by
 obtain⟨q,cap,rfl⟩:=hx.form
 obtain⟨q',cap',rfl⟩:=hy.form
 by_cases hx0:xs=[]
 ·subst hx0
  simpa [mkG,mkN,mkD,val16] using zcy (g:=g) (q:=q) (q':=q') (m:=0) (n:=ys.length) (cap:=cap) (cap':=cap') (w:=w) (.inl rfl)
 ·have vx:=val_pos16 hx.1 cx hx0
  have nx:((xs.length:Int)==0)=false:=by
   have:xs.length≠0:=fun h=>hx0 (List.eq_nil_of_length_eq_zero h)
   simp;omega
  by_cases hy0:ys=[]
  ·subst hy0
   simpa [mkG,mkN,mkD,val16] using zcy (g:=g) (q:=q) (q':=q') (m:=xs.length) (n:=0) (cap:=cap) (cap':=cap') (w:=w) (.inr ⟨nx,rfl⟩)
  ·have vy:=val_pos16 hy.1 cy hy0
   have ny:((ys.length:Int)==0)=false:=by
    have:ys.length≠0:=fun h=>hy0 (List.eq_nil_of_length_eq_zero h)
    simp;omega
   have e1:¬(val16 xs=0\/val16 ys=0):=by omega
   unfold mkG mkN mkD
   rw[if_neg e1,if_neg e1,if_neg e1]
   by_cases h1:ys.length=1
   ·have hv:=ze9 h1
    by_cases h2:ys.getD 0 0=1
    ·rw[hv,h2,gcdI_one,Int.ediv_one,Int.ediv_one]
     have hm:=zee (g:=g) hx (by rw[h1] at hy;exact hy) cx nx h1 h2
     rw[h1]
     exact hm
    ·obtain⟨_,_,q2,cap2,e,_,hyx⟩:=id hy
     simp only[Value.slice.injEq] at e
     obtain⟨rfl,_,rfl⟩:=e
     rcases hyx with h | ⟨b,o,rfl,hb,hc⟩
     ·exact absurd h hy0
     ·exact zd0 hx hy cx cy nx ny lx ly (.inr ⟨by simp[h1],b,o,_,rfl,hb,by simpa using hc 0 (by omega),by simpa using h2,by omega⟩)
   ·exact zd0 hx hy cx cy nx ny lx ly (.inl (by simp;omega))
theorem zcz {zs:List Int} {k:Nat} (dz:Dig16 zs) (h1:zs.length=k+1) (h2:65536^k<=val16 zs):Canon zs:=by
 intro m hm
 obtain rfl:m=k:=by omega
 intro h0
 have h3:=val_top1 h1
 have h4:=val_lt16 (dig_take16 dz m)
 rw[h0,Int.zero_mul,Int.add_zero] at h3
 rw[List.length_take,Nat.min_eq_left (by omega)] at h4
 omega
theorem zd1 {xs:List Int} {k:Nat} (dx:Dig16 xs) (cx:Canon xs) (h1:xs.length=k+1):65536^k<=val16 xs:=by
 have h2:=cx k h1
 have h3:=dx k
 have h4:=val_top1 h1
 have h5:=val_nonneg16 (dig_take16 dx k)
 have h6:=Int.mul_le_mul_of_nonneg_right (by omega:1<=xs.getD k 0) (by have:=pow16_pos k;omega:(0:Int)<=65536^k)
 omega
theorem zc0 {xs ys zs:List Int} (dx:Dig16 xs) (dy:Dig16 ys) (dz:Dig16 zs) (cx:Canon xs) (hv:val16 zs=val16 xs+val16 ys) (hl:zs.length=xs.length\/zs.length=xs.length+1/\zs.getD xs.length 0=1):Canon zs:=by
 rcases hl with h | ⟨h,h1⟩
 ·intro m hm
  have:=zcz dz hm (by have h1:=zd1 dx cx (by omega:xs.length=m+1);have:=val_nonneg16 dy;omega)
  exact this m hm
 ·intro m hm
  obtain rfl:m=xs.length:=by omega
  omega
theorem zfa {w:World} {v u:Value} {xs ys:List Int} (hx:Sl16 w v xs) (hy:Sl16 w u ys) (cx:Canon xs) (cy:Canon ys) (lx:xs.length<=274877906000) (ly:ys.length<=274877906000):
  Calls Tryz.prog 181 #[v,u] w fun e w'=>∃r zs,e=.returned r/\Sl16 w' r zs/\Canon zs/\val16 zs=val16 xs+val16 ys/\zs.length<=max xs.length ys.length+1/\Below w.heap.size w w':=by
 rcases Nat.lt_or_ge xs.length ys.length with hl | hl
 ·refine(natAdd_swp hy hx hl (by omega)).mono ?_
  rintro e w' ⟨r,zs,rfl,hz,hv,hlen,hb⟩
  exact⟨r,zs,rfl,hz,zc0 hy.1 hx.1 hz.1 cy hv hlen,by omega,by omega,hb⟩
 ·refine(natAdd_dir hx hy hl (by omega)).mono ?_
  rintro e w' ⟨r,zs,rfl,hz,hv,hlen,hb⟩
  exact⟨r,zs,rfl,hz,zc0 hx.1 hy.1 hz.1 cx hv hlen,by omega,by omega,hb⟩
set_option maxRecDepth 100000 in
theorem zbz (q q':Option Addr) (n cap cap':Nat) (w:World):Calls Tryz.prog 108 #[.slice q 0 cap,.slice q' n cap'] w fun e w'=>e=.returned (.slice none 0 0)/\w'=w:=by
 go_enter Tryz.func108,Tryz.ntmps108
 go_wp2
 go_ret
 exact⟨rfl,rfl⟩
theorem zbp {w:World} {v u:Value} {xs ys:List Int} (hx:Sl16 w v xs) (hy:Sl16 w u ys) (hn:xs.length+ys.length<=549755813888):
  Calls Tryz.prog 108 #[v,u] w fun e w'=>∃r zs,e=.returned r/\Sl16 w' r zs/\Canon zs/\val16 zs=val16 xs*val16 ys/\Below w.heap.size w w':=by
 by_cases nx:xs=[]
 ·subst nx
  obtain⟨q,cap,rfl⟩:=hx.form
  obtain⟨q',cap',rfl⟩:=hy.form
  refine(zbz q q' ys.length cap cap' w).mono ?_
  rintro e w' ⟨rfl,rfl⟩
  exact⟨_,[],rfl,⟨hx.1,by simp,none,0,rfl,Nat.le_refl _,.inl rfl⟩,fun m hm=>by simp at hm,by simp[val16],Below.refl _ _⟩
 ·exact natMul_all hx hy nx hn
theorem za2 {xs:List Int} {k:Nat} (dx:Dig16 xs) (cx:Canon xs) (h:val16 xs<65536^k):xs.length<=k:=by
 rcases Nat.lt_or_ge k xs.length with h1 | h1
 ·obtain⟨m,hm⟩:∃m,xs.length=m+1:=⟨xs.length - 1,by omega⟩
  have h2:=zd1 dx cx hm
  have h3:=pow16_mono (by omega:k<=m)
  omega
 ·exact h1
def denI (d:Int):Int:=if d=0 then 1 else d
theorem zbh {ds:List Int} (dd:Dig16 ds) (cd:Canon ds):val16 (denOf ds)=denI (val16 ds)/\Canon (denOf ds)/\Dig16 (denOf ds)/\(denOf ds).length<=ds.length+1/\0<val16 (denOf ds):=by
 unfold denOf denI
 by_cases h:ds=[]
 ·subst h
  simp only[val16]
  refine⟨by decide,fun m hm=>?_,fun j=>?_,by simp,by decide⟩
  ·obtain rfl:m=0:=by simp at hm;omega
   decide
  ·match j with
   | 0=>decide
   | j+1=>simp
 ·have:=val_pos16 dd cd h
  rw[if_neg h,if_neg (by omega)]
  exact⟨rfl,cd,dd,by omega,this⟩
set_option maxRecDepth 100000 in
theorem den_q {w:World} {g:Bool} {q':Option Addr} {n' cap':Nat} {v:Value} {xs:List Int} (h:Sl16 w v xs):Calls Tryz.prog 106 #[.agg #[.bool g,.slice q' n' cap',v]] w fun e w'=>∃r,e=.returned r/\Sl16 w' r (denOf xs)/\Below w.heap.size w w':=by
 have hone:=natOf_one (w.alloc (Obj.cells #[.bool g,.slice q' n' cap',v] 89))
 have hs:=h
 obtain⟨h1,h2,q,cap,rfl,h4,h5⟩:=h
 by_cases hx:xs=[]
 ·subst hx
  go_enter Tryz.func106,Tryz.ntmps106
  go_wp2_with (go_at_call 73;refine hone.mono ?_;rintro e w9 ⟨r,rfl,hr,hb⟩)
  go_ret
  exact⟨_,rfl,hr,((Below.refl _ _).alloc (Nat.le_refl _) _).trans (hb.mono (by simp))⟩
 ·have hlen:¬(xs.length:Int)=0:=by
   have:=List.length_pos_iff.2 hx
   omega
  go_enter Tryz.func106,Tryz.ntmps106
  go_wp2
  go_ret
  have hd:denOf xs=xs:=by simp[denOf,hx]
  exact⟨_,rfl,by rw[hd];exact hs.below ((Below.refl _ _).alloc (Nat.le_refl _) _),(Below.refl _ _).alloc (Nat.le_refl _) _⟩
set_option maxRecDepth 100000 in
theorem sgn_ok {w:World} {v:Value} {g:Bool} {n d:Int} (h:QAt w v g n d):Calls Tryz.prog 135 #[v] w fun e w'=>e=.returned (.int .i64 (if n=0 then 0 else if g then -1 else 1))/\Below w.heap.size w w':=by
 obtain⟨a,b,ns,ds,rfl,h2,h3,h4,h5,h6,h7⟩:=h
 obtain⟨q,cap,rfl⟩:=h2.form
 obtain⟨q',cap',rfl⟩:=h5.form
 by_cases hx:ns=[]
 ·subst hx
  have hn:n=0:=by rw[<-h4];rfl
  subst hn
  clear h2 h3 h4 h5 h6 h7
  go_enter Tryz.func135,Tryz.ntmps135
  go_wp2
  go_ret
  exact⟨rfl,below_alloc _ _⟩
 ·have hlen:¬(ns.length:Int)=0:=by
   have:=List.length_pos_iff.2 hx
   omega
  have hp:=val_pos16 h2.1 h3 hx
  rw[h4] at hp
  have hn:¬n=0:=by omega
  clear h2 h3 h4 h5 h6 h7 hp
  cases g
  ·go_enter Tryz.func135,Tryz.ntmps135
   go_wp2
   go_ret
   exact⟨by simp,below_alloc _ _⟩
  ·go_enter Tryz.func135,Tryz.ntmps135
   go_wp2
   go_ret
   exact⟨by simp,below_alloc _ _⟩
def sg (g:Bool):Int:=if g then -1 else 1
theorem zcd {w W0 w1:World} {N:Nat} {g:Bool} {a b:Value} {ns ds:List Int} {n d:Int} (hN:w.heap.size<=N) (h0:QNew W0 N) (hb0:Below w.heap.size w W0) (hb1:Below W0.heap.size W0 w1) (ha:Sl16 w1 a ns) (ca:Canon ns) (va:val16 ns=n) (hb:Sl16 w1 b ds) (cb:Canon ds) (vb:val16 ds=d):
  Hid (QAt (((w1.setCell ⟨N,0,none⟩ (.bool g)).setCell ⟨N,1,none⟩ a).setCell ⟨N,2,none⟩ b) (.agg #[.bool g,a,b]) g n d/\Below w.heap.size w (((w1.setCell ⟨N,0,none⟩ (.bool g)).setCell ⟨N,1,none⟩ a).setCell ⟨N,2,none⟩ b))/\
  (((w1.setCell ⟨N,0,none⟩ (.bool g)).setCell ⟨N,1,none⟩ a).setCell ⟨N,2,none⟩ b).rangeAt N 0 [.bool g,a,b]:=by
 have h1:=h0.below hb1
 obtain⟨h2,h3⟩:=zbg h1 (.bool g) a b
 exact⟨⟨⟨a,b,ns,ds,rfl,((ha.notQ h1).sav h3).sl,ca,va,((hb.notQ h1).sav h3).sl,cb,vb⟩,(hb0.trans (hb1.mono hb0.size)).trans (h3.below hN (Nat.le_trans hb0.size hb1.size))⟩,h2⟩
theorem zbq (w:World) (o:Obj) (x0 x1 x2:Value) (t:TypeId):((w.alloc o).alloc (.cells #[x0,x1,x2] t)).rangeAt (w.heap.size+1) 0 [x0,x1,x2]:=by
 intro j v hv
 match j,hv with
 | 0,hv=>simp at hv;subst hv;simp
 | 1,hv=>simp at hv;subst hv;simp
 | 2,hv=>simp at hv;subst hv;simp
set_option maxRecDepth 100000 in
set_option maxHeartbeats 2000000 in
theorem opp_ok {w:World} {v:Value} {g:Bool} {n d:Int} (h:QAt w v g n d):Calls Tryz.prog 162 #[v] w fun e w'=>∃r,e=.returned r/\QAt w' r (!g&&!decide (n=0)) n d/\Below w.heap.size w w':=by
 obtain⟨a,b,ns,ds,rfl,h2,h3,h4,h5,h6,h7⟩:=h
 obtain⟨q,cap,rfl⟩:=h2.form
 obtain⟨q',cap',rfl⟩:=h5.form
 obtain⟨dd,hu,hd⟩:=zdl
 have hz:(ns=[]↔n=0):=by
  rw[<-h4]
  constructor
  ·rintro rfl;rfl
  ·intro h
   apply Classical.byContradiction
   intro hne
   have:=val_pos16 h2.1 h3 hne
   omega
 have key':Hid (∀(o1 o2:Obj) (g':Bool),QAt ((w.alloc o1).alloc o2) (.agg #[.bool g',.slice q ns.length cap,.slice q' ds.length cap']) g' n d):=fun o1 o2 g'=>⟨_,_,ns,ds,rfl,h2.below (below_two _ _ _),h3,h4,h5.below (below_two _ _ _),h6,h7⟩
 clear h2 h3 h4 h5 h6 h7
 cases g
 ·by_cases hx:ns=[]
  ·have hn:n=0:=hz.1 hx
   subst hn
   subst hx
   clear hz
   go_enter Tryz.func162,Tryz.ntmps162
   go_wp2
   refine bodyPost_ret (zac rfl _ _ (w.heap.size+1) _ dd rfl (zbq _ _ _ _ _ _) hu hd zav) rfl ?_
   exact⟨_,rfl,by simpa using key'.out _ _ false,below_two _ _ _⟩
  ·have hn:¬n=0:=fun h=>hx (hz.2 h)
   have hlen:(ns.length:Int) > 0:=by have:=List.length_pos_iff.2 hx;omega
   have hlen2:0<ns.length:=by omega
   clear hz hx
   go_enter Tryz.func162,Tryz.ntmps162
   go_wp2
   refine bodyPost_ret (zac rfl _ _ (w.heap.size+1) _ dd rfl (zbq _ _ _ _ _ _) hu hd zav) rfl ?_
   exact⟨_,rfl,by simpa [hn] using key'.out _ _ true,below_two _ _ _⟩
 ·clear hz
  go_enter Tryz.func162,Tryz.ntmps162
  go_wp2
  refine bodyPost_ret (zac rfl _ _ (w.heap.size+1) _ dd rfl (zbq _ _ _ _ _ _) hu hd zav) rfl ?_
  exact⟨_,rfl,by simpa using key'.out _ _ false,below_two _ _ _⟩
theorem zdm {xs ys zs:List Int} (dx:Dig16 xs) (dy:Dig16 ys) (dz:Dig16 zs) (cz:Canon zs) (hv:val16 zs=val16 xs*val16 ys):zs.length<=xs.length+ys.length:=by
 refine za2 dz cz ?_
 have h1:=val_lt16 dx
 have h2:=val_lt16 dy
 have h3:=val_nonneg16 dx
 have h4:=val_nonneg16 dy
 rw[hv,Int.pow_add]
 have h5:val16 xs*val16 ys<=val16 xs*65536^ys.length:=Int.mul_le_mul_of_nonneg_left (by omega) h3
 have h6:val16 xs*65536^ys.length<65536^xs.length*65536^ys.length:=Int.mul_lt_mul_of_pos_right h1 (pow16_pos _)
 omega
set_option maxRecDepth 100000 in
set_option maxHeartbeats 4000000 in
theorem sum_walk {w:World} {g1 g2:Bool} {q1 p1 q2 p2:Option Addr} {l1 c1 m1 e1 l2 c2 m2 e2:Nat} {ns1 ds1 ns2 ds2:List Int} {L:Nat} (hL:L<=68719476000)
  (hn1:Sl16 w (.slice q1 l1 c1) ns1) (hd1:Sl16 w (.slice p1 m1 e1) ds1) (hn2:Sl16 w (.slice q2 l2 c2) ns2) (hd2:Sl16 w (.slice p2 m2 e2) ds2) (cd1:Canon ds1) (cd2:Canon ds2)
  (b1:ns1.length<=L) (b2:ds1.length<=L) (b3:ns2.length<=L) (b4:ds2.length<=L):
  Calls Tryz.prog 161 #[.agg #[.bool g1,.slice q1 l1 c1,.slice p1 m1 e1],.agg #[.bool g2,.slice q2 l2 c2,.slice p2 m2 e2]] w fun e w'=>∃v g m,e=.returned v/\QAt w' v (mkG g m (val16 (denOf ds1)*val16 (denOf ds2))) (mkN m (val16 (denOf ds1)*val16 (denOf ds2))) (mkD m (val16 (denOf ds1)*val16 (denOf ds2)))/\
   0<=m/\sg g*m=sg g1*(val16 ns1*val16 (denOf ds2))+sg g2*(val16 ns2*val16 (denOf ds1))/\Below w.heap.size w w':=by
 have kd1:∀z,Below w.heap.size w z->Calls Tryz.prog 106 #[.agg #[.bool g1,.slice q1 l1 c1,.slice p1 m1 e1]] z fun e w'=>∃r,e=.returned r/\Sl16 w' r (denOf ds1)/\Below z.heap.size z w':=fun z hz=>den_q (hd1.below hz)
 have kd2:∀z,Below w.heap.size w z->Calls Tryz.prog 106 #[.agg #[.bool g2,.slice q2 l2 c2,.slice p2 m2 e2]] z fun e w'=>∃r,e=.returned r/\Sl16 w' r (denOf ds2)/\Below z.heap.size z w':=fun z hz=>den_q (hd2.below hz)
 obtain⟨dd,hu,hd⟩:=zdl
 obtain⟨_,kc1,kg1,kl1,_⟩:=zbh hd1.1 cd1
 obtain⟨_,kc2,kg2,kl2,_⟩:=zbh hd2.1 cd2
 have hn1':Hid (Sl16 w (.slice q1 l1 c1) ns1):=hn1
 have hn2':Hid (Sl16 w (.slice q2 l2 c2) ns2):=hn2
 clear hn1 hn2 hd1 hd2 cd1 cd2
 generalize denOf ds1=D1 at*
 generalize denOf ds2=D2 at*
 have kc1':Hid (Canon D1/\Dig16 D1):=⟨kc1,kg1⟩
 have kc2':Hid (Canon D2/\Dig16 D2):=⟨kc2,kg2⟩
 clear kc1 kg1 kc2 kg2
 go_enter Tryz.func161,Tryz.ntmps161
 go_wp2_with fail
 have hnew:QNew (((w.alloc (.cells #[.bool g1,.slice q1 l1 c1,.slice p1 m1 e1] 89)).alloc (.cells #[.bool g2,.slice q2 l2 c2,.slice p2 m2 e2] 89)).alloc (.cells #[.bool false,.slice none 0 0,.slice none 0 0] 89)) (w.heap.size+1+1):=by
  have:=QNew.made ((w.alloc (.cells #[.bool g1,.slice q1 l1 c1,.slice p1 m1 e1] 89)).alloc (.cells #[.bool g2,.slice q2 l2 c2,.slice p2 m2 e2] 89))
  simpa using this
 have hb0:Below w.heap.size w (((w.alloc (.cells #[.bool g1,.slice q1 l1 c1,.slice p1 m1 e1] 89)).alloc (.cells #[.bool g2,.slice q2 l2 c2,.slice p2 m2 e2] 89)).alloc (.cells #[.bool false,.slice none 0 0,.slice none 0 0] 89)):=(below_two w _ _).alloc (by simp;omega) _
 have hsz:(((w.alloc (.cells #[.bool g1,.slice q1 l1 c1,.slice p1 m1 e1] 89)).alloc (.cells #[.bool g2,.slice q2 l2 c2,.slice p2 m2 e2] 89)).alloc (.cells #[.bool false,.slice none 0 0,.slice none 0 0] 89)).heap.size=w.heap.size+3:=by simp
 have x0:(((w.alloc (.cells #[.bool g1,.slice q1 l1 c1,.slice p1 m1 e1] 89)).alloc (.cells #[.bool g2,.slice q2 l2 c2,.slice p2 m2 e2] 89)).alloc (.cells #[.bool false,.slice none 0 0,.slice none 0 0] 89)).cell? ⟨w.heap.size,0,none⟩=some (.bool g1):=((below_alloc _ _).cell (by simp;try omega)).trans (by simp)
 have x1:(((w.alloc (.cells #[.bool g1,.slice q1 l1 c1,.slice p1 m1 e1] 89)).alloc (.cells #[.bool g2,.slice q2 l2 c2,.slice p2 m2 e2] 89)).alloc (.cells #[.bool false,.slice none 0 0,.slice none 0 0] 89)).cell? ⟨w.heap.size,1,none⟩=some (.slice q1 l1 c1):=((below_alloc _ _).cell (by simp;try omega)).trans (by simp)
 have x2:(((w.alloc (.cells #[.bool g1,.slice q1 l1 c1,.slice p1 m1 e1] 89)).alloc (.cells #[.bool g2,.slice q2 l2 c2,.slice p2 m2 e2] 89)).alloc (.cells #[.bool false,.slice none 0 0,.slice none 0 0] 89)).cell? ⟨w.heap.size,2,none⟩=some (.slice p1 m1 e1):=((below_alloc _ _).cell (by simp;try omega)).trans (by simp)
 have y0:(((w.alloc (.cells #[.bool g1,.slice q1 l1 c1,.slice p1 m1 e1] 89)).alloc (.cells #[.bool g2,.slice q2 l2 c2,.slice p2 m2 e2] 89)).alloc (.cells #[.bool false,.slice none 0 0,.slice none 0 0] 89)).cell? ⟨w.heap.size+1,0,none⟩=some (.bool g2):=((below_alloc _ _).cell (by simp;try omega)).trans (by simp)
 have y1:(((w.alloc (.cells #[.bool g1,.slice q1 l1 c1,.slice p1 m1 e1] 89)).alloc (.cells #[.bool g2,.slice q2 l2 c2,.slice p2 m2 e2] 89)).alloc (.cells #[.bool false,.slice none 0 0,.slice none 0 0] 89)).cell? ⟨w.heap.size+1,1,none⟩=some (.slice q2 l2 c2):=((below_alloc _ _).cell (by simp;try omega)).trans (by simp)
 have y2:(((w.alloc (.cells #[.bool g1,.slice q1 l1 c1,.slice p1 m1 e1] 89)).alloc (.cells #[.bool g2,.slice q2 l2 c2,.slice p2 m2 e2] 89)).alloc (.cells #[.bool false,.slice none 0 0,.slice none 0 0] 89)).cell? ⟨w.heap.size+1,2,none⟩=some (.slice p2 m2 e2):=((below_alloc _ _).cell (by simp;try omega)).trans (by simp)
 generalize (((w.alloc (.cells #[.bool g1,.slice q1 l1 c1,.slice p1 m1 e1] 89)).alloc (.cells #[.bool g2,.slice q2 l2 c2,.slice p2 m2 e2] 89)).alloc (.cells #[.bool false,.slice none 0 0,.slice none 0 0] 89))=W0 at*
 have hS1:(fun z=>Below w.heap.size w z/\w.heap.size+3<=z.heap.size/\z.cell? ⟨w.heap.size,0,none⟩=some (.bool g1)/\z.cell? ⟨w.heap.size,1,none⟩=some (.slice q1 l1 c1)/\z.cell? ⟨w.heap.size,2,none⟩=some (.slice p1 m1 e1)/\z.cell? ⟨w.heap.size+1,0,none⟩=some (.bool g2)/\z.cell? ⟨w.heap.size+1,1,none⟩=some (.slice q2 l2 c2)/\z.cell? ⟨w.heap.size+1,2,none⟩=some (.slice p2 m2 e2)) W0.drew:=⟨hb0.drew,by show _<=W0.heap.size;omega,x0,x1,x2,y0,y1,y2⟩
 have tr:∀z z',(fun z=>Below w.heap.size w z/\w.heap.size+3<=z.heap.size/\z.cell? ⟨w.heap.size,0,none⟩=some (.bool g1)/\z.cell? ⟨w.heap.size,1,none⟩=some (.slice q1 l1 c1)/\z.cell? ⟨w.heap.size,2,none⟩=some (.slice p1 m1 e1)/\z.cell? ⟨w.heap.size+1,0,none⟩=some (.bool g2)/\z.cell? ⟨w.heap.size+1,1,none⟩=some (.slice q2 l2 c2)/\z.cell? ⟨w.heap.size+1,2,none⟩=some (.slice p2 m2 e2)) z->Below z.heap.size z z'->(fun z=>Below w.heap.size w z/\w.heap.size+3<=z.heap.size/\z.cell? ⟨w.heap.size,0,none⟩=some (.bool g1)/\z.cell? ⟨w.heap.size,1,none⟩=some (.slice q1 l1 c1)/\z.cell? ⟨w.heap.size,2,none⟩=some (.slice p1 m1 e1)/\z.cell? ⟨w.heap.size+1,0,none⟩=some (.bool g2)/\z.cell? ⟨w.heap.size+1,1,none⟩=some (.slice q2 l2 c2)/\z.cell? ⟨w.heap.size+1,2,none⟩=some (.slice p2 m2 e2)) z':=by
  rintro z z' ⟨a0,a1,a2,a3,a4,a5,a6,a7⟩ hb
  have hs:=hb.size
  exact⟨a0.trans (hb.mono a0.size),by omega,(hb.cell (by show w.heap.size<_;omega)).trans a2,(hb.cell (by show w.heap.size<_;omega)).trans a3,(hb.cell (by show w.heap.size<_;omega)).trans a4,(hb.cell (by show w.heap.size+1<_;omega)).trans a5,(hb.cell (by show w.heap.size+1<_;omega)).trans a6,(hb.cell (by show w.heap.size+1<_;omega)).trans a7⟩
 have ts:∀z j u,(fun z=>Below w.heap.size w z/\w.heap.size+3<=z.heap.size/\z.cell? ⟨w.heap.size,0,none⟩=some (.bool g1)/\z.cell? ⟨w.heap.size,1,none⟩=some (.slice q1 l1 c1)/\z.cell? ⟨w.heap.size,2,none⟩=some (.slice p1 m1 e1)/\z.cell? ⟨w.heap.size+1,0,none⟩=some (.bool g2)/\z.cell? ⟨w.heap.size+1,1,none⟩=some (.slice q2 l2 c2)/\z.cell? ⟨w.heap.size+1,2,none⟩=some (.slice p2 m2 e2)) z->(fun z=>Below w.heap.size w z/\w.heap.size+3<=z.heap.size/\z.cell? ⟨w.heap.size,0,none⟩=some (.bool g1)/\z.cell? ⟨w.heap.size,1,none⟩=some (.slice q1 l1 c1)/\z.cell? ⟨w.heap.size,2,none⟩=some (.slice p1 m1 e1)/\z.cell? ⟨w.heap.size+1,0,none⟩=some (.bool g2)/\z.cell? ⟨w.heap.size+1,1,none⟩=some (.slice q2 l2 c2)/\z.cell? ⟨w.heap.size+1,2,none⟩=some (.slice p2 m2 e2)) (z.setCell ⟨w.heap.size+1+1,j,none⟩ u):=by
  rintro z j u ⟨a0,a1,a2,a3,a4,a5,a6,a7⟩
  exact⟨a0.setCell (by show _<=w.heap.size+1+1;omega) u,by simp;omega,(World.cell?_setCell_far _ _ _ _ (by simp;try omega)).trans a2,(World.cell?_setCell_far _ _ _ _ (by simp;try omega)).trans a3,(World.cell?_setCell_far _ _ _ _ (by simp;try omega)).trans a4,(World.cell?_setCell_far _ _ _ _ (by simp;try omega)).trans a5,(World.cell?_setCell_far _ _ _ _ (by simp;try omega)).trans a6,(World.cell?_setCell_far _ _ _ _ (by simp;try omega)).trans a7⟩
 have tr':=hid_of tr
 have ts':=hid_of ts
 clear tr ts x0 x1 x2 y0 y1 y2
 have hsd:W0.drew.heap.size=W0.heap.size:=rfl
 go_region_held3 (fun z=>Below w.heap.size w z/\w.heap.size+3<=z.heap.size/\z.cell? ⟨w.heap.size,0,none⟩=some (.bool g1)/\z.cell? ⟨w.heap.size,1,none⟩=some (.slice q1 l1 c1)/\z.cell? ⟨w.heap.size,2,none⟩=some (.slice p1 m1 e1)/\z.cell? ⟨w.heap.size+1,0,none⟩=some (.bool g2)/\z.cell? ⟨w.heap.size+1,1,none⟩=some (.slice q2 l2 c2)/\z.cell? ⟨w.heap.size+1,2,none⟩=some (.slice p2 m2 e2)) (first | exact hS5 | exact hS4 | exact hS3 | exact hS2 | exact hS1)
  (first
    | (go_at_call 106;with_reducible refine(kd2 _ ?_).mono ?_;exact hS1.1;rintro e w2 ⟨r2,rfl,h2,hb2⟩
       have hS2:=tr'.out _ _ hS1 hb2
       have kx:=zbp (hn1'.out.below hS2.1) h2 (by omega))
    | (go_at_call 108;with_reducible refine kx.mono ?_;rintro e w3 ⟨rx,xs,rfl,hx,cx,vx,hb3⟩
       have hS3:=tr'.out _ _ hS2 hb3)
    | (go_at_call 106;with_reducible refine(kd1 _ ?_).mono ?_;exact hS3.1;rintro e w4 ⟨r4,rfl,h4,hb4⟩
       have hS4:=tr'.out _ _ hS3 hb4
       have ky:=zbp (hn2'.out.below hS4.1) h4 (by omega))
    | (go_at_call 108;with_reducible refine ky.mono ?_;rintro e w5 ⟨ry,ys,rfl,hy,cy,vy,hb5⟩
       have hS5:=tr'.out _ _ hS4 hb5))
 have hbx:Below w3.heap.size w3 w5:=hb4.trans (hb5.mono hb4.size)
 have hx5:=hx.below hbx
 have lx:=zdm hn1'.out.1 kc2'.out.2 hx.1 cx vx
 have ly:=zdm hn2'.out.1 kc1'.out.2 hy.1 cy vy
 have hb05:Below W0.heap.size W0 w5:=(Below.refl W0.heap.size W0).drew.trans (hb2.trans ((hb3.trans (hbx.mono hb3.size)).mono hb2.size))
 have hfx:Hid (Sl16 w5 rx xs/\Canon xs/\val16 xs=val16 ns1*val16 D2/\Sl16 w5 ry ys/\Canon ys/\val16 ys=val16 ns2*val16 D1/\Below W0.heap.size W0 w5):=⟨hx5,cx,vx,hy,cy,vy,hb05⟩
 have hS6:(fun z=>Below w.heap.size w z/\w.heap.size+3<=z.heap.size/\z.cell? ⟨w.heap.size,0,none⟩=some (.bool g1)/\z.cell? ⟨w.heap.size,1,none⟩=some (.slice q1 l1 c1)/\z.cell? ⟨w.heap.size,2,none⟩=some (.slice p1 m1 e1)/\z.cell? ⟨w.heap.size+1,0,none⟩=some (.bool g2)/\z.cell? ⟨w.heap.size+1,1,none⟩=some (.slice q2 l2 c2)/\z.cell? ⟨w.heap.size+1,2,none⟩=some (.slice p2 m2 e2)) w5.drew:=⟨hS5.1.drew,hS5.2⟩
 clear hS1 hS2 hS3 hS4 hx cx vx hy cy vy hb2 hb3 hb4 hb5 hbx hx5 hb05 kx ky h2 h4
 go_wp2_with fail
 go_region_held3 (fun z=>Below w.heap.size w z/\w.heap.size+3<=z.heap.size/\z.cell? ⟨w.heap.size,0,none⟩=some (.bool g1)/\z.cell? ⟨w.heap.size,1,none⟩=some (.slice q1 l1 c1)/\z.cell? ⟨w.heap.size,2,none⟩=some (.slice p1 m1 e1)/\z.cell? ⟨w.heap.size+1,0,none⟩=some (.bool g2)/\z.cell? ⟨w.heap.size+1,1,none⟩=some (.slice q2 l2 c2)/\z.cell? ⟨w.heap.size+1,2,none⟩=some (.slice p2 m2 e2)) (first | exact hS9 | exact hS8 | exact hS7 | exact hS6)
  (first
    | (go_at_call 106;with_reducible refine(kd1 _ ?_).mono ?_;exact hS6.1;rintro e w7 ⟨r7,rfl,h7,hb7⟩
       have hS7:=tr'.out _ _ hS6 hb7)
    | (go_at_call 106;with_reducible refine(kd2 _ ?_).mono ?_;exact hS7.1;rintro e w8 ⟨r8,rfl,h8,hb8⟩
       have hS8:=tr'.out _ _ hS7 hb8
       have kz:=zbp (h7.below hb8) h8 (by omega))
    | (go_at_call 108;with_reducible refine kz.mono ?_;rintro e w9 ⟨rz,zs,rfl,hz,cz,vz,hb9⟩
       have hS9:=tr'.out _ _ hS8 hb9))
 have hb59:Below w5.heap.size w5 w9:=(Below.refl w5.heap.size w5).drew.trans (hb7.trans ((hb8.trans (hb9.mono hb8.size)).mono hb7.size))
 have lz:=zdm kc1'.out.2 kc2'.out.2 hz.1 cz vz
 have hx9:Hid (Sl16 w9 rx xs):=hfx.out.1.below hb59
 have hy9:Hid (Sl16 w9 ry ys):=hfx.out.2.2.2.1.below hb59
 have hz9:Hid (Sl16 w9 rz zs/\Canon zs/\val16 zs=val16 D1*val16 D2):=⟨hz,cz,vz⟩
 have hb09:Hid (Below W0.heap.size W0 w9):=hfx.out.2.2.2.2.2.2.trans (hb59.mono hfx.out.2.2.2.2.2.2.size)
 have hnew':Hid (QNew W0 (w.heap.size+1+1)):=hnew
 have hb0':Hid (Below w.heap.size w W0):=hb0
 have hS9':Hid ((fun z=>Below w.heap.size w z/\w.heap.size+3<=z.heap.size/\z.cell? ⟨w.heap.size,0,none⟩=some (.bool g1)/\z.cell? ⟨w.heap.size,1,none⟩=some (.slice q1 l1 c1)/\z.cell? ⟨w.heap.size,2,none⟩=some (.slice p1 m1 e1)/\z.cell? ⟨w.heap.size+1,0,none⟩=some (.bool g2)/\z.cell? ⟨w.heap.size+1,1,none⟩=some (.slice q2 l2 c2)/\z.cell? ⟨w.heap.size+1,2,none⟩=some (.slice p2 m2 e2)) w9):=hS9
 obtain⟨_,z1,z2,z3,z4,z5,z6,z7⟩:=hS9
 clear hS5 hS6 hS7 hS8 hz cz vz hb7 hb8 hb9 kz h7 h8 hb59 hnew hb0 kd1 kd2
 by_cases hgg:g1=g2
 ·have hgg':(g1==g2)=true:=by simp[hgg]
  have hgg2:Hid (g1=g2):=hgg
  clear hgg
  go_wp2_with fail
  have hSa:(fun z=>Below w.heap.size w z/\w.heap.size+3<=z.heap.size/\z.cell? ⟨w.heap.size,0,none⟩=some (.bool g1)/\z.cell? ⟨w.heap.size,1,none⟩=some (.slice q1 l1 c1)/\z.cell? ⟨w.heap.size,2,none⟩=some (.slice p1 m1 e1)/\z.cell? ⟨w.heap.size+1,0,none⟩=some (.bool g2)/\z.cell? ⟨w.heap.size+1,1,none⟩=some (.slice q2 l2 c2)/\z.cell? ⟨w.heap.size+1,2,none⟩=some (.slice p2 m2 e2)) w9.drew:=⟨hS9'.out.1.drew,hS9'.out.2⟩
  have ka:=zfa (hx9.out.below (Below.refl w9.heap.size w9).drew) (hy9.out.below (Below.refl w9.heap.size w9).drew) hfx.out.2.1 hfx.out.2.2.2.2.1 (by omega) (by omega)
  go_region_held3 (fun z=>Below w.heap.size w z/\w.heap.size+3<=z.heap.size/\z.cell? ⟨w.heap.size,0,none⟩=some (.bool g1)/\z.cell? ⟨w.heap.size,1,none⟩=some (.slice q1 l1 c1)/\z.cell? ⟨w.heap.size,2,none⟩=some (.slice p1 m1 e1)/\z.cell? ⟨w.heap.size+1,0,none⟩=some (.bool g2)/\z.cell? ⟨w.heap.size+1,1,none⟩=some (.slice q2 l2 c2)/\z.cell? ⟨w.heap.size+1,2,none⟩=some (.slice p2 m2 e2)) (first | exact ts'.out _ _ _ (ts'.out _ _ _ (ts'.out _ _ _ hSd)) | exact hSd | exact hSb | exact hSa)
   (first
     | (go_at_call 181;with_reducible refine ka.mono ?_;rintro e wa ⟨ra,aa,rfl,ha,ca,va,la,hba⟩
        have hSb:=tr'.out _ _ hSa hba
        have hbb:Below w9.heap.size w9 wa:=(Below.refl w9.heap.size w9).drew.trans hba
        have hza:=(hz9.out.1).below hbb
        have km:=zb3 (g:=g1) ha hza ca hz9.out.2.1 (by omega) (by omega)
        rw[va] at km
        clear va)
     | (go_at_call 72;with_reducible refine km.mono ?_;rintro e wd ⟨rd,rfl,hq,hbd⟩
        have hSd:=tr'.out _ _ hSb hbd
        obtain⟨u1,u2,nsq,dsq,rfl,k2,k3,k4,k5,k6,k7⟩:=hq
        obtain⟨qn,kn,rfl⟩:=k2.form
        obtain⟨qd,kd,rfl⟩:=k5.form
        have hb0d:Below W0.heap.size W0 wd:=hb09.out.trans ((hbb.trans (hbd.mono hbb.size)).mono hb09.out.size)
        obtain⟨hk,hrow⟩:=zcd (N:=w.heap.size+1+1) (g:=mkG g1 (val16 xs+val16 ys) (val16 zs)) (by omega) hnew'.out hb0'.out hb0d k2 k3 k4 k5 k6 k7
        have hq9:=hnew'.out.below hb0d
        have f0:=hq9.c0
        have f1:=hq9.c1
        have f2:=hq9.c2
        have fr:=hq9.fr
        clear hq9))
  go_wp2_with fail
  refine bodyPost_ret (zac rfl _ _ (w.heap.size+1+1) _ dd rfl hrow hu hd zav) rfl ?_
  refine⟨_,g1,val16 xs+val16 ys,rfl,by rw[<-hz9.out.2.2];exact hk.out.1,?_,?_,hk.out.2⟩
  ·have:=val_nonneg16 hx9.out.1
   have:=val_nonneg16 hy9.out.1
   omega
  ·rw[hfx.out.2.2.1,hfx.out.2.2.2.2.2.1,Int.mul_add,<-hgg2.out]
 ·have hgg':(g1==g2)=false:=by simp[hgg]
  have hcmp:=natCmp_sg hx9.out hy9.out hfx.out.2.1 hfx.out.2.2.2.2.1
  by_cases hlt:val16 xs<val16 ys
  ·have hlt':Hid (val16 xs<val16 ys):=hlt
   clear hlt hgg
   go_wp2_with (go_at_call 107;with_reducible refine hcmp.mono ?_;rintro e wc ⟨c,rfl,hc1,hc2,hbc⟩
                have hcn:c<0:=hc1.2 hlt'.out
                have hSc:=tr'.out _ _ hS9'.out hbc
                clear hc1 hc2)
   have hSa:(fun z=>Below w.heap.size w z/\w.heap.size+3<=z.heap.size/\z.cell? ⟨w.heap.size,0,none⟩=some (.bool g1)/\z.cell? ⟨w.heap.size,1,none⟩=some (.slice q1 l1 c1)/\z.cell? ⟨w.heap.size,2,none⟩=some (.slice p1 m1 e1)/\z.cell? ⟨w.heap.size+1,0,none⟩=some (.bool g2)/\z.cell? ⟨w.heap.size+1,1,none⟩=some (.slice q2 l2 c2)/\z.cell? ⟨w.heap.size+1,2,none⟩=some (.slice p2 m2 e2)) wc.drew:=⟨hSc.1.drew,hSc.2⟩
   have ka:=natSub_ok ((hy9.out.below hbc).below (Below.refl wc.heap.size wc).drew) ((hx9.out.below hbc).below (Below.refl wc.heap.size wc).drew) (len_le_of_val hx9.out.1 hy9.out.1 hfx.out.2.1 (by have:=hlt'.out;omega)) (by have:=hlt'.out;omega)
   go_region_held3 (fun z=>Below w.heap.size w z/\w.heap.size+3<=z.heap.size/\z.cell? ⟨w.heap.size,0,none⟩=some (.bool g1)/\z.cell? ⟨w.heap.size,1,none⟩=some (.slice q1 l1 c1)/\z.cell? ⟨w.heap.size,2,none⟩=some (.slice p1 m1 e1)/\z.cell? ⟨w.heap.size+1,0,none⟩=some (.bool g2)/\z.cell? ⟨w.heap.size+1,1,none⟩=some (.slice q2 l2 c2)/\z.cell? ⟨w.heap.size+1,2,none⟩=some (.slice p2 m2 e2)) (first | exact ts'.out _ _ _ (ts'.out _ _ _ (ts'.out _ _ _ hSd)) | exact hSd | exact hSb | exact hSa)
    (first
      | (go_at_call 182;with_reducible refine ka.mono ?_;rintro e wa ⟨ra,aa,rfl,ha,ca,va,hba⟩
         have la:=len_le_of_val ha.1 hy9.out.1 ca (by rw[va];have:=val_nonneg16 hx9.out.1;have:=val_nonneg16 hy9.out.1;omega)
         have hSb:=tr'.out _ _ hSa hba
         have hbb:Below wc.heap.size wc wa:=(Below.refl wc.heap.size wc).drew.trans hba
         have hza:=(hz9.out.1.below hbc).below hbb
         have km:=zb3 (g:=g2) ha hza ca hz9.out.2.1 (by omega) (by omega)
         rw[va] at km
         clear va)
      | (go_at_call 72;with_reducible refine km.mono ?_;rintro e wd ⟨rd,rfl,hq,hbd⟩
         have hSd:=tr'.out _ _ hSb hbd
         obtain⟨u1,u2,nsq,dsq,rfl,k2,k3,k4,k5,k6,k7⟩:=hq
         obtain⟨qn,kn,rfl⟩:=k2.form
         obtain⟨qd,kd,rfl⟩:=k5.form
         have hb0d:Below W0.heap.size W0 wd:=hb09.out.trans (((hbc.trans (hbb.mono hbc.size)).trans (hbd.mono (hbc.trans (hbb.mono hbc.size)).size)).mono hb09.out.size)
         obtain⟨hk,hrow⟩:=zcd (N:=w.heap.size+1+1) (g:=mkG g2 (val16 ys - val16 xs) (val16 zs)) (by omega) hnew'.out hb0'.out hb0d k2 k3 k4 k5 k6 k7
         have hq9:=hnew'.out.below hb0d
         have f0:=hq9.c0
         have f1:=hq9.c1
         have f2:=hq9.c2
         have fr:=hq9.fr
         clear hq9))
   go_wp2_with fail
   refine bodyPost_ret (zac rfl _ _ (w.heap.size+1+1) _ dd rfl hrow hu hd zav) rfl ?_
   refine⟨_,g2,val16 ys - val16 xs,rfl,by rw[<-hz9.out.2.2];exact hk.out.1,?_,?_,hk.out.2⟩
   ·have:=hlt'.out
    omega
   ·rw[hfx.out.2.2.1,hfx.out.2.2.2.2.2.1,Int.mul_sub]
    cases g1<;>cases g2<;>simp[sg] at hgg' ⊢<;>omega
  ·have hlt':Hid (¬val16 xs<val16 ys):=hlt
   clear hlt hgg
   go_wp2_with (go_at_call 107;with_reducible refine hcmp.mono ?_;rintro e wc ⟨c,rfl,hc1,hc2,hbc⟩
                have hcn:¬c<0:=fun h=>hlt'.out (hc1.1 h)
                have hSc:=tr'.out _ _ hS9'.out hbc
                clear hc1 hc2)
   have hSa:(fun z=>Below w.heap.size w z/\w.heap.size+3<=z.heap.size/\z.cell? ⟨w.heap.size,0,none⟩=some (.bool g1)/\z.cell? ⟨w.heap.size,1,none⟩=some (.slice q1 l1 c1)/\z.cell? ⟨w.heap.size,2,none⟩=some (.slice p1 m1 e1)/\z.cell? ⟨w.heap.size+1,0,none⟩=some (.bool g2)/\z.cell? ⟨w.heap.size+1,1,none⟩=some (.slice q2 l2 c2)/\z.cell? ⟨w.heap.size+1,2,none⟩=some (.slice p2 m2 e2)) wc.drew:=⟨hSc.1.drew,hSc.2⟩
   have ka:=natSub_ok ((hx9.out.below hbc).below (Below.refl wc.heap.size wc).drew) ((hy9.out.below hbc).below (Below.refl wc.heap.size wc).drew) (len_le_of_val hy9.out.1 hx9.out.1 hfx.out.2.2.2.2.1 (by have:=hlt'.out;omega)) (by have:=hlt'.out;omega)
   go_region_held3 (fun z=>Below w.heap.size w z/\w.heap.size+3<=z.heap.size/\z.cell? ⟨w.heap.size,0,none⟩=some (.bool g1)/\z.cell? ⟨w.heap.size,1,none⟩=some (.slice q1 l1 c1)/\z.cell? ⟨w.heap.size,2,none⟩=some (.slice p1 m1 e1)/\z.cell? ⟨w.heap.size+1,0,none⟩=some (.bool g2)/\z.cell? ⟨w.heap.size+1,1,none⟩=some (.slice q2 l2 c2)/\z.cell? ⟨w.heap.size+1,2,none⟩=some (.slice p2 m2 e2)) (first | exact ts'.out _ _ _ (ts'.out _ _ _ (ts'.out _ _ _ hSd)) | exact hSd | exact hSb | exact hSa)
    (first
      | (go_at_call 182;with_reducible refine ka.mono ?_;rintro e wa ⟨ra,aa,rfl,ha,ca,va,hba⟩
         have la:=len_le_of_val ha.1 hx9.out.1 ca (by rw[va];have:=val_nonneg16 hx9.out.1;have:=val_nonneg16 hy9.out.1;omega)
         have hSb:=tr'.out _ _ hSa hba
         have hbb:Below wc.heap.size wc wa:=(Below.refl wc.heap.size wc).drew.trans hba
         have hza:=(hz9.out.1.below hbc).below hbb
         have km:=zb3 (g:=g1) ha hza ca hz9.out.2.1 (by omega) (by omega)
         rw[va] at km
         clear va)
      | (go_at_call 72;with_reducible refine km.mono ?_;rintro e wd ⟨rd,rfl,hq,hbd⟩
         have hSd:=tr'.out _ _ hSb hbd
         obtain⟨u1,u2,nsq,dsq,rfl,k2,k3,k4,k5,k6,k7⟩:=hq
         obtain⟨qn,kn,rfl⟩:=k2.form
         obtain⟨qd,kd,rfl⟩:=k5.form
         have hb0d:Below W0.heap.size W0 wd:=hb09.out.trans (((hbc.trans (hbb.mono hbc.size)).trans (hbd.mono (hbc.trans (hbb.mono hbc.size)).size)).mono hb09.out.size)
         obtain⟨hk,hrow⟩:=zcd (N:=w.heap.size+1+1) (g:=mkG g1 (val16 xs - val16 ys) (val16 zs)) (by omega) hnew'.out hb0'.out hb0d k2 k3 k4 k5 k6 k7
         have hq9:=hnew'.out.below hb0d
         have f0:=hq9.c0
         have f1:=hq9.c1
         have f2:=hq9.c2
         have fr:=hq9.fr
         clear hq9))
   go_wp2_with fail
   refine bodyPost_ret (zac rfl _ _ (w.heap.size+1+1) _ dd rfl hrow hu hd zav) rfl ?_
   refine⟨_,g1,val16 xs - val16 ys,rfl,by rw[<-hz9.out.2.2];exact hk.out.1,?_,?_,hk.out.2⟩
   ·have:=hlt'.out
    omega
   ·rw[hfx.out.2.2.1,hfx.out.2.2.2.2.2.1,Int.mul_sub]
    cases g1<;>cases g2<;>simp[sg] at hgg' ⊢<;>omega
def QLt (L:Nat) (n d:Int):Prop:=n<65536^L/\d<65536^L
theorem sum_ok {w:World} {a b:Value} {g1 g2:Bool} {n1 d1 n2 d2:Int} {L:Nat} (h1:QAt w a g1 n1 d1) (h2:QAt w b g2 n2 d2) (hL:L<=68719476000) (l1:QLt L n1 d1) (l2:QLt L n2 d2):
  Calls Tryz.prog 161 #[a,b] w fun e w'=>∃v g m,e=.returned v/\QAt w' v (mkG g m (denI d1*denI d2)) (mkN m (denI d1*denI d2)) (mkD m (denI d1*denI d2))/\0<=m/\sg g*m=sg g1*(n1*denI d2)+sg g2*(n2*denI d1)/\Below w.heap.size w w':=by
 obtain⟨_,_,ns1,ds1,rfl,hn1,cn1,rfl,hd1,cd1,rfl⟩:=h1
 obtain⟨_,_,ns2,ds2,rfl,hn2,cn2,rfl,hd2,cd2,rfl⟩:=h2
 obtain⟨q1,c1,rfl⟩:=hn1.form
 obtain⟨p1,e1,rfl⟩:=hd1.form
 obtain⟨q2,c2,rfl⟩:=hn2.form
 obtain⟨p2,e2,rfl⟩:=hd2.form
 have:=sum_walk (g1:=g1) (g2:=g2) hL hn1 hd1 hn2 hd2 cd1 cd2 (za2 hn1.1 cn1 l1.1) (za2 hd1.1 cd1 l1.2) (za2 hn2.1 cn2 l2.1) (za2 hd2.1 cd2 l2.2)
 rwa [(zbh hd1.1 cd1).1,(zbh hd2.1 cd2).1] at this
theorem opp_sum (g1 g2:Bool) (x n2 d:Int):sg g1*x+sg (!g2&&!decide (n2=0))*(n2*d)=sg g1*x - sg g2*(n2*d):=by
 by_cases h:n2=0
 ·subst h
  simp
 ·cases g2<;>simp[sg,h]<;>omega
set_option maxRecDepth 100000 in
set_option maxHeartbeats 4000000 in
theorem diff_ok {w:World} {a b:Value} {g1 g2:Bool} {i1 d1 i2 d2:Int} {L:Nat} (h1:QAt w a g1 i1 d1) (h2:QAt w b g2 i2 d2) (hL:L<=68719476000) (b1:QLt L i1 d1) (b2:QLt L i2 d2):
  Calls Tryz.prog 136 #[a,b] w fun e w'=>∃v g m,e=.returned v/\QAt w' v (mkG g m (denI d1*denI d2)) (mkN m (denI d1*denI d2)) (mkD m (denI d1*denI d2))/\0<=m/\sg g*m=sg g1*(i1*denI d2) - sg g2*(i2*denI d1)/\Below w.heap.size w w':=by
 have kop:∀z,Below w.heap.size w z->Calls Tryz.prog 162 #[b] z fun e w'=>∃r,e=.returned r/\QAt w' r (!g2&&!decide (i2=0)) i2 d2/\Below z.heap.size z w':=fun z hz=>opp_ok (h2.below hz)
 have h1':Hid (QAt w a g1 i1 d1):=h1
 obtain⟨_,_,ns1,ds1,rfl,hn1,_,_,hd1,_,_⟩:=h1
 obtain⟨_,_,ns2,ds2,rfl,hn2,_,_,hd2,_,_⟩:=h2
 obtain⟨q1,c1,rfl⟩:=hn1.form
 obtain⟨p1,e1,rfl⟩:=hd1.form
 obtain⟨q2,c2,rfl⟩:=hn2.form
 obtain⟨p2,e2,rfl⟩:=hd2.form
 generalize ns1.length=l1 at*
 generalize ds1.length=m1 at*
 generalize ns2.length=l2 at*
 generalize ds2.length=m2 at*
 obtain⟨dd,hu,hd⟩:=zdl
 have b1':Hid (QLt L i1 d1/\QLt L i2 d2):=⟨b1,b2⟩
 clear hn1 hn2 hd1 hd2 b1 b2
 go_enter Tryz.func136,Tryz.ntmps136
 go_wp2_with fail
 have hnew:QNew (((w.alloc (.cells #[.bool g1,.slice q1 l1 c1,.slice p1 m1 e1] 89)).alloc (.cells #[.bool g2,.slice q2 l2 c2,.slice p2 m2 e2] 89)).alloc (.cells #[.bool false,.slice none 0 0,.slice none 0 0] 89)) (w.heap.size+1+1):=by
  have:=QNew.made ((w.alloc (.cells #[.bool g1,.slice q1 l1 c1,.slice p1 m1 e1] 89)).alloc (.cells #[.bool g2,.slice q2 l2 c2,.slice p2 m2 e2] 89))
  simpa using this
 have hb0:Below w.heap.size w (((w.alloc (.cells #[.bool g1,.slice q1 l1 c1,.slice p1 m1 e1] 89)).alloc (.cells #[.bool g2,.slice q2 l2 c2,.slice p2 m2 e2] 89)).alloc (.cells #[.bool false,.slice none 0 0,.slice none 0 0] 89)):=(below_two w _ _).alloc (by simp;omega) _
 have hsz:(((w.alloc (.cells #[.bool g1,.slice q1 l1 c1,.slice p1 m1 e1] 89)).alloc (.cells #[.bool g2,.slice q2 l2 c2,.slice p2 m2 e2] 89)).alloc (.cells #[.bool false,.slice none 0 0,.slice none 0 0] 89)).heap.size=w.heap.size+3:=by simp
 have x0:(((w.alloc (.cells #[.bool g1,.slice q1 l1 c1,.slice p1 m1 e1] 89)).alloc (.cells #[.bool g2,.slice q2 l2 c2,.slice p2 m2 e2] 89)).alloc (.cells #[.bool false,.slice none 0 0,.slice none 0 0] 89)).cell? ⟨w.heap.size,0,none⟩=some (.bool g1):=((below_alloc _ _).cell (by simp;try omega)).trans (by simp)
 have x1:(((w.alloc (.cells #[.bool g1,.slice q1 l1 c1,.slice p1 m1 e1] 89)).alloc (.cells #[.bool g2,.slice q2 l2 c2,.slice p2 m2 e2] 89)).alloc (.cells #[.bool false,.slice none 0 0,.slice none 0 0] 89)).cell? ⟨w.heap.size,1,none⟩=some (.slice q1 l1 c1):=((below_alloc _ _).cell (by simp;try omega)).trans (by simp)
 have x2:(((w.alloc (.cells #[.bool g1,.slice q1 l1 c1,.slice p1 m1 e1] 89)).alloc (.cells #[.bool g2,.slice q2 l2 c2,.slice p2 m2 e2] 89)).alloc (.cells #[.bool false,.slice none 0 0,.slice none 0 0] 89)).cell? ⟨w.heap.size,2,none⟩=some (.slice p1 m1 e1):=((below_alloc _ _).cell (by simp;try omega)).trans (by simp)
 have y0:(((w.alloc (.cells #[.bool g1,.slice q1 l1 c1,.slice p1 m1 e1] 89)).alloc (.cells #[.bool g2,.slice q2 l2 c2,.slice p2 m2 e2] 89)).alloc (.cells #[.bool false,.slice none 0 0,.slice none 0 0] 89)).cell? ⟨w.heap.size+1,0,none⟩=some (.bool g2):=((below_alloc _ _).cell (by simp;try omega)).trans (by simp)
 have y1:(((w.alloc (.cells #[.bool g1,.slice q1 l1 c1,.slice p1 m1 e1] 89)).alloc (.cells #[.bool g2,.slice q2 l2 c2,.slice p2 m2 e2] 89)).alloc (.cells #[.bool false,.slice none 0 0,.slice none 0 0] 89)).cell? ⟨w.heap.size+1,1,none⟩=some (.slice q2 l2 c2):=((below_alloc _ _).cell (by simp;try omega)).trans (by simp)
 have y2:(((w.alloc (.cells #[.bool g1,.slice q1 l1 c1,.slice p1 m1 e1] 89)).alloc (.cells #[.bool g2,.slice q2 l2 c2,.slice p2 m2 e2] 89)).alloc (.cells #[.bool false,.slice none 0 0,.slice none 0 0] 89)).cell? ⟨w.heap.size+1,2,none⟩=some (.slice p2 m2 e2):=((below_alloc _ _).cell (by simp;try omega)).trans (by simp)
 generalize (((w.alloc (.cells #[.bool g1,.slice q1 l1 c1,.slice p1 m1 e1] 89)).alloc (.cells #[.bool g2,.slice q2 l2 c2,.slice p2 m2 e2] 89)).alloc (.cells #[.bool false,.slice none 0 0,.slice none 0 0] 89))=W0 at*
 have hS1:(fun z=>Below w.heap.size w z/\w.heap.size+3<=z.heap.size/\z.cell? ⟨w.heap.size,0,none⟩=some (.bool g1)/\z.cell? ⟨w.heap.size,1,none⟩=some (.slice q1 l1 c1)/\z.cell? ⟨w.heap.size,2,none⟩=some (.slice p1 m1 e1)/\z.cell? ⟨w.heap.size+1,0,none⟩=some (.bool g2)/\z.cell? ⟨w.heap.size+1,1,none⟩=some (.slice q2 l2 c2)/\z.cell? ⟨w.heap.size+1,2,none⟩=some (.slice p2 m2 e2)) W0.drew:=⟨hb0.drew,by show _<=W0.heap.size;omega,x0,x1,x2,y0,y1,y2⟩
 have tr:∀z z',(fun z=>Below w.heap.size w z/\w.heap.size+3<=z.heap.size/\z.cell? ⟨w.heap.size,0,none⟩=some (.bool g1)/\z.cell? ⟨w.heap.size,1,none⟩=some (.slice q1 l1 c1)/\z.cell? ⟨w.heap.size,2,none⟩=some (.slice p1 m1 e1)/\z.cell? ⟨w.heap.size+1,0,none⟩=some (.bool g2)/\z.cell? ⟨w.heap.size+1,1,none⟩=some (.slice q2 l2 c2)/\z.cell? ⟨w.heap.size+1,2,none⟩=some (.slice p2 m2 e2)) z->Below z.heap.size z z'->(fun z=>Below w.heap.size w z/\w.heap.size+3<=z.heap.size/\z.cell? ⟨w.heap.size,0,none⟩=some (.bool g1)/\z.cell? ⟨w.heap.size,1,none⟩=some (.slice q1 l1 c1)/\z.cell? ⟨w.heap.size,2,none⟩=some (.slice p1 m1 e1)/\z.cell? ⟨w.heap.size+1,0,none⟩=some (.bool g2)/\z.cell? ⟨w.heap.size+1,1,none⟩=some (.slice q2 l2 c2)/\z.cell? ⟨w.heap.size+1,2,none⟩=some (.slice p2 m2 e2)) z':=by
  rintro z z' ⟨a0,a1,a2,a3,a4,a5,a6,a7⟩ hb
  have hs:=hb.size
  exact⟨a0.trans (hb.mono a0.size),by omega,(hb.cell (by show w.heap.size<_;omega)).trans a2,(hb.cell (by show w.heap.size<_;omega)).trans a3,(hb.cell (by show w.heap.size<_;omega)).trans a4,(hb.cell (by show w.heap.size+1<_;omega)).trans a5,(hb.cell (by show w.heap.size+1<_;omega)).trans a6,(hb.cell (by show w.heap.size+1<_;omega)).trans a7⟩
 have ts:∀z j u,(fun z=>Below w.heap.size w z/\w.heap.size+3<=z.heap.size/\z.cell? ⟨w.heap.size,0,none⟩=some (.bool g1)/\z.cell? ⟨w.heap.size,1,none⟩=some (.slice q1 l1 c1)/\z.cell? ⟨w.heap.size,2,none⟩=some (.slice p1 m1 e1)/\z.cell? ⟨w.heap.size+1,0,none⟩=some (.bool g2)/\z.cell? ⟨w.heap.size+1,1,none⟩=some (.slice q2 l2 c2)/\z.cell? ⟨w.heap.size+1,2,none⟩=some (.slice p2 m2 e2)) z->(fun z=>Below w.heap.size w z/\w.heap.size+3<=z.heap.size/\z.cell? ⟨w.heap.size,0,none⟩=some (.bool g1)/\z.cell? ⟨w.heap.size,1,none⟩=some (.slice q1 l1 c1)/\z.cell? ⟨w.heap.size,2,none⟩=some (.slice p1 m1 e1)/\z.cell? ⟨w.heap.size+1,0,none⟩=some (.bool g2)/\z.cell? ⟨w.heap.size+1,1,none⟩=some (.slice q2 l2 c2)/\z.cell? ⟨w.heap.size+1,2,none⟩=some (.slice p2 m2 e2)) (z.setCell ⟨w.heap.size+1+1,j,none⟩ u):=by
  rintro z j u ⟨a0,a1,a2,a3,a4,a5,a6,a7⟩
  exact⟨a0.setCell (by show _<=w.heap.size+1+1;omega) u,by simp;omega,(World.cell?_setCell_far _ _ _ _ (by simp;try omega)).trans a2,(World.cell?_setCell_far _ _ _ _ (by simp;try omega)).trans a3,(World.cell?_setCell_far _ _ _ _ (by simp;try omega)).trans a4,(World.cell?_setCell_far _ _ _ _ (by simp;try omega)).trans a5,(World.cell?_setCell_far _ _ _ _ (by simp;try omega)).trans a6,(World.cell?_setCell_far _ _ _ _ (by simp;try omega)).trans a7⟩
 have tr':=hid_of tr
 have ts':=hid_of ts
 clear tr ts
 have hnew':Hid (QNew W0 (w.heap.size+1+1)):=hnew
 have hb0':Hid (Below w.heap.size w W0):=hb0
 clear hnew hb0 x0 x1 x2 y0 y1 y2
 have hsd:W0.drew.heap.size=W0.heap.size:=rfl
 go_region_held3 (fun z=>Below w.heap.size w z/\w.heap.size+3<=z.heap.size/\z.cell? ⟨w.heap.size,0,none⟩=some (.bool g1)/\z.cell? ⟨w.heap.size,1,none⟩=some (.slice q1 l1 c1)/\z.cell? ⟨w.heap.size,2,none⟩=some (.slice p1 m1 e1)/\z.cell? ⟨w.heap.size+1,0,none⟩=some (.bool g2)/\z.cell? ⟨w.heap.size+1,1,none⟩=some (.slice q2 l2 c2)/\z.cell? ⟨w.heap.size+1,2,none⟩=some (.slice p2 m2 e2)) (first | exact ts'.out _ _ _ (ts'.out _ _ _ (ts'.out _ _ _ hSd)) | exact hSd | exact hSb | exact hS1)
  (first
    | (go_at_call 162;with_reducible refine(kop _ ?_).mono ?_;exact hS1.1;rintro e wa ⟨ra,rfl,ha,hba⟩
       have hSb:=tr'.out _ _ hS1 hba
       have km:=sum_ok (h1'.out.below hSb.1) ha hL b1'.out.1 b1'.out.2
       rw[opp_sum] at km)
    | (go_at_call 161;with_reducible refine km.mono ?_;rintro e wd ⟨rd,gg,mm,rfl,hq,hm0,hms,hbd⟩
       have hSd:=tr'.out _ _ hSb hbd
       obtain⟨u1,u2,nsq,dsq,rfl,k2,k3,k4,k5,k6,k7⟩:=hq
       obtain⟨qn,kn,rfl⟩:=k2.form
       obtain⟨qd,kd,rfl⟩:=k5.form
       have hb0d:Below W0.heap.size W0 wd:=(Below.refl W0.heap.size W0).drew.trans (hba.trans (hbd.mono hba.size))
       obtain⟨hk,hrow⟩:=zcd (N:=w.heap.size+1+1) (g:=mkG gg mm (denI d1*denI d2)) (by omega) hnew'.out hb0'.out hb0d k2 k3 k4 k5 k6 k7
       have hq9:=hnew'.out.below hb0d
       have f0:=hq9.c0
       have f1:=hq9.c1
       have f2:=hq9.c2
       have fr:=hq9.fr
       have hms':Hid (sg gg*mm=sg g1*(i1*denI d2) - sg g2*(i2*denI d1)):=hms
       clear hq9 hms))
 go_wp2_with fail
 refine bodyPost_ret (zac rfl _ _ (w.heap.size+1+1) _ dd rfl hrow hu hd zav) rfl ?_
 exact⟨_,gg,mm,rfl,hk.out.1,hm0,hms'.out,hk.out.2⟩
def sgnI (s:Int):Int:=if s=0 then 0 else if s<0 then -1 else 1
theorem sgn_mk {g:Bool} {m D S:Int} (hm:0<=m) (hD:0<D) (hS:sg g*m=S):(if mkN m D=0 then(0:Int) else if mkG g m D then -1 else 1)=sgnI S:=by
 unfold sgnI mkN mkG
 by_cases h:m=0
 ·subst h
  simp only[Int.mul_zero] at hS
  rw[<-hS]
  simp
 ·have hg:=zcj (b:=D) (by omega:0<m)
  have hle:gcdI m D<=m:=by
   unfold gcdI
   have:=Nat.le_of_dvd (by omega) (Nat.gcd_dvd_left m.toNat D.toNat)
   omega
  have h1:1<=m / gcdI m D:=(Int.le_ediv_iff_mul_le hg).2 (by omega)
  rw[if_neg (by omega:¬(m=0\/D=0)),if_neg (by omega:¬m / gcdI m D=0),if_neg (by omega:¬(m=0\/D=0))]
  cases g
  ·have hS':m=S:=by simpa [sg] using hS
   rw[if_neg (by omega:¬S=0),if_neg (by omega:¬S<0)]
   simp
  ·have hS':-m=S:=by simpa [sg] using hS
   rw[if_neg (by omega:¬S=0),if_pos (by omega:S<0)]
   simp
theorem zck {d:Int} (h:0<=d):0<denI d:=by
 unfold denI
 split<;>omega
theorem QAt.nn {w:World} {v:Value} {g:Bool} {n d:Int} (h:QAt w v g n d):0<=n/\0<=d:=by
 obtain⟨_,_,ns,ds,_,h1,_,rfl,h2,_,rfl⟩:=h
 exact⟨val_nonneg16 h1.1,val_nonneg16 h2.1⟩
set_option maxRecDepth 100000 in
set_option maxHeartbeats 4000000 in
theorem zc1 {w:World} {a b:Value} {g1 g2:Bool} {i1 d1 i2 d2:Int} {L:Nat} (h1:QAt w a g1 i1 d1) (h2:QAt w b g2 i2 d2) (hL:L<=68719476000) (b1:QLt L i1 d1) (b2:QLt L i2 d2):
  Calls Tryz.prog 104 #[a,b] w fun e w'=>e=.returned (.int .i64 (sgnI (sg g1*(i1*denI d2) - sg g2*(i2*denI d1))))/\Below w.heap.size w w':=by
 have hdf:∀z,Below w.heap.size w z->_:=fun z hz=>diff_ok (h1.below hz) (h2.below hz) hL b1 b2
 have hdd:0<denI d1*denI d2:=Int.mul_pos (zck h1.nn.2) (zck h2.nn.2)
 have hdd':Hid (0<denI d1*denI d2):=hdd
 obtain⟨_,_,ns1,ds1,rfl,hn1,_,_,hd1,_,_⟩:=h1
 obtain⟨_,_,ns2,ds2,rfl,hn2,_,_,hd2,_,_⟩:=h2
 obtain⟨q1,c1,rfl⟩:=hn1.form
 obtain⟨p1,e1,rfl⟩:=hd1.form
 obtain⟨q2,c2,rfl⟩:=hn2.form
 obtain⟨p2,e2,rfl⟩:=hd2.form
 generalize ns1.length=l1 at*
 generalize ds1.length=m1 at*
 generalize ns2.length=l2 at*
 generalize ds2.length=m2 at*
 clear hn1 hn2 hd1 hd2 b1 b2 hdd
 have hB:Below w.heap.size w ((w.alloc (.cells #[.bool g1,.slice q1 l1 c1,.slice p1 m1 e1] 89)).alloc (.cells #[.bool g2,.slice q2 l2 c2,.slice p2 m2 e2] 89)):=below_two _ _ _
 have hdf2:=hdf _ hB
 clear hdf
 go_enter Tryz.func104,Tryz.ntmps104
 go_wp2_with (first
  | (go_at_call 136;with_reducible refine hdf2.mono ?_;rintro e w2 ⟨r,g,m,rfl,hq,hm0,hms,hb2⟩
     have hsg:=sgn_ok hq
     rw[sgn_mk hm0 hdd'.out hms] at hsg)
  | (go_at_call 135;with_reducible refine hsg.mono ?_;rintro e w3 ⟨rfl,hb3⟩))
 go_ret
 exact⟨rfl,hB.trans ((hb2.trans (hb3.mono hb2.size)).mono hB.size)⟩
theorem zce (xs:List Int):(trim (halves xs)).length<=2*xs.length:=by
 rw[trim_length]
 have:=trimTo_le (halves xs) (halves xs).length
 rw[halves_length] at this ⊢
 exact this
theorem zef {de:List Int} (hd:Dig de) (h:trim (halves de)=[]):denI (val de)=1:=by
 have:=(trim_nil16 (dig_halves hd)).1 h
 rw[val_halves] at this
 simp[denI,this]
theorem zeg {de:List Int} (hd:Dig de) (h:¬trim (halves de)=[]):denI (val de)=val de:=by
 have:¬val de=0:=fun e=>h ((trim_nil16 (dig_halves hd)).2 (by rw[val_halves];exact e))
 simp[denI,this]
set_option maxRecDepth 100000 in
set_option maxHeartbeats 4000000 in
theorem za3 {w:World} {g:Bool} {q1 p1:Option Addr} {l1 c1 m1 e1:Nat} {nu de:List Int} (h1:Sl w (.slice q1 l1 c1) nu) (h2:Sl w (.slice p1 m1 e1) de) (ln:nu.length<=34359738000) (ld:de.length<=34359738000):
  Calls Tryz.prog 133 #[.agg #[.bool g,.slice q1 l1 c1,.slice p1 m1 e1]] w fun e w'=>∃v,e=.returned v/\QAt w' v (mkG g (val nu) (denI (val de))) (mkN (val nu) (denI (val de))) (mkD (val nu) (denI (val de)))/\Below w.heap.size w w':=by
 have kw1:∀z,Below w.heap.size w z->Calls Tryz.prog 105 #[.slice q1 l1 c1] z fun e w'=>∃r,e=.returned r/\Sl16 w' r (trim (halves nu))/\Below z.heap.size z w':=fun z hz=>words_ok (h1.below hz) (by omega)
 have kw2:∀z,Below w.heap.size w z->Calls Tryz.prog 105 #[.slice p1 m1 e1] z fun e w'=>∃r,e=.returned r/\Sl16 w' r (trim (halves de))/\Below z.heap.size z w':=fun z hz=>words_ok (h2.below hz) (by omega)
 have lw1:(trim (halves nu)).length<=274877906000:=by have:=zce nu;omega
 have lw2:(trim (halves de)).length<=274877906000:=by have:=zce de;omega
 have hdn:trim (halves de)=[]->Hid (denI (val de)=1):=fun h=>zef h2.1 h
 have hds:¬trim (halves de)=[]->Hid (denI (val de)=val16 (trim (halves de))):=fun h=>by rw[val_trim16,val_halves];exact zeg h2.1 h
 have hcn:=canon_trim (halves de)
 generalize trim (halves de)=D at*
 have hcn':Hid (Canon D):=hcn
 have hof:=fun z=>natOf_ok z 1 (by omega) (by omega)
 obtain⟨dd,hu,hd⟩:=zdl
 clear h1 h2 hcn
 go_enter Tryz.func133,Tryz.ntmps133
 go_wp2_with fail
 have hnew:QNew ((w.alloc (.cells #[.bool g,.slice q1 l1 c1,.slice p1 m1 e1] 41)).alloc (.cells #[.bool false,.slice none 0 0,.slice none 0 0] 89)) (w.heap.size+1):=by
  have:=QNew.made (w.alloc (.cells #[.bool g,.slice q1 l1 c1,.slice p1 m1 e1] 41))
  simpa using this
 have hb0:Below w.heap.size w ((w.alloc (.cells #[.bool g,.slice q1 l1 c1,.slice p1 m1 e1] 41)).alloc (.cells #[.bool false,.slice none 0 0,.slice none 0 0] 89)):=below_two w _ _
 have hsz:((w.alloc (.cells #[.bool g,.slice q1 l1 c1,.slice p1 m1 e1] 41)).alloc (.cells #[.bool false,.slice none 0 0,.slice none 0 0] 89)).heap.size=w.heap.size+2:=by simp
 have x0:((w.alloc (.cells #[.bool g,.slice q1 l1 c1,.slice p1 m1 e1] 41)).alloc (.cells #[.bool false,.slice none 0 0,.slice none 0 0] 89)).cell? ⟨w.heap.size,0,none⟩=some (.bool g):=by simp
 have x1:((w.alloc (.cells #[.bool g,.slice q1 l1 c1,.slice p1 m1 e1] 41)).alloc (.cells #[.bool false,.slice none 0 0,.slice none 0 0] 89)).cell? ⟨w.heap.size,1,none⟩=some (.slice q1 l1 c1):=by simp
 have x2:((w.alloc (.cells #[.bool g,.slice q1 l1 c1,.slice p1 m1 e1] 41)).alloc (.cells #[.bool false,.slice none 0 0,.slice none 0 0] 89)).cell? ⟨w.heap.size,2,none⟩=some (.slice p1 m1 e1):=by simp
 generalize ((w.alloc (.cells #[.bool g,.slice q1 l1 c1,.slice p1 m1 e1] 41)).alloc (.cells #[.bool false,.slice none 0 0,.slice none 0 0] 89))=W0 at*
 have hS1:(fun z=>Below w.heap.size w z/\w.heap.size+2<=z.heap.size/\z.cell? ⟨w.heap.size,0,none⟩=some (.bool g)/\z.cell? ⟨w.heap.size,1,none⟩=some (.slice q1 l1 c1)/\z.cell? ⟨w.heap.size,2,none⟩=some (.slice p1 m1 e1)) W0:=⟨hb0,by omega,x0,x1,x2⟩
 have tr:∀z z',(fun z=>Below w.heap.size w z/\w.heap.size+2<=z.heap.size/\z.cell? ⟨w.heap.size,0,none⟩=some (.bool g)/\z.cell? ⟨w.heap.size,1,none⟩=some (.slice q1 l1 c1)/\z.cell? ⟨w.heap.size,2,none⟩=some (.slice p1 m1 e1)) z->Below z.heap.size z z'->(fun z=>Below w.heap.size w z/\w.heap.size+2<=z.heap.size/\z.cell? ⟨w.heap.size,0,none⟩=some (.bool g)/\z.cell? ⟨w.heap.size,1,none⟩=some (.slice q1 l1 c1)/\z.cell? ⟨w.heap.size,2,none⟩=some (.slice p1 m1 e1)) z':=by
  rintro z z' ⟨a0,a1,a2,a3,a4⟩ hb
  have hs:=hb.size
  exact⟨a0.trans (hb.mono a0.size),by omega,(hb.cell (by show w.heap.size<_;omega)).trans a2,(hb.cell (by show w.heap.size<_;omega)).trans a3,(hb.cell (by show w.heap.size<_;omega)).trans a4⟩
 have ts:∀z j u,(fun z=>Below w.heap.size w z/\w.heap.size+2<=z.heap.size/\z.cell? ⟨w.heap.size,0,none⟩=some (.bool g)/\z.cell? ⟨w.heap.size,1,none⟩=some (.slice q1 l1 c1)/\z.cell? ⟨w.heap.size,2,none⟩=some (.slice p1 m1 e1)) z->(fun z=>Below w.heap.size w z/\w.heap.size+2<=z.heap.size/\z.cell? ⟨w.heap.size,0,none⟩=some (.bool g)/\z.cell? ⟨w.heap.size,1,none⟩=some (.slice q1 l1 c1)/\z.cell? ⟨w.heap.size,2,none⟩=some (.slice p1 m1 e1)) (z.setCell ⟨w.heap.size+1,j,none⟩ u):=by
  rintro z j u ⟨a0,a1,a2,a3,a4⟩
  exact⟨a0.setCell (by show _<=w.heap.size+1;omega) u,by simp;omega,(World.cell?_setCell_far _ _ _ _ (by simp)).trans a2,(World.cell?_setCell_far _ _ _ _ (by simp)).trans a3,(World.cell?_setCell_far _ _ _ _ (by simp)).trans a4⟩
 have tr':=hid_of tr
 have ts':=hid_of ts
 have hnew':Hid (QNew W0 (w.heap.size+1)):=hnew
 have hb0':Hid (Below w.heap.size w W0):=hb0
 have hS1':=hid_of hS1
 clear tr ts hnew hb0 hS1
 have kw2':=kw2 W0 hb0'.out
 clear kw2
 by_cases hD:D=[]
 ·subst hD
  have hd1:=hdn rfl
  clear hdn hds
  go_wp2_with (first
   | (go_at_call 105;with_reducible refine kw2'.mono ?_;rintro e w1 ⟨r1,rfl,hr1,hb1⟩
      obtain⟨qd,kd,rfl⟩:=hr1.form)
   | (go_at_call 73;with_reducible refine(hof _).mono ?_;rintro e w2 ⟨r2,ds,rfl,hz,hzc,hzv,hzl,hb2⟩))
  have hb02:Hid (Below W0.heap.size W0 w2):=hb1.trans (hb2.mono hb1.size)
  have hS4:(fun z=>Below w.heap.size w z/\w.heap.size+2<=z.heap.size/\z.cell? ⟨w.heap.size,0,none⟩=some (.bool g)/\z.cell? ⟨w.heap.size,1,none⟩=some (.slice q1 l1 c1)/\z.cell? ⟨w.heap.size,2,none⟩=some (.slice p1 m1 e1)) w2.drew:=by
   have:=tr'.out _ _ hS1'.out hb02.out
   exact⟨this.1.drew,this.2⟩
  have hdd:Hid (Sl16 w2 r2 ds/\Canon ds/\val16 ds=denI (val de)/\ds.length<=274877906000):=⟨hz,hzc,by rw[hd1.out,hzv],by omega⟩
  clear hz hzc hzv hzl hb2 hb1 hd1 hr1
  go_region_held3 (fun z=>Below w.heap.size w z/\w.heap.size+2<=z.heap.size/\z.cell? ⟨w.heap.size,0,none⟩=some (.bool g)/\z.cell? ⟨w.heap.size,1,none⟩=some (.slice q1 l1 c1)/\z.cell? ⟨w.heap.size,2,none⟩=some (.slice p1 m1 e1)) (first | exact ts'.out _ _ _ (ts'.out _ _ _ (ts'.out _ _ _ hSd)) | exact hSd | exact hSb | exact hS4)
   (first
     | (go_at_call 105;with_reducible refine(kw1 _ ?_).mono ?_;exact hS4.1;rintro e wa ⟨ra,rfl,ha,hba⟩
        have hSb:=tr'.out _ _ hS4 hba
        have km:=zb3 (g:=g) ha (hdd.out.1.below ((Below.refl w2.heap.size w2).drew.trans hba)) (canon_trim _) hdd.out.2.1 lw1 hdd.out.2.2.2
        rw[val_trim16,val_halves,hdd.out.2.2.1] at km)
     | (go_at_call 72;with_reducible refine km.mono ?_;rintro e wd ⟨rd,rfl,hq,hbd⟩
        have hSd:=tr'.out _ _ hSb hbd
        obtain⟨u1,u2,nsq,dsq,rfl,k2,k3,k4,k5,k6,k7⟩:=hq
        obtain⟨qn,kn,rfl⟩:=k2.form
        obtain⟨qd,kd,rfl⟩:=k5.form
        have hb0d:Below W0.heap.size W0 wd:=hb02.out.trans (((Below.refl w2.heap.size w2).drew.trans (hba.trans (hbd.mono hba.size))).mono hb02.out.size)
        obtain⟨hk,hrow⟩:=zcd (N:=w.heap.size+1) (g:=mkG g (val nu) (denI (val de))) (by omega) hnew'.out hb0'.out hb0d k2 k3 k4 k5 k6 k7
        have hq9:=hnew'.out.below hb0d
        have f0:=hq9.c0
        have f1:=hq9.c1
        have f2:=hq9.c2
        have fr:=hq9.fr
        clear hq9))
  go_wp2_with fail
  refine bodyPost_ret (zac rfl _ _ (w.heap.size+1) _ dd rfl hrow hu hd zav) rfl ?_
  exact⟨_,rfl,hk.out.1,hk.out.2⟩
 ·have hd1:=hds hD
  have hDl:¬(D.length:Int)=0:=by have:=List.length_pos_iff.2 hD;omega
  clear hdn hds
  go_wp2_with (go_at_call 105;with_reducible refine kw2'.mono ?_;rintro e w2 ⟨r2,rfl,hr1,hb1⟩
               have hr1':Hid (Sl16 w2 r2 D):=hr1
               obtain⟨qd,kd,rfl⟩:=hr1.form)
  have hb02:Hid (Below W0.heap.size W0 w2):=hb1
  have hS4:(fun z=>Below w.heap.size w z/\w.heap.size+2<=z.heap.size/\z.cell? ⟨w.heap.size,0,none⟩=some (.bool g)/\z.cell? ⟨w.heap.size,1,none⟩=some (.slice q1 l1 c1)/\z.cell? ⟨w.heap.size,2,none⟩=some (.slice p1 m1 e1)) w2.drew:=by
   have:=tr'.out _ _ hS1'.out hb02.out
   exact⟨this.1.drew,this.2⟩
  have hdd:Hid (Sl16 w2 (.slice qd D.length kd) D/\Canon D/\val16 D=denI (val de)/\D.length<=274877906000):=⟨hr1,hcn'.out,by rw[hd1.out],lw2⟩
  clear hb1 hd1 hr1
  go_region_held3 (fun z=>Below w.heap.size w z/\w.heap.size+2<=z.heap.size/\z.cell? ⟨w.heap.size,0,none⟩=some (.bool g)/\z.cell? ⟨w.heap.size,1,none⟩=some (.slice q1 l1 c1)/\z.cell? ⟨w.heap.size,2,none⟩=some (.slice p1 m1 e1)) (first | exact ts'.out _ _ _ (ts'.out _ _ _ (ts'.out _ _ _ hSd)) | exact hSd | exact hSb | exact hS4)
   (first
     | (go_at_call 105;with_reducible refine(kw1 _ ?_).mono ?_;exact hS4.1;rintro e wa ⟨ra,rfl,ha,hba⟩
        have hSb:=tr'.out _ _ hS4 hba
        have km:=zb3 (g:=g) ha (hdd.out.1.below ((Below.refl w2.heap.size w2).drew.trans hba)) (canon_trim _) hdd.out.2.1 lw1 hdd.out.2.2.2
        rw[val_trim16,val_halves,hdd.out.2.2.1] at km)
     | (go_at_call 72;with_reducible refine km.mono ?_;rintro e wd ⟨rd,rfl,hq,hbd⟩
        have hSd:=tr'.out _ _ hSb hbd
        obtain⟨u1,u2,nsq,dsq,rfl,k2,k3,k4,k5,k6,k7⟩:=hq
        obtain⟨qn,kn,rfl⟩:=k2.form
        obtain⟨qd,kd,rfl⟩:=k5.form
        have hb0d:Below W0.heap.size W0 wd:=hb02.out.trans (((Below.refl w2.heap.size w2).drew.trans (hba.trans (hbd.mono hba.size))).mono hb02.out.size)
        obtain⟨hk,hrow⟩:=zcd (N:=w.heap.size+1) (g:=mkG g (val nu) (denI (val de))) (by omega) hnew'.out hb0'.out hb0d k2 k3 k4 k5 k6 k7
        have hq9:=hnew'.out.below hb0d
        have f0:=hq9.c0
        have f1:=hq9.c1
        have f2:=hq9.c2
        have fr:=hq9.fr
        clear hq9))
  go_wp2_with fail
  refine bodyPost_ret (zac rfl _ _ (w.heap.size+1) _ dd rfl hrow hu hd zav) rfl ?_
  exact⟨_,rfl,hk.out.1,hk.out.2⟩
theorem mkN_le {n d:Int} (hn:0<=n) (hd:0<=d):mkN n d<=n/\mkD n d<=max d 1/\0<=mkN n d/\0<=mkD n d:=by
 unfold mkN mkD
 split
 ·omega
 ·rename_i h
  have hg:=zcj (b:=d) (by omega:0<n)
  have h1:=Int.ediv_le_self (gcdI n d) hn
  have h2:=Int.ediv_le_self (gcdI n d) hd
  have h3:=Int.ediv_nonneg hn (by omega:0<=gcdI n d)
  have h4:=Int.ediv_nonneg hd (by omega:0<=gcdI n d)
  omega
structure IvV where
 g1:Bool
 n1:Int
 d1:Int
 g2:Bool
 n2:Int
 d2:Int
 li:Bool
 hh:Bool
 em:Bool
def IAt (w:World) (v:Value) (i:IvV):Prop:=
 ∃a1 b1 a2 b2,v=.agg #[.bool i.g1,a1,b1,.bool i.g2,a2,b2,.bool i.li,.bool i.hh,.bool i.em]/\QAt w (.agg #[.bool i.g1,a1,b1]) i.g1 i.n1 i.d1/\QAt w (.agg #[.bool i.g2,a2,b2]) i.g2 i.n2 i.d2
theorem IAt.below {w w':World} {v:Value} {i:IvV} (h:IAt w v i) (hb:Below w.heap.size w w'):IAt w' v i:=by
 obtain⟨a1,b1,a2,b2,h1,h2,h3⟩:=h
 exact⟨a1,b1,a2,b2,h1,h2.below hb,h3.below hb⟩
structure IvC where
 g1:Bool
 n1:Int
 d1:Int
 g2:Bool
 n2:Int
 d2:Int
 li:Bool
 hh:Bool
def IvC.lo (c:IvC):Bool × Int × Int:=if c.li then(false,0,0) else(mkG c.g1 c.n1 (denI c.d1),mkN c.n1 (denI c.d1),mkD c.n1 (denI c.d1))
def IvC.hi (c:IvC):Bool × Int × Int:=if c.hh then(false,0,0) else(mkG c.g2 c.n2 (denI c.d2),mkN c.n2 (denI c.d2),mkD c.n2 (denI c.d2))
def qS (a b:Bool × Int × Int):Int:=sgnI (sg a.1*(a.2.1*denI b.2.2) - sg b.1*(b.2.1*denI a.2.2))
def IvC.v (c:IvC):IvV:=
 if c.li=false/\c.hh=false/\0<qS c.lo c.hi then⟨false,0,0,false,0,0,false,false,true⟩
 else⟨c.lo.1,c.lo.2.1,c.lo.2.2,c.hi.1,c.hi.2.1,c.hi.2.2,c.li,c.hh,false⟩
theorem za8 (w:World):QAt w (.agg #[.bool false,.slice none 0 0,.slice none 0 0]) false 0 0:=⟨_,_,[],[],rfl,⟨fun j=>by simp[List.getD],by simp,none,0,rfl,Nat.le_refl _,.inl rfl⟩,fun m hm=>by simp at hm,rfl,⟨fun j=>by simp[List.getD],by simp,none,0,rfl,Nat.le_refl _,.inl rfl⟩,fun m hm=>by simp at hm,rfl⟩
theorem zdn:∃d,Tryz.prog.underlying 151=some d/\d.isRow=true:=⟨_,Tryz.underlying151,rfl⟩
theorem zbw:(Tryz.prog.info? 151).map (·.size)=some 9:=by kernel_rfl
def BlkI (w:World) (N:Nat) (t:TypeId) (cs:Array Value):Prop:=w.heap[N]?=some (.cells cs t (0,0))
def NoW (cs:Array Value):Prop:=∀(j:Nat) (x:Int),cs[j]?≠some (Value.int .u32 x)
theorem BlkI.lt {w:World} {N:Nat} {t:TypeId} {cs:Array Value} (h:BlkI w N t cs):N<w.heap.size:=(Array.getElem?_eq_some_iff.1 h).1
theorem BlkI.below {w w':World} {N:Nat} {t:TypeId} {cs:Array Value} (h:BlkI w N t cs) (hb:Below w.heap.size w w'):BlkI w' N t cs:=(hb.block N h.lt).trans h
theorem BlkI.cell {w:World} {N:Nat} {t:TypeId} {cs:Array Value} (h:BlkI w N t cs) (j:Nat):w.cell? ⟨N,j,none⟩=cs[j]?:=by unfold BlkI at h;simp[World.cell?,h]
theorem BlkI.fr {w:World} {N:Nat} {t:TypeId} {cs:Array Value} (h:BlkI w N t cs) (j:Nat):w.frozen? ⟨N,j,none⟩=false:=by unfold BlkI at h;simp[World.frozen?,h]
theorem BlkI.set {w:World} {N:Nat} {t:TypeId} {cs:Array Value} (h:BlkI w N t cs) (j:Nat) (v:Value):BlkI (w.setCell ⟨N,j,none⟩ v) N t (cs.setIfInBounds j v):=by
 unfold BlkI at h ⊢
 show(w.heap.modify N _)[N]?=_
 rw[Array.getElem?_modify,if_pos rfl,h]
 simp
theorem BlkI.other {w:World} {N:Nat} {t:TypeId} {cs:Array Value} (h:BlkI w N t cs) {p:Addr} (hp:p.block≠N) (v:Value):BlkI (w.setCell p v) N t cs:=(Below.heap_setCell _ _ _ _ (by omega)).trans h
theorem BlkI.row {w:World} {N:Nat} {t:TypeId} {cs:Array Value} (h:BlkI w N t cs):w.rangeAt N 0 cs.toList:=fun j v hv=>by
 have:=h.cell j
 rw[Nat.zero_add,this]
 simpa using hv
theorem Sl16.notI {w:World} {v:Value} {xs:List Int} {N:Nat} {cs:Array Value} (h:Sl16 w v xs) {t:TypeId} (hN:BlkI w N t cs) (hc:NoW cs):Sl16N N w v xs:=by
 obtain⟨h1,h2,q,cap,h3,h4,h5⟩:=h
 refine⟨h1,h2,q,cap,h3,h4,?_⟩
 by_cases hx:xs=[]
 ·exact .inl hx
 ·rcases h5 with h5 | ⟨b,o,e,hlt,hcc⟩
  ·exact absurd h5 hx
  ·refine .inr ⟨b,o,e,hlt,?_,hcc⟩
   rintro rfl
   exact hc _ _ ((hN.cell _).symm.trans (hcc 0 (List.length_pos_iff.2 hx)))
theorem QAt.sav {w w':World} {v:Value} {g:Bool} {n d:Int} {N:Nat} {cs:Array Value} (h:QAt w v g n d) {t:TypeId} (hN:BlkI w N t cs) (hc:NoW cs) (hs:Sav N w w'):QAt w' v g n d:=by
 obtain⟨a,b,ns,ds,h1,h2,h3,h4,h5,h6,h7⟩:=h
 exact⟨a,b,ns,ds,h1,((h2.notI hN hc).sav hs).sl,h3,h4,((h5.notI hN hc).sav hs).sl,h6,h7⟩
theorem zaj {g1 g2 b1 b2 b3:Bool} {q1 q2 q3 q4:Option Addr} {l1 c1 l2 c2 l3 c3 l4 c4:Nat}:NoW #[.bool g1,.slice q1 l1 c1,.slice q2 l2 c2,.bool g2,.slice q3 l3 c3,.slice q4 l4 c4,.bool b1,.bool b2,.bool b3]:=by
 intro j x
 match j with
 | 0=>simp
 | 1=>simp
 | 2=>simp
 | 3=>simp
 | 4=>simp
 | 5=>simp
 | 6=>simp
 | 7=>simp
 | 8=>simp
 | j+9=>simp
set_option maxRecDepth 100000 in
set_option maxHeartbeats 2000000 in
theorem zdo (w:World):Calls Tryz.prog 134 #[] w fun e w'=>e=.returned (.agg #[.bool false,.slice none 0 0,.slice none 0 0,.bool false,.slice none 0 0,.slice none 0 0,.bool false,.bool false,.bool true])/\Below w.heap.size w w':=by
 obtain⟨dd,hu,hd⟩:=zdn
 go_enter Tryz.func134,Tryz.ntmps134
 go_wp2
 refine bodyPost_ret (zac rfl _ _ w.heap.size [.bool false,.slice none 0 0,.slice none 0 0,.bool false,.slice none 0 0,.slice none 0 0,.bool false,.bool false,.bool true] dd rfl (BlkI.row (heap_alloc_new w _)) hu hd zbw) rfl ?_
 exact⟨rfl,below_alloc _ _⟩
end Go.Proofs.YtfhjhnofkaiceaaGreatDoor
