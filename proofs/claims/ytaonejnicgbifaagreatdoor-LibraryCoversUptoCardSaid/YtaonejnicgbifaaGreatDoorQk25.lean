import Derived.Test.YtaonejnicgbifaaGreatDoorQk24
namespace Go.Proofs.YtaonejnicgbifaaGreatDoor
open Go Go.RowKit
def Nd.cells (d:Nd):List Value:=[.int .i64 d.k,.int .i64 d.f,.bool d.neg,.slice d.aq d.an d.ac,.slice d.cq d.cn d.cc,.string d.m,.slice d.sq d.sn d.sc]
structure Si where
 m:ByteArray
 g1:Bool
 nu1:List Int
 de1:List Int
 g2:Bool
 nu2:List Int
 de2:List Int
 li:Bool
 hh:Bool
structure Sv where
 q1:Option Addr
 l1:Nat
 c1:Nat
 p1:Option Addr
 m1:Nat
 e1:Nat
 q2:Option Addr
 l2:Nat
 c2:Nat
 p2:Option Addr
 m2:Nat
 e2:Nat
def Si.iv (s:Si) (d:Sv):List Value:=[.bool s.g1,.slice d.q1 d.l1 d.c1,.slice d.p1 d.m1 d.e1,.bool s.g2,.slice d.q2 d.l2 d.c2,.slice d.p2 d.m2 d.e2,.bool s.li,.bool s.hh]
def Si.cells (s:Si) (d:Sv):List Value:=.string s.m::s.iv d
abbrev sA (s:Si) (d:Sv):Array Value:=#[.bool s.g1,.slice d.q1 d.l1 d.c1,.slice d.p1 d.m1 d.e1,.bool s.g2,.slice d.q2 d.l2 d.c2,.slice d.p2 d.m2 d.e2,.bool s.li,.bool s.hh]
abbrev sB (s:Si) (d:Sv):Array Value:=#[.string s.m,.bool s.g1,.slice d.q1 d.l1 d.c1,.slice d.p1 d.m1 d.e1,.bool s.g2,.slice d.q2 d.l2 d.c2,.slice d.p2 d.m2 d.e2,.bool s.li,.bool s.hh]
def SiOk (w:World) (s:Si) (d:Sv):Prop:=
 Sl w (.slice d.q1 d.l1 d.c1) s.nu1/\Sl w (.slice d.p1 d.m1 d.e1) s.de1/\Sl w (.slice d.q2 d.l2 d.c2) s.nu2/\Sl w (.slice d.p2 d.m2 d.e2) s.de2/\
 s.nu1.length<=1048576/\s.de1.length<=1048576/\s.nu2.length<=1048576/\s.de2.length<=1048576
theorem SiOk.below {w w':World} (hb:Below w.heap.size w w') {s:Si} {d:Sv} (h:SiOk w s d):SiOk w' s d:=
 ⟨h.1.below hb,h.2.1.below hb,h.2.2.1.below hb,h.2.2.2.1.below hb,h.2.2.2.2⟩
theorem Si.len (s:Si) (d:Sv):(s.cells d).length=9:=rfl
theorem Si.one (s:Si) (d:Sv):∀u∈s.cells d,u.oneCell'=true:=by
 intro u hu
 simp only[Si.cells,Si.iv,List.mem_cons,List.not_mem_nil,or_false] at hu
 rcases hu with rfl | rfl | rfl | rfl | rfl | rfl | rfl | rfl | rfl<;>rfl
structure Co where
 x:Ex
 st:Bool
def Co.cells (c:Co) (d:Nd):List Value:=d.cells++[.bool c.st]
theorem Co.len (c:Co) (d:Nd):(c.cells d).length=8:=rfl
theorem Co.one (c:Co) (d:Nd):∀u∈c.cells d,u.oneCell'=true:=by
 intro u hu
 simp only[Co.cells,Nd.cells,List.mem_cons,List.not_mem_nil,or_false,List.cons_append,List.nil_append] at hu
 rcases hu with rfl | rfl | rfl | rfl | rfl | rfl | rfl | rfl<;>rfl
structure Cl where
 goal:Ex
 st:Bool
 nb:Nat
 bs:Nat->Si
 nc:Nat
 cs:Nat->Co
structure Cd where
 d:Nd
 bq:Option Addr
 bc:Nat
 cq:Option Addr
 cc:Nat
def Cl.cells (C:Cl) (D:Cd):List Value:=D.d.cells++[.bool C.st,.slice D.bq C.nb D.bc,.slice D.cq C.nc D.cc]
theorem Cl.len (C:Cl) (D:Cd):(C.cells D).length=10:=rfl
theorem Cl.one (C:Cl) (D:Cd):∀u∈C.cells D,u.oneCell'=true:=by
 intro u hu
 simp only[Cl.cells,Nd.cells,List.mem_cons,List.not_mem_nil,or_false,List.cons_append,List.nil_append] at hu
 rcases hu with rfl | rfl | rfl | rfl | rfl | rfl | rfl | rfl | rfl | rfl<;>rfl
def SisOk (w:World) (q:Option Addr) (n:Nat) (bs:Nat->Si):Prop:=
 n=0\/∃b o,q=some ⟨b,o,none⟩/\b<w.heap.size/\∃ds:Nat->Sv,∀i,i<n->w.rangeAt b (o+i*9) ((bs i).cells (ds i))/\SiOk w (bs i) (ds i)
def CosOk (w:World) (q:Option Addr) (n:Nat) (cs:Nat->Co):Prop:=
 n=0\/∃b o,q=some ⟨b,o,none⟩/\b<w.heap.size/\∃ds:Nat->Nd,∀i,i<n->w.rangeAt b (o+i*8) ((cs i).cells (ds i))/\ExOk w (cs i).x (ds i)
theorem SisOk.below {w w':World} (hk:Below w.heap.size w w') {q:Option Addr} {n:Nat} {bs:Nat->Si} (h:SisOk w q n bs):SisOk w' q n bs:=by
 refine h.imp id ?_
 rintro⟨b,o,e,hb,ds,hds⟩
 exact⟨b,o,e,Nat.lt_of_lt_of_le hb hk.size,ds,fun i hi=>⟨zad (hds i hi).1 hk hb,(hds i hi).2.below hk⟩⟩
theorem CosOk.below {w w':World} (hk:Below w.heap.size w w') {q:Option Addr} {n:Nat} {cs:Nat->Co} (h:CosOk w q n cs):CosOk w' q n cs:=by
 refine h.imp id ?_
 rintro⟨b,o,e,hb,ds,hds⟩
 exact⟨b,o,e,Nat.lt_of_lt_of_le hb hk.size,ds,fun i hi=>⟨zad (hds i hi).1 hk hb,(hds i hi).2.below hk⟩⟩
def ClOk (w:World) (C:Cl) (D:Cd):Prop:=
 ExOk w C.goal D.d/\C.nb<=1048576/\C.nc<=1048576/\SisOk w D.bq C.nb C.bs/\CosOk w D.cq C.nc C.cs
theorem ClOk.below {w w':World} (hk:Below w.heap.size w w') {C:Cl} {D:Cd} (h:ClOk w C D):ClOk w' C D:=
 ⟨h.1.below hk,h.2.1,h.2.2.1,h.2.2.2.1.below hk,h.2.2.2.2.below hk⟩
theorem c56:Tryz.prog.cellsOf 56=8:=by kernel_rfl
theorem c58:Tryz.prog.cellsOf 58=9:=by kernel_rfl
theorem c50:Tryz.prog.cellsOf 50=8:=by kernel_rfl
theorem c34:Tryz.prog.cellsOf 34=10:=by kernel_rfl
theorem c31:Tryz.prog.cellsOf 31=1:=by kernel_rfl
theorem c32':Tryz.prog.cellsOf 32=1:=by kernel_rfl
theorem c24':Tryz.prog.cellsOf 27=3:=by kernel_rfl
theorem c27':Tryz.prog.cellsOf 30=7:=by kernel_rfl
theorem c48:Tryz.prog.cellsOf 48=33:=by kernel_rfl
theorem c46:Tryz.prog.cellsOf 46=21:=by kernel_rfl
instance:Inhabited Si:=⟨⟨⟨#[]⟩,false,[],[],false,[],[],false,false⟩⟩
instance:Inhabited Sv:=⟨⟨none,0,0,none,0,0,none,0,0,none,0,0⟩⟩
instance:Inhabited Co:=⟨⟨.non,false⟩⟩
section
variable {H:Type} {enc:TypeId × Value->H} {w:World} {spare:Nat->Bool} {held:Bool} {B:DataW H->Nat}
theorem open_iv (hB:Bk B) {fuel:Nat} {cs:List Value} {x:DataW H × List MemPlace} (hx:B x.1<=1048576) (h:DataW.trod enc Tryz.prog w 0 spare held fuel 56 cs=some x):
  ∃(s:Si) (d:Sv),cs=s.iv d/\SiOk w s d:=by
 obtain⟨xs,n,hn,rfl,hl,hxl,hf⟩:=DataW.trod_struct Tryz.underlying56 h
 rw[c56] at hl
 have bw:xs.length=4:=hxl
 clear hxl
 obtain⟨a0,cs0r,rfl,hl0⟩:=zab (n:=7) hl
 obtain⟨a1,cs1r,rfl,hl1⟩:=zab (n:=6) hl0
 obtain⟨a2,cs2r,rfl,hl2⟩:=zab (n:=5) hl1
 obtain⟨a3,cs3r,rfl,hl3⟩:=zab (n:=4) hl2
 obtain⟨a4,cs4r,rfl,hl4⟩:=zab (n:=3) hl3
 obtain⟨a5,cs5r,rfl,hl5⟩:=zab (n:=2) hl4
 obtain⟨a6,cs6r,rfl,hl6⟩:=zab (n:=1) hl5
 obtain⟨a7,cs7r,rfl,hl7⟩:=zab (n:=0) hl6
 obtain rfl:=List.length_eq_zero_iff.1 hl7
 obtain⟨y0,xs0r,rfl,aX⟩:=zab (n:=3) bw
 obtain⟨y1,xs1r,rfl,aY⟩:=zab (n:=2) aX
 obtain⟨y2,xs2r,rfl,bG⟩:=zab (n:=1) aY
 obtain⟨y3,xs3r,rfl,bS⟩:=zab (n:=0) bG
 obtain rfl:=List.length_eq_zero_iff.1 bS
 have h0:DataW.trod enc Tryz.prog w 0 spare held n 27 [a0,a1,a2]=some y0:=by have:=hf 0 _ rfl;simpa [c24'] using this
 have h1:DataW.trod enc Tryz.prog w 0 spare held n 27 [a3,a4,a5]=some y1:=by have:=hf 1 _ rfl;simpa [c24'] using this
 have h2:DataW.trod enc Tryz.prog w 0 spare held n 4 [a6]=some y2:=by have:=hf 2 _ rfl;simpa [c4] using this
 have h3:DataW.trod enc Tryz.prog w 0 spare held n 4 [a7]=some y3:=by have:=hf 3 _ rfl;simpa [c4] using this
 have b0:B y0.1<=1048576:=Nat.le_trans (hB.ag _ _ (by simp)) hx
 have b1:B y1.1<=1048576:=Nat.le_trans (hB.ag _ _ (by simp)) hx
 obtain⟨g1,q1,l1,c1,p1,m1,e1,nu1,de1,e0,s1,s2,k1,k2⟩:=zc5 hB b0 h0
 obtain⟨g2,q2,l2,c2,p2,m2,e2,nu2,de2,f0,s3,s4,k3,k4⟩:=zc5 hB b1 h1
 obtain⟨li,f2,_⟩:=DataW.trod_bool Tryz.underlying4 h2
 obtain⟨hh,f3,_⟩:=DataW.trod_bool Tryz.underlying4 h3
 simp only[List.cons.injEq,and_true] at e0 f0 f2 f3
 obtain⟨rfl,rfl,rfl⟩:=e0
 obtain⟨rfl,rfl,rfl⟩:=f0
 subst f2 f3
 exact⟨⟨⟨#[]⟩,g1,nu1,de1,g2,nu2,de2,li,hh⟩,⟨q1,l1,c1,p1,m1,e1,q2,l2,c2,p2,m2,e2⟩,rfl,s1,s2,s3,s4,k1,k2,k3,k4⟩
theorem zi6 (hB:Bk B) {fuel:Nat} {cs:List Value} {x:DataW H × List MemPlace} (hx:B x.1<=1048576) (h:DataW.trod enc Tryz.prog w 0 spare held fuel 31 cs=some x):
  ∃q n c bs,cs=[.slice q n c]/\n<=1048576/\SisOk w q n bs:=by
 obtain⟨q,n,c,rfl,_,hbn,hel⟩:=zbg Tryz.underlying31 c58 (by decide) h
 have hn:n<=1048576:=Nat.le_trans (hbn B hB) hx
 rcases hel with rfl | ⟨b,o,rfl,hlt,hel⟩
 ·exact⟨q,0,c,default,rfl,by omega,.inl rfl⟩
 ·have hp:∀i,i<n->∃p:Si × Sv,w.rangeAt b (o+i*9) (p.1.cells p.2)/\SiOk w p.1 p.2:=by
   intro i hi
   obtain⟨ces,y,m1,hm1,hr,hlc,ht,hby⟩:=hel i hi
   have hy:=Nat.le_trans (hby B hB) hx
   obtain⟨xs,n1,_,rfl,hl,hxl,hf⟩:=DataW.trod_struct Tryz.underlying58 ht
   have bw:xs.length=2:=hxl
   clear hxl
   obtain⟨a0,r,rfl,hlr⟩:=zab (n:=8) hlc
   obtain⟨y0,xs0r,rfl,aX⟩:=zab (n:=1) bw
   obtain⟨y1,xs1r,rfl,aY⟩:=zab (n:=0) aX
   obtain rfl:=List.length_eq_zero_iff.1 aY
   have h0:DataW.trod enc Tryz.prog w 0 spare held n1 9 [a0]=some y0:=by have:=hf 0 _ rfl;simpa [c9] using this
   have h1:DataW.trod enc Tryz.prog w 0 spare held n1 56 r=some y1:=by
    have h:DataW.trod enc Tryz.prog w 0 spare held n1 56 (r.take (Tryz.prog.cellsOf 56))=some y1:=hf 1 _ rfl
    rwa [List.take_of_length_le (by rw[c56];omega)] at h
   have b1:B y1.1<=1048576:=Nat.le_trans (hB.ag _ _ (by simp)) hy
   obtain⟨s,e0,_⟩:=DataW.trod_string Tryz.underlying9 h0
   obtain⟨v,d,rfl,hv⟩:=open_iv hB b1 h1
   simp only[List.cons.injEq,and_true] at e0
   subst e0
   exact⟨(⟨s,v.g1,v.nu1,v.de1,v.g2,v.nu2,v.de2,v.li,v.hh⟩,d),hr,hv⟩
  obtain⟨F,hF⟩:=pick hp
  exact⟨_,n,c,fun i=>(F i).1,rfl,hn,.inr ⟨b,o,rfl,hlt,fun i=>(F i).2,fun i hi=>hF i hi⟩⟩
theorem zi7 (hB:Bk B) {fuel:Nat} {cs:List Value} {x:DataW H × List MemPlace} (hx:B x.1<=1048576) (h:DataW.trod enc Tryz.prog w 0 spare held fuel 32 cs=some x):
  ∃q n c ks,cs=[.slice q n c]/\n<=1048576/\CosOk w q n ks:=by
 obtain⟨q,n,c,rfl,_,hbn,hel⟩:=zbg Tryz.underlying32 c50 (by decide) h
 have hn:n<=1048576:=Nat.le_trans (hbn B hB) hx
 rcases hel with rfl | ⟨b,o,rfl,hlt,hel⟩
 ·exact⟨q,0,c,default,rfl,by omega,.inl rfl⟩
 ·have hp:∀i,i<n->∃p:Co × Nd,w.rangeAt b (o+i*8) (p.1.cells p.2)/\ExOk w p.1.x p.2:=by
   intro i hi
   obtain⟨ces,y,m1,hm1,hr,hlc,ht,hby⟩:=hel i hi
   have hy:=Nat.le_trans (hby B hB) hx
   obtain⟨xs,n1,_,rfl,hl,hxl,hf⟩:=DataW.trod_struct Tryz.underlying50 ht
   have bw:xs.length=2:=hxl
   clear hxl
   obtain⟨a0,ces0r,rfl,ei⟩:=zab (n:=7) hlc
   obtain⟨a1,ces1r,rfl,ej⟩:=zab (n:=6) ei
   obtain⟨a2,ces2r,rfl,et⟩:=zab (n:=5) ej
   obtain⟨a3,ces3r,rfl,eu⟩:=zab (n:=4) et
   obtain⟨a4,ces4r,rfl,fP⟩:=zab (n:=3) eu
   obtain⟨a5,ces5r,rfl,fQ⟩:=zab (n:=2) fP
   obtain⟨a6,ces6r,rfl,fR⟩:=zab (n:=1) fQ
   obtain⟨a7,ces7r,rfl,fS⟩:=zab (n:=0) fR
   obtain rfl:=List.length_eq_zero_iff.1 fS
   obtain⟨y0,xs0r,rfl,aX⟩:=zab (n:=1) bw
   obtain⟨y1,xs1r,rfl,aY⟩:=zab (n:=0) aX
   obtain rfl:=List.length_eq_zero_iff.1 aY
   have h0:DataW.trod enc Tryz.prog w 0 spare held n1 30 [a0,a1,a2,a3,a4,a5,a6]=some y0:=by have:=hf 0 _ rfl;simpa [c27'] using this
   have h1:DataW.trod enc Tryz.prog w 0 spare held n1 4 [a7]=some y1:=by have:=hf 1 _ rfl;simpa [c4] using this
   have b0:B y0.1<=1048576:=Nat.le_trans (hB.ag _ _ (by simp)) hy
   obtain⟨X,d,e1,hok⟩:=zc6 hB n1 _ y0 b0 h0
   obtain⟨g,e0,_⟩:=DataW.trod_bool Tryz.underlying4 h1
   simp only[List.cons.injEq,and_true] at e0 e1
   obtain⟨rfl,rfl,rfl,rfl,rfl,rfl,rfl⟩:=e1
   subst e0
   exact⟨(⟨X,g⟩,d),hr,hok⟩
  obtain⟨F,hF⟩:=pick hp
  exact⟨_,n,c,fun i=>(F i).1,rfl,hn,.inr ⟨b,o,rfl,hlt,fun i=>(F i).2,fun i hi=>hF i hi⟩⟩
theorem zeh (hB:Bk B) {fuel:Nat} {cs:List Value} {x:DataW H × List MemPlace} (hx:B x.1<=1048576) (h:DataW.trod enc Tryz.prog w 0 spare held fuel 34 cs=some x):
  ∃(C:Cl) (D:Cd),cs=C.cells D/\ClOk w C D:=by
 obtain⟨xs,n,hn,rfl,hl,hxl,hf⟩:=DataW.trod_struct Tryz.underlying34 h
 rw[c34] at hl
 have bw:xs.length=4:=hxl
 clear hxl
 obtain⟨a0,cs0r,rfl,hl0⟩:=zab (n:=9) hl
 obtain⟨a1,cs1r,rfl,hl1⟩:=zab (n:=8) hl0
 obtain⟨a2,cs2r,rfl,hl2⟩:=zab (n:=7) hl1
 obtain⟨a3,cs3r,rfl,hl3⟩:=zab (n:=6) hl2
 obtain⟨a4,cs4r,rfl,hl4⟩:=zab (n:=5) hl3
 obtain⟨a5,cs5r,rfl,hl5⟩:=zab (n:=4) hl4
 obtain⟨a6,cs6r,rfl,hl6⟩:=zab (n:=3) hl5
 obtain⟨a7,cs7r,rfl,hl7⟩:=zab (n:=2) hl6
 obtain⟨a8,cs8r,rfl,hl8⟩:=zab (n:=1) hl7
 obtain⟨a9,cs9r,rfl,hl9⟩:=zab (n:=0) hl8
 obtain rfl:=List.length_eq_zero_iff.1 hl9
 obtain⟨y0,xs0r,rfl,aX⟩:=zab (n:=3) bw
 obtain⟨y1,xs1r,rfl,aY⟩:=zab (n:=2) aX
 obtain⟨y2,xs2r,rfl,bG⟩:=zab (n:=1) aY
 obtain⟨y3,xs3r,rfl,bS⟩:=zab (n:=0) bG
 obtain rfl:=List.length_eq_zero_iff.1 bS
 have h0:DataW.trod enc Tryz.prog w 0 spare held n 30 [a0,a1,a2,a3,a4,a5,a6]=some y0:=by have:=hf 0 _ rfl;simpa [c27'] using this
 have h1:DataW.trod enc Tryz.prog w 0 spare held n 4 [a7]=some y1:=by have:=hf 1 _ rfl;simpa [c4] using this
 have h2:DataW.trod enc Tryz.prog w 0 spare held n 31 [a8]=some y2:=by have:=hf 2 _ rfl;simpa [c31] using this
 have h3:DataW.trod enc Tryz.prog w 0 spare held n 32 [a9]=some y3:=by have:=hf 3 _ rfl;simpa [c32'] using this
 have b0:B y0.1<=1048576:=Nat.le_trans (hB.ag _ _ (by simp)) hx
 have b2:B y2.1<=1048576:=Nat.le_trans (hB.ag _ _ (by simp)) hx
 have b3:B y3.1<=1048576:=Nat.le_trans (hB.ag _ _ (by simp)) hx
 obtain⟨X,d,e0,hok⟩:=zc6 hB n _ y0 b0 h0
 obtain⟨g,e1,_⟩:=DataW.trod_bool Tryz.underlying4 h1
 obtain⟨q2,n2,c2,bs,e2,hn2,hbs⟩:=zi6 hB b2 h2
 obtain⟨q3,n3,c3,ks,e3,hn3,hks⟩:=zi7 hB b3 h3
 simp only[List.cons.injEq,and_true] at e0 e1 e2 e3
 obtain⟨f1,f2,f3,f4,f5,f6,f7⟩:=e0
 subst f1 f2 f3 f4 f5 f6 f7 e1 e2 e3
 exact⟨⟨X,g,n2,bs,n3,ks⟩,⟨d,q2,c2,q3,c3⟩,rfl,⟨hok,hn2,hn3,hbs,hks⟩⟩
def EnCl (w:World) (e:En) (C:Cl) (D:Cd):Prop:=∃pr,pr.length=21/\e.r=C.cells D++pr/\ClOk w C D
theorem EnCl.below {w w':World} (hk:Below w.heap.size w w') {e:En} {C:Cl} {D:Cd} (h:EnCl w e C D):EnCl w' e C D:=by
 obtain⟨pr,h1,h2,h3⟩:=h
 exact⟨pr,h1,h2,h3.below hk⟩
instance:Inhabited Cl:=⟨⟨.non,false,0,default,0,default⟩⟩
instance:Inhabited Cd:=⟨⟨default,none,0,none,0⟩⟩
instance:Inhabited En:=⟨⟨(⟨#[]⟩,0),[]⟩⟩
theorem zi8 (hB:Bk B) {fuel:Nat} {cs:List Value} {x:DataW H × List MemPlace} (hx:B x.1<=1048576) (h:DataW.trod enc Tryz.prog w 0 spare held fuel 48 cs=some x):
  ∃(e:En) (C:Cl) (D:Cd),cs=e.cells/\e.Ok/\EnCl w e C D:=by
 obtain⟨xs,n,hn,rfl,hl,hxl,hf⟩:=DataW.trod_struct Tryz.underlying48 h
 rw[c48] at hl
 have bw:xs.length=4:=hxl
 clear hxl
 obtain⟨a0,cs0r,rfl,hl0⟩:=zab (n:=32) hl
 obtain⟨a1,r,rfl,hr⟩:=zab (n:=31) hl0
 obtain⟨y0,xs0r,rfl,aX⟩:=zab (n:=3) bw
 obtain⟨y1,xs1r,rfl,aY⟩:=zab (n:=2) aX
 obtain⟨y2,xs2r,rfl,bG⟩:=zab (n:=1) aY
 obtain⟨y3,xs3r,rfl,bS⟩:=zab (n:=0) bG
 obtain rfl:=List.length_eq_zero_iff.1 bS
 have h0:DataW.trod enc Tryz.prog w 0 spare held n 9 [a0]=some y0:=by have:=hf 0 _ rfl;simpa [c9] using this
 have h1:DataW.trod enc Tryz.prog w 0 spare held n 3 [a1]=some y1:=by have:=hf 1 _ rfl;simpa [c3] using this
 have h2:DataW.trod enc Tryz.prog w 0 spare held n 34 (r.take 10)=some y2:=by have:=hf 2 _ rfl;simpa [c34] using this
 have h3:DataW.trod enc Tryz.prog w 0 spare held n 46 (r.drop 10)=some y3:=by
  have h:DataW.trod enc Tryz.prog w 0 spare held n 46 ((r.drop 10).take (Tryz.prog.cellsOf 46))=some y3:=hf 3 _ rfl
  rwa [List.take_of_length_le (by rw[c46,List.length_drop];omega)] at h
 have b2:B y2.1<=1048576:=Nat.le_trans (hB.ag _ _ (by simp)) hx
 have b3:B y3.1<=1048576:=Nat.le_trans (hB.ag _ _ (by simp)) hx
 obtain⟨s,e0,_,w0⟩:=DataW.trod_string Tryz.underlying9 h0
 obtain⟨v,e1,_,w1⟩:=DataW.trod_int Tryz.underlying3 h1
 simp only[List.cons.injEq,and_true] at e0 e1
 subst e0 e1
 obtain⟨C,D,e2,hC⟩:=zeh hB b2 h2
 obtain⟨X,d,e3,hX⟩:=zk1 hB n _ y3 b3 h3
 refine⟨⟨(s,v),r⟩,C,D,rfl,⟨hr,fun u hu=>?_,⟨w0,w1⟩⟩,r.drop 10,by rw[List.length_drop];omega,by rw[<-e2];exact(List.take_append_drop 10 r).symm,hC⟩
 have hu':u∈r.take 10++r.drop 10:=by rw[List.take_append_drop];exact hu
 rcases List.mem_append.1 hu' with hu' | hu'
 ·rw[e2] at hu'
  exact Cl.one C D u hu'
 ·rw[e3] at hu'
  have h1:=d.one
  rw[List.all_toArray,List.all_eq_true] at h1
  exact h1 u hu'
def LibCl (w:World) (L:List En) (Cs:Nat->Cl):Prop:=∃Ds:Nat->Cd,∀(i:Nat) (e:En),L[i]?=some e->EnCl w e (Cs i) (Ds i)
theorem LibCl.below {w w':World} (hk:Below w.heap.size w w') {L:List En} {Cs:Nat->Cl} (h:LibCl w L Cs):LibCl w' L Cs:=by
 obtain⟨Ds,h⟩:=h
 exact⟨Ds,fun i e he=>(h i e he).below hk⟩
theorem open_lib (hB:Bk B) {fuel:Nat} {cs:List Value} {x:DataW H × List MemPlace} (hx:B x.1<=1048576) (h:DataW.trod enc Tryz.prog w 0 spare held fuel 22 cs=some x):
  ∃q n c L Cs,cs=[.slice q n c]/\LibOk w q n L/\LibCl w L Cs:=by
 obtain⟨q,n,c,rfl,_,hbn,hel⟩:=zbg Tryz.underlying22 c48 (by decide) h
 have hn:n<=1048576:=Nat.le_trans (hbn B hB) hx
 rcases hel with rfl | ⟨b,o,rfl,hlt,hel⟩
 ·exact⟨q,0,c,[],default,rfl,⟨rfl,by omega,by simp,.inl rfl⟩,default,by simp⟩
 ·have hp:∀i,i<n->∃p:En × Cl × Cd,w.rangeAt b (o+i*33) p.1.cells/\p.1.Ok/\EnCl w p.1 p.2.1 p.2.2:=by
   intro i hi
   obtain⟨ces,y,m1,hm1,hr,hlc,ht,hby⟩:=hel i hi
   obtain⟨e,C,D,rfl,hok,hC⟩:=zi8 hB (Nat.le_trans (hby B hB) hx) ht
   exact⟨(e,C,D),hr,hok,hC⟩
  obtain⟨F,hF⟩:=pick hp
  have hg:∀(i:Nat) (e:En),((List.range n).map fun i=>(F i).1)[i]?=some e->i<n/\e=(F i).1:=by
   intro i e he
   rw[List.getElem?_map,Option.map_eq_some_iff] at he
   obtain⟨a,h1,h2⟩:=he
   obtain⟨h3,h4⟩:=List.getElem?_eq_some_iff.1 h1
   rw[List.getElem_range] at h4
   subst h4
   exact⟨by simpa using h3,h2.symm⟩
  refine⟨_,n,c,(List.range n).map fun i=>(F i).1,fun i=>(F i).2.1,rfl,⟨by simp,hn,?_,.inr ⟨b,o,rfl,hlt,?_⟩⟩,fun i=>(F i).2.2,?_⟩
  ·intro e he
   obtain⟨i,hi,rfl⟩:=List.mem_map.1 he
   exact(hF i (List.mem_range.1 hi)).2.1
  ·intro i e he
   obtain⟨h1,rfl⟩:=hg i e he
   exact(hF i h1).1
  ·intro i e he
   obtain⟨h1,rfl⟩:=hg i e he
   exact(hF i h1).2.2
end
end Go.Proofs.YtaonejnicgbifaaGreatDoor
