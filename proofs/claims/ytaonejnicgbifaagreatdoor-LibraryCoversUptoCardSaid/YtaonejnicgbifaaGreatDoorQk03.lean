import Derived.Sort.Walk0
import Derived.Sort.Statements
import Derived.Deep.RegionHeld3
import Derived.Deep.AppendLies
import Derived.Test.YtaonejnicgbifaaGreatDoorQk02
namespace Go.Proofs.YtaonejnicgbifaaGreatDoor
open Go Go.RowKit
instance:Inhabited Ex:=⟨.non⟩
instance:Inhabited Nd:=⟨⟨0,0,false,none,0,0,none,0,0,⟨#[]⟩,none,0,0⟩⟩
instance:Inhabited Pt:=⟨⟨⟨#[]⟩,false,[],[]⟩⟩
instance:Inhabited Va:=⟨⟨⟨#[]⟩,false,none,0,0,none,0,0⟩⟩
instance:Inhabited Bd:=⟨⟨⟨#[]⟩,.non⟩⟩
instance:Inhabited Bi:=⟨⟨⟨#[]⟩,0,0,false,none,0,0,none,0,0,⟨#[]⟩,none,0,0⟩⟩
instance:Inhabited St:=⟨.non⟩
instance:Inhabited Sd:=⟨⟨⟨0,⟨#[]⟩,⟨#[]⟩,false,0,0,0,⟨#[]⟩,0⟩,none,0,0,none,0,0,default,none,0,0,none,0,0,none,0,0⟩⟩
theorem zab {α:Type} {n:Nat}:∀{l:List α},l.length=n+1->∃a t,l=a::t/\t.length=n
 | [],h=>by simp at h
 | a::t,h=>⟨a,t,rfl,by simpa using h⟩
section
variable {H:Type} {enc:TypeId × Value->H} {w:World} {spare:Nat->Bool} {held:Bool} {B:DataW H->Nat}
theorem zc5 (hB:Bk B) {fuel:Nat} {cs:List Value} {x:DataW H × List MemPlace} (hx:B x.1<=1048576) (h:DataW.trod enc Tryz.prog w 0 spare held fuel 27 cs=some x):
  ∃g q n c q' n' c' nu de,cs=[.bool g,.slice q n c,.slice q' n' c']/\Sl w (.slice q n c) nu/\Sl w (.slice q' n' c') de/\nu.length<=1048576/\de.length<=1048576:=by
 obtain⟨xs,n,_,rfl,hl,hxl,hf⟩:=DataW.trod_struct Tryz.underlying27 h
 rw[c24] at hl
 have bw:xs.length=3:=hxl
 clear hxl
 obtain⟨a0,cs0r,rfl,hl0⟩:=zab (n:=2) hl
 obtain⟨a1,cs1r,rfl,hl1⟩:=zab (n:=1) hl0
 obtain⟨a2,cs2r,rfl,hl2⟩:=zab (n:=0) hl1
 obtain rfl:=List.length_eq_zero_iff.1 hl2
 obtain⟨y0,xs0r,rfl,aX⟩:=zab (n:=2) bw
 obtain⟨y1,xs1r,rfl,aY⟩:=zab (n:=1) aX
 obtain⟨y2,xs2r,rfl,bG⟩:=zab (n:=0) aY
 obtain rfl:=List.length_eq_zero_iff.1 bG
 have h0:DataW.trod enc Tryz.prog w 0 spare held n 4 [a0]=some y0:=by have:=hf 0 _ rfl;simpa [c4] using this
 have h1:DataW.trod enc Tryz.prog w 0 spare held n 25 [a1]=some y1:=by have:=hf 1 _ rfl;simpa [c22] using this
 have h2:DataW.trod enc Tryz.prog w 0 spare held n 25 [a2]=some y2:=by have:=hf 2 _ rfl;simpa [c22] using this
 have b1:B y1.1<=1048576:=Nat.le_trans (hB.ag _ _ (by simp)) hx
 have b2:B y2.1<=1048576:=Nat.le_trans (hB.ag _ _ (by simp)) hx
 obtain⟨g,e0,_⟩:=DataW.trod_bool Tryz.underlying4 h0
 obtain⟨q,m,c,nu,e1,s1,l1⟩:=zez hB b1 h1
 obtain⟨q',m',c',de,e2,s2,l2⟩:=zez hB b2 h2
 simp only[List.cons.injEq,and_true] at e0 e1 e2
 subst e0 e1 e2
 exact⟨g,q,m,c,q',m',c',nu,de,rfl,s1,s2,l1,l2⟩
theorem zc6 (hB:Bk B):∀(fuel:Nat) (cs:List Value) (x:DataW H × List MemPlace),B x.1<=1048576->DataW.trod enc Tryz.prog w 0 spare held fuel 30 cs=some x->
  ∃(X:Ex) (d:Nd),cs=[.int .i64 d.k,.int .i64 d.f,.bool d.neg,.slice d.aq d.an d.ac,.slice d.cq d.cn d.cc,.string d.m,.slice d.sq d.sn d.sc]/\ExOk w X d:=by
 intro fuel
 induction fuel using Nat.strongRecOn with
 | _ fuel ih=>
 intro cs x hx h
 obtain⟨xs,n,hn,rfl,hl,hxl,hf⟩:=DataW.trod_struct Tryz.underlying30 h
 rw[c27] at hl
 have bw:xs.length=5:=hxl
 clear hxl
 obtain⟨a0,cs0r,rfl,hl0⟩:=zab (n:=6) hl
 obtain⟨a1,cs1r,rfl,hl1⟩:=zab (n:=5) hl0
 obtain⟨a2,cs2r,rfl,hl2⟩:=zab (n:=4) hl1
 obtain⟨a3,cs3r,rfl,hl3⟩:=zab (n:=3) hl2
 obtain⟨a4,cs4r,rfl,hl4⟩:=zab (n:=2) hl3
 obtain⟨a5,cs5r,rfl,hl5⟩:=zab (n:=1) hl4
 obtain⟨a6,cs6r,rfl,hl6⟩:=zab (n:=0) hl5
 obtain rfl:=List.length_eq_zero_iff.1 hl6
 obtain⟨y0,xs0r,rfl,aX⟩:=zab (n:=4) bw
 obtain⟨y1,xs1r,rfl,aY⟩:=zab (n:=3) aX
 obtain⟨y2,xs2r,rfl,bG⟩:=zab (n:=2) aY
 obtain⟨y3,xs3r,rfl,bS⟩:=zab (n:=1) bG
 obtain⟨y4,xs4r,rfl,ez⟩:=zab (n:=0) bS
 obtain rfl:=List.length_eq_zero_iff.1 ez
 have h0:DataW.trod enc Tryz.prog w 0 spare held n 3 [a0]=some y0:=by have:=hf 0 _ rfl;simpa [c3] using this
 have h1:DataW.trod enc Tryz.prog w 0 spare held n 3 [a1]=some y1:=by have:=hf 1 _ rfl;simpa [c3] using this
 have h2:DataW.trod enc Tryz.prog w 0 spare held n 27 [a2,a3,a4]=some y2:=by have:=hf 2 _ rfl;simpa [c24] using this
 have h3:DataW.trod enc Tryz.prog w 0 spare held n 9 [a5]=some y3:=by have:=hf 3 _ rfl;simpa [c9] using this
 have h4:DataW.trod enc Tryz.prog w 0 spare held n 28 [a6]=some y4:=by have:=hf 4 _ rfl;simpa [c25] using this
 have b2:B y2.1<=1048576:=Nat.le_trans (hB.ag _ _ (by simp)) hx
 have b4:B y4.1<=1048576:=Nat.le_trans (hB.ag _ _ (by simp)) hx
 obtain⟨k,e0,_⟩:=DataW.trod_int Tryz.underlying3 h0
 obtain⟨f,e1,_⟩:=DataW.trod_int Tryz.underlying3 h1
 obtain⟨g,q,m,c,q',m',c',nu,de,e2,s1,s2,l1,l2⟩:=zc5 hB b2 h2
 obtain⟨s,e3,_⟩:=DataW.trod_string Tryz.underlying9 h3
 obtain⟨sq,sn,sc,e4,_,hbn,hel⟩:=zbg Tryz.underlying28 c27 (by decide) h4
 simp only[List.cons.injEq,and_true] at e0 e1 e2 e3 e4
 obtain⟨e2,e5,e6⟩:=e2
 subst e0 e1 e2 e3 e4 e5 e6
 have hsn:sn<=1048576:=Nat.le_trans (hbn B hB) b4
 rcases hel with rfl | ⟨b,o,rfl,hlt,hel⟩
 ·exact⟨.mk k f g nu de s 0 (fun _=>.non),⟨k,f,g,q,m,c,q',m',c',s,sq,0,sc⟩,rfl,⟨rfl,rfl,rfl,rfl,rfl⟩,s1,s2,l1,l2,by omega,.inl rfl⟩
 ·have hp:∀i,i<sn->∃p:Ex × Nd,NdAt w b (o+i*7) p.2/\ExOk w p.1 p.2:=by
   intro i hi
   obtain⟨ces,y,m1,hm1,hr,_,ht,hby⟩:=hel i hi
   obtain⟨X,d,rfl,hok⟩:=ih m1 (by omega) ces y (Nat.le_trans (hby B hB) b4) ht
   exact⟨(X,d),⟨hr 0 _ rfl,hr 1 _ rfl,hr 2 _ rfl,hr 3 _ rfl,hr 4 _ rfl,hr 5 _ rfl,hr 6 _ rfl⟩,hok⟩
  obtain⟨F,hF⟩:=pick hp
  exact⟨.mk k f g nu de s sn (fun i=>(F i).1),⟨k,f,g,q,m,c,q',m',c',s,some ⟨b,o,none⟩,sn,sc⟩,rfl,⟨rfl,rfl,rfl,rfl,rfl⟩,s1,s2,l1,l2,by omega,.inr ⟨b,o,rfl,hlt,fun i=>(F i).2,fun i hi=>hF i hi⟩⟩
theorem zhe (hB:Bk B) {fuel:Nat} {cs:List Value} {x:DataW H × List MemPlace} (hx:B x.1<=1048576) (h:DataW.trod enc Tryz.prog w 0 spare held fuel 42 cs=some x):
  ∃q n c ps,cs=[.slice q n c]/\PtsOk w q n ps:=by
 obtain⟨q,n,c,rfl,_,hbn,hel⟩:=zbg Tryz.underlying42 c62 (by decide) h
 have hn:n<=1048576:=Nat.le_trans (hbn B hB) hx
 rcases hel with rfl | ⟨b,o,rfl,hlt,hel⟩
 ·exact⟨q,0,c,default,rfl,by omega,.inl rfl⟩
 ·have hp:∀i,i<n->∃p:Pt × Va,VaAt w b (o+i*4) p.2/\PtOk w p.1 p.2:=by
   intro i hi
   obtain⟨ces,y,m1,hm1,hr,hlc,ht,hby⟩:=hel i hi
   have hy:=Nat.le_trans (hby B hB) hx
   obtain⟨xs,n1,_,rfl,hl,hxl,hf⟩:=DataW.trod_struct Tryz.underlying215 ht
   have bw:xs.length=2:=hxl
   clear hxl
   obtain⟨a0,ces0r,rfl,ei⟩:=zab (n:=3) hlc
   obtain⟨a1,ces1r,rfl,ej⟩:=zab (n:=2) ei
   obtain⟨a2,ces2r,rfl,et⟩:=zab (n:=1) ej
   obtain⟨a3,ces3r,rfl,eu⟩:=zab (n:=0) et
   obtain rfl:=List.length_eq_zero_iff.1 eu
   obtain⟨y0,xs0r,rfl,aX⟩:=zab (n:=1) bw
   obtain⟨y1,xs1r,rfl,aY⟩:=zab (n:=0) aX
   obtain rfl:=List.length_eq_zero_iff.1 aY
   have h0:DataW.trod enc Tryz.prog w 0 spare held n1 9 [a0]=some y0:=by have:=hf 0 _ rfl;simpa [c9] using this
   have h1:DataW.trod enc Tryz.prog w 0 spare held n1 27 [a1,a2,a3]=some y1:=by have:=hf 1 _ rfl;simpa [c24] using this
   have b1:B y1.1<=1048576:=Nat.le_trans (hB.ag _ _ (by simp)) hy
   obtain⟨s,e0,_⟩:=DataW.trod_string Tryz.underlying9 h0
   obtain⟨g,q,m,c,q',m',c',nu,de,e2,s1,s2,l1,l2⟩:=zc5 hB b1 h1
   simp only[List.cons.injEq,and_true] at e0 e2
   obtain⟨e2,e5,e6⟩:=e2
   subst e0 e2 e5 e6
   exact⟨(⟨s,g,nu,de⟩,⟨s,g,q,m,c,q',m',c'⟩),⟨hr 0 _ rfl,hr 1 _ rfl,hr 2 _ rfl,hr 3 _ rfl⟩,rfl,rfl,s1,s2,l1,l2⟩
  obtain⟨F,hF⟩:=pick hp
  exact⟨_,n,c,fun i=>(F i).1,rfl,by omega,.inr ⟨b,o,rfl,hlt,fun i=>(F i).2,fun i hi=>hF i hi⟩⟩
theorem zjc (hB:Bk B) {fuel:Nat} {cs:List Value} {x:DataW H × List MemPlace} (hx:B x.1<=1048576) (h:DataW.trod enc Tryz.prog w 0 spare held fuel 43 cs=some x):
  ∃q n c ps,cs=[.slice q n c]/\BdsOk w q n ps:=by
 obtain⟨q,n,c,rfl,_,hbn,hel⟩:=zbg Tryz.underlying43 c65 (by decide) h
 have hn:n<=1048576:=Nat.le_trans (hbn B hB) hx
 rcases hel with rfl | ⟨b,o,rfl,hlt,hel⟩
 ·exact⟨q,0,c,default,rfl,by omega,.inl rfl⟩
 ·have hp:∀i,i<n->∃p:Bd × Bi,BiAt w b (o+i*8) p.2/\BdOk w p.1 p.2:=by
   intro i hi
   obtain⟨ces,y,m1,hm1,hr,hlc,ht,hby⟩:=hel i hi
   have hy:=Nat.le_trans (hby B hB) hx
   obtain⟨xs,n1,_,rfl,hl,hxl,hf⟩:=DataW.trod_struct Tryz.underlying217 ht
   have bw:xs.length=2:=hxl
   clear hxl
   obtain⟨a0,ces0r,rfl,ei⟩:=zab (n:=7) hlc
   obtain⟨a1,ces1r,rfl,ej⟩:=zab (n:=6) ei
   obtain⟨a2,ces2r,rfl,et⟩:=zab (n:=5) ej
   obtain⟨a3,ces3r,rfl,eu⟩:=zab (n:=4) et
   obtain⟨a4,ces4r,rfl,fP⟩:=zab (n:=3) eu
   obtain⟨a5,ces5r,rfl,fQ⟩:=zab (n:=2) fP
   obtain⟨a6,ces6r,rfl,fR⟩:=zab (n:=1) fQ
   obtain⟨a7,ces7r,rfl,fS⟩:=zab (n:=0) fR
   obtain rfl:=List.length_eq_zero_iff.1 fS
   obtain⟨y0,xs0r,rfl,aX⟩:=zab (n:=1) bw
   obtain⟨y1,xs1r,rfl,aY⟩:=zab (n:=0) aX
   obtain rfl:=List.length_eq_zero_iff.1 aY
   have h0:DataW.trod enc Tryz.prog w 0 spare held n1 9 [a0]=some y0:=by have:=hf 0 _ rfl;simpa [c9] using this
   have h1:DataW.trod enc Tryz.prog w 0 spare held n1 30 [a1,a2,a3,a4,a5,a6,a7]=some y1:=by have:=hf 1 _ rfl;simpa [c27] using this
   have b1:B y1.1<=1048576:=Nat.le_trans (hB.ag _ _ (by simp)) hy
   obtain⟨s,e0,_⟩:=DataW.trod_string Tryz.underlying9 h0
   obtain⟨X,d,e1,hok⟩:=zc6 hB n1 _ y1 b1 h1
   simp only[List.cons.injEq,and_true] at e0 e1
   obtain⟨e1,e2,e3,e4,e5,e6,e7⟩:=e1
   subst e0 e1 e2 e3 e4 e5 e6 e7
   exact⟨(⟨s,X⟩,⟨s,d.k,d.f,d.neg,d.aq,d.an,d.ac,d.cq,d.cn,d.cc,d.m,d.sq,d.sn,d.sc⟩),⟨hr 0 _ rfl,hr 1 _ rfl,hr 2 _ rfl,hr 3 _ rfl,hr 4 _ rfl,hr 5 _ rfl,hr 6 _ rfl,hr 7 _ rfl⟩,rfl,hok⟩
  obtain⟨F,hF⟩:=pick hp
  exact⟨_,n,c,fun i=>(F i).1,rfl,by omega,.inr ⟨b,o,rfl,hlt,fun i=>(F i).2,fun i hi=>hF i hi⟩⟩
theorem zk1 (hB:Bk B):∀(fuel:Nat) (cs:List Value) (x:DataW H × List MemPlace),B x.1<=1048576->DataW.trod enc Tryz.prog w 0 spare held fuel 46 cs=some x->
  ∃(X:St) (d:Sd),cs=d.cells/\StOk w X d:=by
 intro fuel
 induction fuel using Nat.strongRecOn with
 | _ fuel ih=>
 intro cs x hx h
 obtain⟨xs,n,hn,rfl,hl,hxl,hf⟩:=DataW.trod_struct Tryz.underlying46 h
 rw[c32] at hl
 have bw:xs.length=13:=hxl
 clear hxl
 obtain⟨a0,cs0r,rfl,hl0⟩:=zab (n:=20) hl
 obtain⟨a1,cs1r,rfl,hl1⟩:=zab (n:=19) hl0
 obtain⟨a2,cs2r,rfl,hl2⟩:=zab (n:=18) hl1
 obtain⟨a3,cs3r,rfl,hl3⟩:=zab (n:=17) hl2
 obtain⟨a4,cs4r,rfl,hl4⟩:=zab (n:=16) hl3
 obtain⟨a5,cs5r,rfl,hl5⟩:=zab (n:=15) hl4
 obtain⟨a6,cs6r,rfl,hl6⟩:=zab (n:=14) hl5
 obtain⟨a7,cs7r,rfl,hl7⟩:=zab (n:=13) hl6
 obtain⟨a8,cs8r,rfl,hl8⟩:=zab (n:=12) hl7
 obtain⟨a9,cs9r,rfl,hl9⟩:=zab (n:=11) hl8
 obtain⟨a10,cs10r,rfl,jg⟩:=zab (n:=10) hl9
 obtain⟨a11,cs11r,rfl,jh⟩:=zab (n:=9) jg
 obtain⟨a12,cs12r,rfl,ji⟩:=zab (n:=8) jh
 obtain⟨a13,cs13r,rfl,jj⟩:=zab (n:=7) ji
 obtain⟨a14,cs14r,rfl,jk⟩:=zab (n:=6) jj
 obtain⟨a15,cs15r,rfl,jl⟩:=zab (n:=5) jk
 obtain⟨a16,cs16r,rfl,jm⟩:=zab (n:=4) jl
 obtain⟨a17,cs17r,rfl,jn⟩:=zab (n:=3) jm
 obtain⟨a18,cs18r,rfl,jo⟩:=zab (n:=2) jn
 obtain⟨a19,cs19r,rfl,jp⟩:=zab (n:=1) jo
 obtain⟨a20,cs20r,rfl,jq⟩:=zab (n:=0) jp
 obtain rfl:=List.length_eq_zero_iff.1 jq
 obtain⟨y0,xs0r,rfl,aX⟩:=zab (n:=12) bw
 obtain⟨y1,xs1r,rfl,aY⟩:=zab (n:=11) aX
 obtain⟨y2,xs2r,rfl,bG⟩:=zab (n:=10) aY
 obtain⟨y3,xs3r,rfl,bS⟩:=zab (n:=9) bG
 obtain⟨y4,xs4r,rfl,ez⟩:=zab (n:=8) bS
 obtain⟨y5,xs5r,rfl,g8⟩:=zab (n:=7) ez
 obtain⟨y6,xs6r,rfl,g9⟩:=zab (n:=6) g8
 obtain⟨y7,xs7r,rfl,ia⟩:=zab (n:=5) g9
 obtain⟨y8,xs8r,rfl,ib⟩:=zab (n:=4) ia
 obtain⟨y9,xs9r,rfl,ic⟩:=zab (n:=3) ib
 obtain⟨y10,xs10r,rfl,fT⟩:=zab (n:=2) ic
 obtain⟨y11,xs11r,rfl,fU⟩:=zab (n:=1) fT
 obtain⟨y12,xs12r,rfl,fV⟩:=zab (n:=0) fU
 obtain rfl:=List.length_eq_zero_iff.1 fV
 have h0:DataW.trod enc Tryz.prog w 0 spare held n 3 [a0]=some y0:=by have:=hf 0 _ rfl;simpa [c3] using this
 have h1:DataW.trod enc Tryz.prog w 0 spare held n 9 [a1]=some y1:=by have:=hf 1 _ rfl;simpa [c9] using this
 have h2:DataW.trod enc Tryz.prog w 0 spare held n 9 [a2]=some y2:=by have:=hf 2 _ rfl;simpa [c9] using this
 have h3:DataW.trod enc Tryz.prog w 0 spare held n 27 [a3,a4,a5]=some y3:=by have:=hf 3 _ rfl;simpa [c24] using this
 have h4:DataW.trod enc Tryz.prog w 0 spare held n 3 [a6]=some y4:=by have:=hf 4 _ rfl;simpa [c3] using this
 have h5:DataW.trod enc Tryz.prog w 0 spare held n 3 [a7]=some y5:=by have:=hf 5 _ rfl;simpa [c3] using this
 have h6:DataW.trod enc Tryz.prog w 0 spare held n 3 [a8]=some y6:=by have:=hf 6 _ rfl;simpa [c3] using this
 have h7:DataW.trod enc Tryz.prog w 0 spare held n 30 [a9,a10,a11,a12,a13,a14,a15]=some y7:=by have:=hf 7 _ rfl;simpa [c27] using this
 have h8:DataW.trod enc Tryz.prog w 0 spare held n 42 [a16]=some y8:=by have:=hf 8 _ rfl;simpa [c28] using this
 have h9:DataW.trod enc Tryz.prog w 0 spare held n 9 [a17]=some y9:=by have:=hf 9 _ rfl;simpa [c9] using this
 have h10:DataW.trod enc Tryz.prog w 0 spare held n 3 [a18]=some y10:=by have:=hf 10 _ rfl;simpa [c3] using this
 have h11:DataW.trod enc Tryz.prog w 0 spare held n 43 [a19]=some y11:=by have:=hf 11 _ rfl;simpa [c29] using this
 have h12:DataW.trod enc Tryz.prog w 0 spare held n 44 [a20]=some y12:=by have:=hf 12 _ rfl;simpa [c30] using this
 have b3:B y3.1<=1048576:=Nat.le_trans (hB.ag _ _ (by simp)) hx
 have b7:B y7.1<=1048576:=Nat.le_trans (hB.ag _ _ (by simp)) hx
 have b8:B y8.1<=1048576:=Nat.le_trans (hB.ag _ _ (by simp)) hx
 have b11:B y11.1<=1048576:=Nat.le_trans (hB.ag _ _ (by simp)) hx
 have b12:B y12.1<=1048576:=Nat.le_trans (hB.ag _ _ (by simp)) hx
 obtain⟨ru,e0,_⟩:=DataW.trod_int Tryz.underlying3 h0
 obtain⟨nm,e1,_⟩:=DataW.trod_string Tryz.underlying9 h1
 obtain⟨ot,e2,_⟩:=DataW.trod_string Tryz.underlying9 h2
 obtain⟨g,aq,an,ac,cq,cn,cc,nu,de,e3,s1,s2,l1,l2⟩:=zc5 hB b3 h3
 obtain⟨kk,e4,_⟩:=DataW.trod_int Tryz.underlying3 h4
 obtain⟨nn,e5,_⟩:=DataW.trod_int Tryz.underlying3 h5
 obtain⟨pr,e6,_⟩:=DataW.trod_int Tryz.underlying3 h6
 obtain⟨X,d,e7,hX⟩:=zc6 hB n _ y7 b7 h7
 obtain⟨pq,pn,pc,ps,e8,hP⟩:=zhe hB b8 h8
 obtain⟨en,e9,_⟩:=DataW.trod_string Tryz.underlying9 h9
 obtain⟨ve,e10,_⟩:=DataW.trod_int Tryz.underlying3 h10
 obtain⟨bq,bn,bc,bs,e11,hD⟩:=zjc hB b11 h11
 obtain⟨kq,kn,kc,e12,_,hbn,hel⟩:=zbg Tryz.underlying44 c32 (by decide) h12
 simp only[List.cons.injEq,and_true] at e0 e1 e2 e3 e4 e5 e6 e7 e8 e9 e10 e11 e12
 obtain⟨e3,e3b,e3c⟩:=e3
 obtain⟨f1,f2,f3,f4,f5,f6,f7⟩:=e7
 subst e0 e1 e2 e3 e3b e3c e4 e5 e6 f1 f2 f3 f4 f5 f6 f7 e8 e9 e10 e11 e12
 have hkn:kn<=1048576:=Nat.le_trans (hbn B hB) b12
 rcases hel with rfl | ⟨b,o,rfl,hlt,hel⟩
 ·exact⟨.mk ⟨ru,nm,ot,g,kk,nn,pr,en,ve⟩ nu de X pn ps bn bs 0 (fun _=>.non),⟨⟨ru,nm,ot,g,kk,nn,pr,en,ve⟩,aq,an,ac,cq,cn,cc,d,pq,pn,pc,bq,bn,bc,kq,0,kc⟩,rfl,
   ⟨rfl,rfl,rfl,rfl⟩,s1,s2,l1,l2,hX,hP,hD,by omega,.inl rfl⟩
 ·have hp:∀i,i<kn->∃p:St × Sd,w.rangeAt b (o+i*21) p.2.cells/\StOk w p.1 p.2:=by
   intro i hi
   obtain⟨ces,y,m1,hm1,hr,_,ht,hby⟩:=hel i hi
   obtain⟨Y,D,rfl,hok⟩:=ih m1 (by omega) ces y (Nat.le_trans (hby B hB) b12) ht
   exact⟨(Y,D),hr,hok⟩
  obtain⟨F,hF⟩:=pick hp
  exact⟨.mk ⟨ru,nm,ot,g,kk,nn,pr,en,ve⟩ nu de X pn ps bn bs kn (fun i=>(F i).1),⟨⟨ru,nm,ot,g,kk,nn,pr,en,ve⟩,aq,an,ac,cq,cn,cc,d,pq,pn,pc,bq,bn,bc,some ⟨b,o,none⟩,kn,kc⟩,rfl,
   ⟨rfl,rfl,rfl,rfl⟩,s1,s2,l1,l2,hX,hP,hD,by omega,.inr ⟨b,o,rfl,hlt,fun i=>(F i).2,fun i hi=>hF i hi⟩⟩
end
abbrev Ky:=ByteArray × Int
theorem zd3 {a b:ByteArray} (h:a.toList=b.toList):a=b:=by
 rw[ByteArray.toList_eq,ByteArray.toList_eq] at h
 cases a;cases b
 simp only[ByteArray.mk.injEq]
 exact Array.toList_inj.1 h
def ltK (a b:Ky):Prop:=a.1.toList<b.1.toList\/a.1.toList=b.1.toList/\a.2<b.2
instance (a b:Ky):Decidable (ltK a b):=by unfold ltK;infer_instance
instance:LawfulBEq ByteArray where
 eq_of_beq {a b} h:=by
  rw[beq_toListBytes] at h
  exact zd3 (by simpa using h)
 rfl {a}:=by rw[beq_toListBytes];simp
theorem zci (w:World) (o:Obj):Below w.heap.size w (w.alloc o):=(Below.refl _ _).alloc (Nat.le_refl _) o
def kcells (k:Ky):List Value:=[.string k.1,.int .i64 k.2]
def KyOk (k:Ky):Prop:=k.1.size<=maxLen/\(Lit.int .i64 k.2).wf=true
def ixK (L:List Ky) (k:Ky):Option Nat:=L.findIdx? fun a=>decide (a=k)
theorem zid {L:List Ky} {k:Ky} {i:Nat} (h:L[i]?=some k) (hb:∀(j:Nat) (a:Ky),j<i->L[j]?=some a->¬a=k):ixK L k=some i:=by
 unfold ixK
 rw[List.findIdx?_eq_some_iff_getElem]
 obtain⟨hi,he⟩:=List.getElem?_eq_some_iff.1 h
 refine⟨hi,by simp[he],fun j hj=>?_⟩
 have:=hb j (L[j]'(by omega)) hj (List.getElem?_eq_getElem _)
 simpa using this
theorem zie {L:List Ky} {k:Ky} (hb:∀(j:Nat) (a:Ky),L[j]?=some a->¬a=k):ixK L k=none:=by
 unfold ixK
 rw[List.findIdx?_eq_none_iff]
 intro x hx
 obtain⟨j,hj⟩:=List.getElem?_of_mem hx
 simpa using hb j x hj
theorem zk2 {L:List Ky} {k:Ky} {i:Nat} (h:ixK L k=some i):L[i]?=some k:=by
 unfold ixK at h
 obtain⟨hi,he,_⟩:=List.findIdx?_eq_some_iff_getElem.1 h
 rw[List.getElem?_eq_getElem hi]
 simpa using he
def ixI (L:List Ky) (k:Ky):Int:=match ixK L k with | some i=>i | none=>-1
theorem zae {P:Program} {fn:Func} {p:Tmp} {ty:TypeId} (h:fn.results=#[.cell p ty]) (tmps:Array Value) (w:World) (b:Nat) (cs:List Value) (d:TypeDesc)
  (hp:tmps.getD p undef=.pointer (some ⟨b,0,none⟩)) (hc:w.rangeAt b 0 cs) (hu:P.underlying ty=some d) (hd:d.isRow=true) (hi:(P.info? ty).map (·.size)=some cs.length):
  (results fn tmps).run P w=.ok (.agg cs.toArray) w:=by
 have hp':tmps[p]?.getD undef=.pointer (some ⟨b,0,none⟩):=by simpa using hp
 simp[results,h,hp',asAddr,run_loadVar_mid w b 0 ty cs d hc hu hd hi]
theorem zal (l:List Int) (k:Nat):val16 (l.take (k+1))=val16 (l.take k)+l.getD k 0*65536^k:=by
 by_cases h:k<l.length
 ·exact zb3 l k h
 ·have h0:l.getD k 0=0:=by simp[List.getD,List.getElem?_eq_none (by omega:l.length<=k)]
  rw[List.take_of_length_le (by omega),List.take_of_length_le (by omega),h0]
  omega
theorem za2:∀{xs:List Int},Dig16 xs->val16 xs<65536^xs.length
 | [],_=>by simp[val16]
 | x::xs,h=>by
  have h0:=h 0
  have h1:=za2 (zb4 h)
  have h2:val16 (x::xs)=x+65536*val16 xs:=rfl
  rw[h2,List.length_cons,Int.pow_succ]
  simp only[List.getD_cons_zero] at h0
  omega
structure Sb (xs ys:List Int) (k:Nat) (out:List Int) (owed:Int):Prop where
 len:out.length=k
 dig:Dig16 out
 ow:owed=0\/owed=1
 eq:val16 out=val16 (xs.take k) - val16 (ys.take k)+owed*65536^k
theorem zax {l:List Int} (h:Dig16 l) {d:Int} (hd:0<=d/\d<=65535):Dig16 (l++[d]):=fun j=>by
 by_cases hj:j<l.length
 ·have:=h j
  rwa [show (l++[d]).getD j 0=l.getD j 0 by simp[List.getD,List.getElem?_append_left hj]]
 ·by_cases hj2:j=l.length
  ·subst hj2
   simpa [List.getD] using hd
  ·have:(l++[d]).getD j 0=0:=by
    simp only[List.getD]
    rw[List.getElem?_eq_none (by simp;omega)]
    rfl
   rw[this]
   omega
theorem zay (l:List Int) (d:Int):val16 (l++[d])=val16 l+d*65536^l.length:=by
 rw[zaz]
 have:val16 [d]=d:=by simp[val16]
 rw[this,Int.mul_comm]
theorem Sb.zero (xs ys:List Int):Sb xs ys 0 [] 0:=⟨rfl,fun j=>by simp[List.getD],.inl rfl,by simp[val16]⟩
theorem Sb.free {xs ys out:List Int} {k:Nat} {owed:Int} (h:Sb xs ys k out owed) (ha:Dig16 xs) (hb:Dig16 ys) (hs:¬xs.getD k 0<owed+ys.getD k 0):Sb xs ys (k+1) (out++[xs.getD k 0 - (owed+ys.getD k 0)]) 0:=by
 have h1:=ha k
 have h2:=hb k
 have h3:=h.ow
 refine⟨by simp[h.len],zax h.dig (by omega),.inl rfl,?_⟩
 rw[zay,h.eq,zal,zal,h.len,Int.sub_mul,Int.add_mul]
 omega
theorem Sb.loan {xs ys out:List Int} {k:Nat} {owed:Int} (h:Sb xs ys k out owed) (ha:Dig16 xs) (hb:Dig16 ys) (hs:xs.getD k 0<owed+ys.getD k 0):Sb xs ys (k+1) (out++[xs.getD k 0+65536 - (owed+ys.getD k 0)]) 1:=by
 have h1:=ha k
 have h2:=hb k
 have h3:=h.ow
 refine⟨by simp[h.len],zax h.dig (by omega),.inr rfl,?_⟩
 rw[zay,h.eq,zal,zal,h.len,Int.sub_mul,Int.add_mul,Int.add_mul,Int.pow_succ]
 omega
theorem Sb.done {xs ys out:List Int} {owed:Int} (h:Sb xs ys xs.length out owed) (_ha:Dig16 xs) (hl:ys.length<=xs.length) (hle:val16 ys<=val16 xs):val16 out=val16 xs - val16 ys:=by
 have h1:=h.eq
 rw[List.take_length,List.take_of_length_le hl] at h1
 have h2:=za2 h.dig
 rw[h.len] at h2
 rcases h.ow with rfl | rfl
 ·omega
 ·omega
set_option maxRecDepth 100000
set_option maxHeartbeats 16000000
theorem trim_row {W:World} {base n:Nat} {v:Value} {zs:List Int} (hn:zs.length=n) (ap:W.ownsRow base 150 1 v n (zs.map (Value.int .u32))) (hd:Dig16 zs) (hl:n<=549755813888):
  ∃r,(Calls Tryz.prog 97 #[v] W fun e w'=>e=.returned r/\w'=W)/\Sl16 W r (trim zs):=by
 subst hn
 have htl:(trim zs).length=trimTo zs zs.length:=zai zs
 have htt:=zam zs zs.length
 have ce:=ap
 obtain⟨_,⟨rfl,h0⟩ | ⟨g,cp,cur,rfl,hg,bD,h4,h5,h6,h7⟩⟩:=ap
 ·have hz:zs=[]:=List.eq_nil_of_length_eq_zero h0
  subst hz
  exact⟨_,zcb none 0 W,zas hd,by rw[htl];simp[trimTo],none,0,rfl,Nat.le_refl _,.inl rfl⟩
 ·have hgl:g<W.heap.size:=(Array.getElem?_eq_some_iff.1 bD).1
  have br:∀i,i<zs.length->W.cell? ⟨g,0+i,none⟩=some (.int .u32 (zs.getD i 0)):=by
   intro i hi
   have h:=ce.cells (g:=g) rfl i (.int .u32 (zs.getD i 0)) (by simp[hi])
   by_cases h0:i=0
   ·subst h0
    simpa [Addr.add] using h
   ·simpa [Addr.add,h0] using h
  refine⟨_,zbe g 0 zs.length cp zs W br h4 (by omega),zas hd,by omega,some ⟨g,0,none⟩,cp,by rw[htl],by omega,.inr ⟨g,0,rfl,hgl,fun i hi=>?_⟩⟩
  rw[zbm _ _ hi]
  exact br i (by omega)
theorem zgb {w:World} {v u:Value} {xs ys:List Int} (hx:Sl16 w v xs) (hy:Sl16 w u ys) (hl:ys.length<=xs.length) (hle:val16 ys<=val16 xs):
  Calls Tryz.prog 127 #[v,u] w fun e w'=>∃r zs,e=.returned r/\Sl16 w' r zs/\Canon zs/\val16 zs=val16 xs - val16 ys/\Below w.heap.size w w':=by
 obtain⟨i0,hi,hz0,hz1,hz2⟩:=info_parts (show(Tryz.prog.info? 150).map (fun i=>(i.zero,i.size,i.bytes))=some (some (.int .u32 0),1,4) by kernel_rfl)
 obtain⟨dx,lx,q,cap,rfl,aH,hcx⟩:=hx
 obtain⟨dy,ly,q2,cap2,rfl,bQ,hcy⟩:=hy
 have cx:∀i,i<xs.length->∃b o,q=some ⟨b,o,none⟩/\b<w.heap.size/\w.cell? ⟨b,o+i,none⟩=some (.int .u32 (xs.getD i 0)):=fun i hi=>by
  rcases hcx with rfl | ⟨b,o,rfl,hb,hc⟩
  ·simp at hi
  ·exact⟨b,o,rfl,hb,hc i hi⟩
 have cy:∀i,i<ys.length->∃b o,q2=some ⟨b,o,none⟩/\b<w.heap.size/\w.cell? ⟨b,o+i,none⟩=some (.int .u32 (ys.getD i 0)):=fun i hi=>by
  rcases hcy with rfl | ⟨b,o,rfl,hb,hc⟩
  ·simp at hi
  ·exact⟨b,o,rfl,hb,hc i hi⟩
 have cx':=zac cx
 have cy':=zac cy
 have dx':Hid (Dig16 xs):=dx
 have dy':Hid (Dig16 ys):=dy
 have ct:Hid (val16 ys<=val16 xs):=hle
 clear cx cy hcx hcy dx dy hle
 go_enter Tryz.func127,Tryz.ntmps127
 go_wp2_with (at_make;refine wpList_make_own _ rfl _ _ 62 rfl w.heap.size 150 i0 (.int .u32 0) 1 Tryz.underlying62 hi hz0 hz1 .i64 .i64 _ xs.length rfl rfl rfl (by rw[hz2];omega) (by unfold maxLen;omega) (Nat.le_refl _) ?_;intro w1 bm bR)
 have W1:Below w.heap.size w w1:=(Below.refl _ _).grown bR (Nat.le_refl _) (fun g hg=>by cases hg)
 go_loopw [5,6,15] (fun t5 t6 i wr=>∃(k:Nat) (out:List Int) (owed:Int),k<=xs.length/\i=.int .i64 k/\t6=.int .u32 owed/\0<=owed/\owed<=1/\wr.ownsRow w.heap.size 150 1 t5 k (out.map (Value.int .u32))/\Hid (Sb xs ys k out owed)/\Below w.heap.size w wr) (fun _ _ i _=>xs.length - (intOf i).toNat)
 case atStart=>exact⟨0,[],0,Nat.zero_le _,rfl,rfl,by omega,by omega,bm,Sb.zero xs ys,W1⟩
 case round=>
  clear bm bR W1
  obtain⟨k,out,owed,hk,rfl,rfl,ow0,ow1,ap,hsb,hbw⟩:=hrel
  have hws:=hbw.size
  by_cases hlt:k<xs.length
  ·have aA:(k:Int)<(xs.length:Int):=by omega
   obtain⟨b,o,rfl,hb,hc⟩:=cx'.out k hlt
   have c1:wr.cell? ⟨b,o+k,none⟩=some (.int .u32 (xs.getD k 0)):=(hbw.cell (by exact hb)).trans hc
   have hxk:=dx'.out k
   have hyk:=dy'.out k
   obtain⟨X,hX⟩:∃X,Hid (xs.getD k 0=X):=⟨_,rfl⟩
   obtain⟨Y,hY⟩:∃Y,Hid (ys.getD k 0=Y):=⟨_,rfl⟩
   rw[hX.out] at c1 hxk
   rw[hY.out] at hyk
   obtain⟨x0,x1⟩:=hxk
   obtain⟨y0,y1⟩:=hyk
   clear hc
   by_cases hky:k<ys.length
   ·have dF:(k:Int)<(ys.length:Int):=by omega
    obtain⟨b2,o2,rfl,hb2,hc2⟩:=cy'.out k hky
    have c2:wr.cell? ⟨b2,o2+k,none⟩=some (.int .u32 Y):=hY.out ▸ (hbw.cell (by exact hb2)).trans hc2
    clear hc2
    by_cases hs:X<owed+Y
    ·go_wp2_with (at_builtin;(refine wpList_append_own _ rfl _ _ 62 rfl w.heap.size 150 i0 (.int .u32 0) 1 4 Tryz.underlying62 hi hz0 hz1 hz2 rfl (by decide) _ _ _ rfl (ap.alloc _) ⟨wr.heap.size,0,none⟩ 1 1 [.int .u32 (X+65536 - (owed+Y))] rfl rfl (World.news_of_block (heap_alloc_last wr (.cells #[.int .u32 (X+65536 - (owed+Y))] 150))) (ints_oneCell .u32 [X+65536 - (owed+Y)]) (by unfold maxLen;omega) (by omega) (by simp;omega) ?_;intro v' w2 aC az _))
     go_roundw
     case rel=>
      refine⟨k+1,out++[X+65536 - (owed+Y)],1,by omega,by go_num,rfl,by omega,by omega,by rw[List.map_append];exact aC,?_,(hbw.alloc hws _).grown az (by simp;omega) (fun g hg=>(ap.lt g hg).1)⟩
      have h:=hsb.out.loan dx'.out dy'.out (by rw[hX.out,hY.out];omega)
      rw[hX.out,hY.out] at h
      show Sb _ _ _ _ _
      show Sb _ _ _ _ _
      simpa using h
     case measure=>simp[intOf];omega
    ·go_wp2_with (at_builtin;(refine wpList_append_own _ rfl _ _ 62 rfl w.heap.size 150 i0 (.int .u32 0) 1 4 Tryz.underlying62 hi hz0 hz1 hz2 rfl (by decide) _ _ _ rfl (ap.alloc _) ⟨wr.heap.size,0,none⟩ 1 1 [.int .u32 (X - (owed+Y))] rfl rfl (World.news_of_block (heap_alloc_last wr (.cells #[.int .u32 (X - (owed+Y))] 150))) (ints_oneCell .u32 [X - (owed+Y)]) (by unfold maxLen;omega) (by omega) (by simp;omega) ?_;intro v' w2 aC az _))
     go_roundw
     case rel=>
      refine⟨k+1,out++[X - (owed+Y)],0,by omega,by go_num,rfl,by omega,by omega,by rw[List.map_append];exact aC,?_,(hbw.alloc hws _).grown az (by simp;omega) (fun g hg=>(ap.lt g hg).1)⟩
      have h:=hsb.out.free dx'.out dy'.out (by rw[hX.out,hY.out];omega)
      rw[hX.out,hY.out] at h
      show Sb _ _ _ _ _
      show Sb _ _ _ _ _
      simpa using h
     case measure=>simp[intOf];omega
   ·have dF:¬(k:Int)<(ys.length:Int):=by omega
    have hY0:Y=0:=by
     rw[<-hY.out]
     simp[List.getD,List.getElem?_eq_none (by omega:ys.length<=k)]
    subst hY0
    by_cases hs:X<owed
    ·go_wp2_with (at_builtin;(refine wpList_append_own _ rfl _ _ 62 rfl w.heap.size 150 i0 (.int .u32 0) 1 4 Tryz.underlying62 hi hz0 hz1 hz2 rfl (by decide) _ _ _ rfl (ap.alloc _) ⟨wr.heap.size,0,none⟩ 1 1 [.int .u32 (X+65536 - owed)] rfl rfl (World.news_of_block (heap_alloc_last wr (.cells #[.int .u32 (X+65536 - owed)] 150))) (ints_oneCell .u32 [X+65536 - owed]) (by unfold maxLen;omega) (by omega) (by simp;omega) ?_;intro v' w2 aC az _))
     go_roundw
     case rel=>
      refine⟨k+1,out++[X+65536 - owed],1,by omega,by go_num,rfl,by omega,by omega,by rw[List.map_append];exact aC,?_,(hbw.alloc hws _).grown az (by simp;omega) (fun g hg=>(ap.lt g hg).1)⟩
      have h:=hsb.out.loan dx'.out dy'.out (by rw[hX.out,hY.out];omega)
      rw[hX.out,hY.out] at h
      show Sb _ _ _ _ _
      show Sb _ _ _ _ _
      simpa using h
     case measure=>simp[intOf];omega
    ·go_wp2_with (at_builtin;(refine wpList_append_own _ rfl _ _ 62 rfl w.heap.size 150 i0 (.int .u32 0) 1 4 Tryz.underlying62 hi hz0 hz1 hz2 rfl (by decide) _ _ _ rfl (ap.alloc _) ⟨wr.heap.size,0,none⟩ 1 1 [.int .u32 (X - owed)] rfl rfl (World.news_of_block (heap_alloc_last wr (.cells #[.int .u32 (X - owed)] 150))) (ints_oneCell .u32 [X - owed]) (by unfold maxLen;omega) (by omega) (by simp;omega) ?_;intro v' w2 aC az _))
     go_roundw
     case rel=>
      refine⟨k+1,out++[X - owed],0,by omega,by go_num,rfl,by omega,by omega,by rw[List.map_append];exact aC,?_,(hbw.alloc hws _).grown az (by simp;omega) (fun g hg=>(ap.lt g hg).1)⟩
      have h:=hsb.out.free dx'.out dy'.out (by rw[hX.out,hY.out];omega)
      rw[hX.out,hY.out] at h
      show Sb _ _ _ _ _
      show Sb _ _ _ _ _
      simpa using h
     case measure=>simp[intOf];omega
  ·obtain rfl:k=xs.length:=by omega
   obtain⟨r,aw,hr⟩:=trim_row hsb.out.len ap hsb.out.dig lx
   have hv:=hsb.out.done dx'.out hl ct.out
   go_wp2_with (go_at_call 97;refine aw.mono ?_;rintro e w9 ⟨rfl,rfl⟩)
   go_ret
   exact⟨r,trim out,rfl,hr,zak out,by rw[zao];exact hv,hbw⟩
end Go.Proofs.YtaonejnicgbifaaGreatDoor
