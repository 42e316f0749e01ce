import Derived.Test.YtnnhofmknilopaaGreatDoorPk29
namespace Go.Proofs.YtnnhofmknilopaaGreatDoor
open Go Go.RowKit
set_option maxRecDepth 100000
set_option maxHeartbeats 16000000
theorem zm5 {w:World} (m:ByteArray) (g:Bool) (aq:Option Addr) (an ac:Nat) (cq:Option Addr) (cn cc:Nat):
  Calls Tryz.prog 23 #[.agg #[.string m,.bool g,.slice aq an ac,.slice cq cn cc]] w (Rt w (.bool (!nameB m))):=by
 have b0:=zaa w (.cells #[.string m,.bool g,.slice aq an ac,.slice cq cn cc] 68)
 have hn:=zcv m (w.alloc (.cells #[.string m,.bool g,.slice aq an ac,.slice cq cn cc] 68))
 have b0':=zab b0
 clear b0
 go_enter Tryz.func23,Tryz.ntmps23
 go_wp2_with (go_at_call 22;refine hn.mono ?_;rintro e w1 ⟨rfl,hb1⟩)
 go_ret
 exact⟨rfl,b0'.out.trans (hb1.mono b0'.out.size)⟩
theorem idx23_ok {w:World} {q:Option Addr} {n cap:Nat} {ps:Nat->Pt} (h:PtsOk w q n ps) (hn:n<=6):
  Calls Tryz.prog 45 #[.slice q n cap,.func (.func 23) #[] #[]] w fun e w'=>(∃v:Int,e=.returned (.int .i64 v)/\decide (0<=v)=!((List.range n).all fun i=>nameB (ps i).m))/\Below w.heap.size w w':=by
 have h':=zab h
 clear h
 go_enter Tryz.func45,Tryz.ntmps45
 go_wp2_with fail
 go_loopw [8] (fun i wr=>∃k:Nat,k<=n/\i=.int .i64 k/\Hid (∀j,j<k->nameB (ps j).m=true)/\Below w.heap.size w wr) (fun i _=>n - (intOf i).toNat)
 case atStart=>exact⟨0,Nat.zero_le _,rfl,fun j hj=>absurd hj (Nat.not_lt_zero _),Below.refl _ _⟩
 case round=>
  obtain⟨c,hc,rfl,aB,hbw⟩:=hrel
  have hws:=hbw.size
  by_cases hlt:c<n
  ·have bR:(c:Int)<(n:Int):=by omega
   obtain⟨b,o,hq,hb,ds,hd⟩:=h'.out.2.resolve_left (by omega)
   subst hq
   obtain⟨hva,hpt⟩:=hd c hlt
   obtain⟨x0,x1,x2,x3⟩:=hva.below hbw hb
   have hm:=hpt.1
   clear hd hva hpt
   generalize ds c=d at*
   obtain⟨dm,g,aq,an,ac,cq,cn,cc⟩:=d
   simp only at hm x0 x1 x2 x3
   have hcl:=zm5 (w:=wr) dm g aq an ac cq cn cc
   rw[hm] at hcl x0
   obtain⟨M,hM⟩:∃M,Hid (nameB (ps c).m=M):=⟨_,rfl⟩
   have hMe:Hid (nameB (ps c).m=M):=hM
   rw[hM.out] at hcl
   cases M with
   | true=>
    go_wp2_with (go_at_call 23;refine hcl.mono ?_;rintro e w1 ⟨rfl,hb1⟩)
    go_roundw
    case rel=>
     refine⟨c+1,by omega,by go_num,fun j hj=>?_,hbw.trans (hb1.mono hws)⟩
     rcases Nat.lt_or_ge j c with h1 | h1
     ·exact aB.out j h1
     ·obtain rfl:j=c:=by omega
      exact hMe.out
    case measure=>simp[intOf];omega
   | false=>
    go_wp2_with (go_at_call 23;refine hcl.mono ?_;rintro e w1 ⟨rfl,hb1⟩)
    go_ret
    exact⟨⟨_,rfl,by rw[zb3 hlt (f:=fun i=>nameB (ps i).m) hMe.out];simp;try omega⟩,hbw.trans (hb1.mono hws)⟩
  ·obtain rfl:c=n:=by omega
   go_wp2_with fail
   go_ret
   exact⟨⟨_,rfl,by rw[za9 aB.out];rfl⟩,hbw⟩
theorem con23_ok {w:World} {q:Option Addr} {n cap:Nat} {ps:Nat->Pt} (h:PtsOk w q n ps) (hn:n<=6):
  Calls Tryz.prog 25 #[.slice q n cap,.func (.func 23) #[] #[]] w (Rt w (.bool (!((List.range n).all fun i=>nameB (ps i).m)))):=by
 have hi:=idx23_ok (cap:=cap) h hn
 go_enter Tryz.func25,Tryz.ntmps25
 go_wp2_with (go_at_call 45;refine hi.mono ?_;rintro e w1 ⟨⟨v,rfl,hv⟩,hb1⟩)
 go_ret
 exact⟨by rw[<-hv];rfl,hb1⟩
theorem zm6 {w:World} (m:ByteArray) (k f:Int) (ng:Bool) (aq:Option Addr) (an ac:Nat) (cq:Option Addr) (cn cc:Nat) (em:ByteArray) (sq:Option Addr) (sn sc:Nat):
  Calls Tryz.prog 24 #[.agg #[.string m,.int .i64 k,.int .i64 f,.bool ng,.slice aq an ac,.slice cq cn cc,.string em,.slice sq sn sc]] w (Rt w (.bool (!nameB m))):=by
 have b0:=zaa w (.cells #[.string m,.int .i64 k,.int .i64 f,.bool ng,.slice aq an ac,.slice cq cn cc,.string em,.slice sq sn sc] 71)
 have hn:=zcv m (w.alloc (.cells #[.string m,.int .i64 k,.int .i64 f,.bool ng,.slice aq an ac,.slice cq cn cc,.string em,.slice sq sn sc] 71))
 have b0':=zab b0
 clear b0
 go_enter Tryz.func24,Tryz.ntmps24
 go_wp2_with (go_at_call 22;refine hn.mono ?_;rintro e w1 ⟨rfl,hb1⟩)
 go_ret
 exact⟨rfl,b0'.out.trans (hb1.mono b0'.out.size)⟩
theorem idx24_ok {w:World} {q:Option Addr} {n cap:Nat} {ps:Nat->Bd} (h:BdsOk w q n ps) (hn:n<=6):
  Calls Tryz.prog 46 #[.slice q n cap,.func (.func 24) #[] #[]] w fun e w'=>(∃v:Int,e=.returned (.int .i64 v)/\decide (0<=v)=!((List.range n).all fun i=>nameB (ps i).m))/\Below w.heap.size w w':=by
 have h':=zab h
 clear h
 go_enter Tryz.func46,Tryz.ntmps46
 go_wp2_with fail
 go_loopw [8] (fun i wr=>∃k:Nat,k<=n/\i=.int .i64 k/\Hid (∀j,j<k->nameB (ps j).m=true)/\Below w.heap.size w wr) (fun i _=>n - (intOf i).toNat)
 case atStart=>exact⟨0,Nat.zero_le _,rfl,fun j hj=>absurd hj (Nat.not_lt_zero _),Below.refl _ _⟩
 case round=>
  obtain⟨c,hc,rfl,aB,hbw⟩:=hrel
  have hws:=hbw.size
  by_cases hlt:c<n
  ·have bR:(c:Int)<(n:Int):=by omega
   obtain⟨b,o,hq,hb,ds,hd⟩:=h'.out.2.resolve_left (by omega)
   subst hq
   obtain⟨hva,hpt⟩:=hd c hlt
   obtain⟨x0,x1,x2,x3,x4,x5,x6,x7⟩:=hva.below hbw hb
   have hm:=hpt.1
   clear hd hva hpt
   generalize ds c=d at*
   obtain⟨dm,k,f,ng,aq,an,ac,cq,cn,cc,em,sq,sn,sc⟩:=d
   simp only at hm x0 x1 x2 x3 x4 x5 x6 x7
   have hcl:=zm6 (w:=wr) dm k f ng aq an ac cq cn cc em sq sn sc
   rw[hm] at hcl x0
   obtain⟨M,hM⟩:∃M,Hid (nameB (ps c).m=M):=⟨_,rfl⟩
   have hMe:Hid (nameB (ps c).m=M):=hM
   rw[hM.out] at hcl
   cases M with
   | true=>
    go_wp2_with (go_at_call 24;refine hcl.mono ?_;rintro e w1 ⟨rfl,hb1⟩)
    go_roundw
    case rel=>
     refine⟨c+1,by omega,by go_num,fun j hj=>?_,hbw.trans (hb1.mono hws)⟩
     rcases Nat.lt_or_ge j c with h1 | h1
     ·exact aB.out j h1
     ·obtain rfl:j=c:=by omega
      exact hMe.out
    case measure=>simp[intOf];omega
   | false=>
    go_wp2_with (go_at_call 24;refine hcl.mono ?_;rintro e w1 ⟨rfl,hb1⟩)
    go_ret
    exact⟨⟨_,rfl,by rw[zb3 hlt (f:=fun i=>nameB (ps i).m) hMe.out];simp;try omega⟩,hbw.trans (hb1.mono hws)⟩
  ·obtain rfl:c=n:=by omega
   go_wp2_with fail
   go_ret
   exact⟨⟨_,rfl,by rw[za9 aB.out];rfl⟩,hbw⟩
theorem con24_ok {w:World} {q:Option Addr} {n cap:Nat} {ps:Nat->Bd} (h:BdsOk w q n ps) (hn:n<=6):
  Calls Tryz.prog 26 #[.slice q n cap,.func (.func 24) #[] #[]] w (Rt w (.bool (!((List.range n).all fun i=>nameB (ps i).m)))):=by
 have hi:=idx24_ok (cap:=cap) h hn
 go_enter Tryz.func26,Tryz.ntmps26
 go_wp2_with (go_at_call 46;refine hi.mono ?_;rintro e w1 ⟨⟨v,rfl,hv⟩,hb1⟩)
 go_ret
 exact⟨by rw[<-hv];rfl,hb1⟩
def ltN:Nat->UInt8 | 0=>120 | 1=>121 | _=>108
def Sc.nmN (s:Sc):Nat->ByteArray | 0=>s.nm | 1=>s.ot | _=>s.en
theorem names_at {w:World} {M:Nat} {d:Sd} (h:w.heap[M]?=some (.cells #[.int .u8 120,.string d.s.nm,.int .u8 121,.string d.s.ot,.int .u8 108,.string d.s.en] 63 (0,0))) {c:Nat} (hc:c<3):
  w.cell? ⟨M,c*2,none⟩=some (.int .u8 (ltN c).toNat)/\w.cell? ⟨M,c*2+1,none⟩=some (.string (d.s.nmN c)):=by
 have h3:c=0\/c=1\/c=2:=by omega
 rcases h3 with rfl | rfl | rfl<;>simp[World.cell?,h,ltN,Sc.nmN]
theorem ltN_mem {c:Nat} (hc:c<3):ltN c∈letP:=by
 have h3:c=0\/c=1\/c=2:=by omega
 rcases h3 with rfl | rfl | rfl<;>decide
theorem zm7 {s:Sc} {r:KR} {c:Nat} (hc:c<3) (hu:decide (ltN c∈r.fl)=true) (hn:nameB (s.nmN c)=false):s.pn3 r=false:=by
 have h3:c=0\/c=1\/c=2:=by omega
 unfold Sc.pn3
 rcases h3 with rfl | rfl | rfl<;>simp only[ltN,Sc.nmN] at hu hn<;>rw[hu,hn]<;>simp
theorem pn3_true {s:Sc} {r:KR} (h:∀c,c<3->decide (ltN c∈r.fl)=true->nameB (s.nmN c)=true):s.pn3 r=true:=by
 have h0:=h 0 (by omega)
 have h1:=h 1 (by omega)
 have h2:=h 2 (by omega)
 simp only[ltN,Sc.nmN] at h0 h1 h2
 unfold Sc.pn3
 cases e0:decide ((120:UInt8)∈r.fl)<;>cases e1:decide ((121:UInt8)∈r.fl)<;>cases e2:decide ((108:UInt8)∈r.fl)<;>simp_all
theorem zkp {w:World} {d:Sd} (h4:d.s.pr4=false):
  Calls Tryz.prog 9 #[.agg (sV d)] w (Rt w (.bool false)):=by
 have b0:=zab (zaa w (.cells (sV d) 32))
 have hk:d.s.kk<0\/d.s.nn<0\/d.s.pr<0\/d.s.ve<0:=by
  unfold Sc.pr4 at h4
  simp at h4
  by_cases k0:d.s.kk<0
  ·exact .inl k0
  by_cases k1:d.s.nn<0
  ·exact .inr (.inl k1)
  by_cases k2:d.s.pr<0
  ·exact .inr (.inr (.inl k2))
  ·exact .inr (.inr (.inr (h4 (by omega) (by omega) (by omega))))
 by_cases k0:d.s.kk<0
 ·clear hk h4
  have g0:decide (d.s.kk<0)=true:=decide_eq_true k0
  go_enter Tryz.func9,Tryz.ntmps9
  go_wp2_with fail
  go_ret
  exact⟨rfl,b0.out⟩
 by_cases k1:d.s.nn<0
 ·clear hk h4
  have g0:decide (d.s.kk<0)=false:=decide_eq_false k0
  have g1:decide (d.s.nn<0)=true:=decide_eq_true k1
  go_enter Tryz.func9,Tryz.ntmps9
  go_wp2_with fail
  go_ret
  exact⟨rfl,b0.out⟩
 by_cases k2:d.s.pr<0
 ·clear hk h4
  have g0:decide (d.s.kk<0)=false:=decide_eq_false k0
  have g1:decide (d.s.nn<0)=false:=decide_eq_false k1
  have g2:decide (d.s.pr<0)=true:=decide_eq_true k2
  go_enter Tryz.func9,Tryz.ntmps9
  go_wp2_with fail
  go_ret
  exact⟨rfl,b0.out⟩
 by_cases k3:d.s.ve<0
 ·clear hk h4
  have g0:decide (d.s.kk<0)=false:=decide_eq_false k0
  have g1:decide (d.s.nn<0)=false:=decide_eq_false k1
  have g2:decide (d.s.pr<0)=false:=decide_eq_false k2
  have g3:decide (d.s.ve<0)=true:=decide_eq_true k3
  go_enter Tryz.func9,Tryz.ntmps9
  go_wp2_with fail
  go_ret
  exact⟨rfl,b0.out⟩
 ·omega
theorem ziy {w:World} {d:Sd} {r:KR} {P B:Bool} (hr:r∈kR) (hru:d.s.ru=r.n) (h4:d.s.pr4=true)
  (hP:∀z,Below w.heap.size w z->Calls Tryz.prog 25 #[.slice d.poq d.pon d.poc,.func (.func 23) #[] #[]] z (Rt z (.bool (!P))))
  (hB:∀z,Below w.heap.size w z->Calls Tryz.prog 26 #[.slice d.arq d.arn d.arc,.func (.func 24) #[] #[]] z (Rt z (.bool (!B)))):
  Calls Tryz.prog 9 #[.agg (sV d)] w (Rt w (.bool (d.s.pn3 r&&(P&&B)))):=by
 have hk:¬d.s.kk<0/\¬d.s.nn<0/\¬d.s.pr<0/\¬d.s.ve<0:=by
  unfold Sc.pr4 at h4
  simp at h4
  omega
 obtain⟨k0,k1,k2,k3⟩:=hk
 have g0:decide (d.s.kk<0)=false:=decide_eq_false k0
 have g1:decide (d.s.nn<0)=false:=decide_eq_false k1
 have g2:decide (d.s.pr<0)=false:=decide_eq_false k2
 have g3:decide (d.s.ve<0)=false:=decide_eq_false k3
 have b0:Hid (Below w.heap.size w (w.alloc (.cells (sV d) 32))):=zaa w _
 have c0:Hid ((w.alloc (.cells (sV d) 32)).heap[w.heap.size]?=some (.cells (sV d) 32 (0,0))):=heap_alloc_new w _
 have hfd:=zgs hr (w.alloc (.cells (sV d) 32))
 rw[<-hru] at hfd
 unfold KR.val tx at hfd
 have hP':=zab hP
 have hB':=zab hB
 have hus:Hid (∀c,c<3->∀z,Calls Tryz.prog 21 #[.agg #[.string ⟨r.nm.toArray⟩,.string ⟨r.fl.toArray⟩,.int .i64 r.k,.func (.func r.f) #[] #[]],.int .u8 (ltN c).toNat] z (Rt z (.bool (decide (ltN c∈r.fl))))):=fun c hc z=>zgt hr (ltN_mem hc) z
 have hnm:Hid (∀c z,Calls Tryz.prog 22 #[.string (d.s.nmN c)] z (Rt z (.bool (nameB (d.s.nmN c))))):=fun c z=>zcv _ z
 obtain⟨R,hR⟩:∃R,Hid (d.s.pn3 r=R):=⟨_,rfl⟩
 rw[hR.out]
 clear hP hB hru h4
 go_enter Tryz.func9,Tryz.ntmps9
 go_upto_region 4 with(go_at_call 20;refine hfd.mono ?_;rintro e w1 ⟨rfl,hb1⟩
                       have B1:=b0.out.trans (hb1.mono b0.out.size)
                       have c1:=zab ((hb1.block _ (Array.getElem?_eq_some_iff.1 c0.out).1).trans c0.out)
                       clear hfd hb1 c0)
 have m1:Hid ((w1.alloc (.cells #[.string ⟨r.nm.toArray⟩,.string ⟨r.fl.toArray⟩,.int .i64 r.k,.func (.func r.f) #[] #[]] 60)).heap[w1.heap.size]?=some (.cells #[.string ⟨r.nm.toArray⟩,.string ⟨r.fl.toArray⟩,.int .i64 r.k,.func (.func r.f) #[] #[]] 60 (0,0))):=heap_alloc_new w1 _
 have B2:=B1.trans ((zaa w1 (.cells #[.string ⟨r.nm.toArray⟩,.string ⟨r.fl.toArray⟩,.int .i64 r.k,.func (.func r.f) #[] #[]] 60)).mono B1.size)
 have c2:=(((zaa w1 (.cells #[.string ⟨r.nm.toArray⟩,.string ⟨r.fl.toArray⟩,.int .i64 r.k,.func (.func r.f) #[] #[]] 60)).block _ (Array.getElem?_eq_some_iff.1 c1.out).1).trans c1.out)
 have B2':=zab B2
 clear B1 c1 B2
 generalize (w1.alloc (.cells #[.string ⟨r.nm.toArray⟩,.string ⟨r.fl.toArray⟩,.int .i64 r.k,.func (.func r.f) #[] #[]] 60))=W at*
 generalize w1.heap.size=M at*
 have x1:W.cell? ⟨w.heap.size,1,none⟩=some (.string d.s.nm):=by simp[World.cell?,c2]
 have x2:W.cell? ⟨w.heap.size,2,none⟩=some (.string d.s.ot):=by simp[World.cell?,c2]
 have x17:W.cell? ⟨w.heap.size,17,none⟩=some (.string d.s.en):=by simp[World.cell?,c2]
 have c2':=zab c2
 clear c2 g0 g1 g2 g3 k0 k1 k2 k3
 go_upto_region 5 with fail
 have B3:=B2'.out.trans ((zaa W (.cells #[.int .u8 120,.string d.s.nm,.int .u8 121,.string d.s.ot,.int .u8 108,.string d.s.en] 63)).mono B2'.out.size)
 have n3:Hid ((W.alloc (.cells #[.int .u8 120,.string d.s.nm,.int .u8 121,.string d.s.ot,.int .u8 108,.string d.s.en] 63)).heap[W.heap.size]?=some (.cells #[.int .u8 120,.string d.s.nm,.int .u8 121,.string d.s.ot,.int .u8 108,.string d.s.en] 63 (0,0))):=heap_alloc_new W _
 have c3:=zab (((zaa W (.cells #[.int .u8 120,.string d.s.nm,.int .u8 121,.string d.s.ot,.int .u8 108,.string d.s.en] 63)).block _ (Array.getElem?_eq_some_iff.1 c2'.out).1).trans c2'.out)
 have m3:=zab (((zaa W (.cells #[.int .u8 120,.string d.s.nm,.int .u8 121,.string d.s.ot,.int .u8 108,.string d.s.en] 63)).block _ (Array.getElem?_eq_some_iff.1 m1.out).1).trans m1.out)
 have B3':=zab B3
 clear B3 B2' c2' m1 x1 x2 x17
 generalize (W.alloc (.cells #[.int .u8 120,.string d.s.nm,.int .u8 121,.string d.s.ot,.int .u8 108,.string d.s.en] 63))=Y at*
 generalize W.heap.size=T at*
 go_wp2_with fail
 go_loopw [46] (fun i wr=>∃c:Nat,c<=3/\i=.int .i64 c/\Hid (∀j,j<c->decide (ltN j∈r.fl)=true->nameB (d.s.nmN j)=true)/\Below Y.heap.size Y wr) (fun i _=>3 - (intOf i).toNat)
 case atStart=>exact⟨0,by omega,rfl,fun j hj=>absurd hj (Nat.not_lt_zero _),Below.refl _ _⟩
 case round=>
  obtain⟨c,hc,rfl,aB,hbw⟩:=hrel
  have hws:=hbw.size
  have n5:=(hbw.block _ (Array.getElem?_eq_some_iff.1 n3.out).1).trans n3.out
  have m5:=(hbw.block _ (Array.getElem?_eq_some_iff.1 m3.out).1).trans m3.out
  by_cases hlt:c<3
  ·have bR:(c:Int)<3:=by omega
   obtain⟨y0,y1⟩:=names_at n5 hlt
   obtain⟨z0,z1,z2,z3⟩:=zfz m5
   have hT:T<wr.heap.size:=(Array.getElem?_eq_some_iff.1 n5).1
   have hM:M<wr.heap.size:=(Array.getElem?_eq_some_iff.1 m5).1
   have b1:=hbw.trans ((zaa wr (.cells #[.int .u8 (ltN c).toNat,.string (d.s.nmN c)] 63)).mono hws)
   have hu1:=hus.out c hlt (wr.alloc (.cells #[.int .u8 (ltN c).toNat,.string (d.s.nmN c)] 63))
   have hpt:Hid (decide (ltN c∈r.fl)=true->nameB (d.s.nmN c)=false->R=false):=fun hu hn=>by rw[<-hR.out];exact zm7 hlt hu hn
   have gi:=fun z=>hnm.out c z
   obtain⟨U,hU⟩:∃U,decide (ltN c∈r.fl)=U:=⟨_,rfl⟩
   obtain⟨N,hN⟩:∃N,nameB (d.s.nmN c)=N:=⟨_,rfl⟩
   rw[hU] at hu1
   simp only[hN] at gi
   have hpt:=hpt.out
   rw[hU,hN] at hpt
   have hpt:=zab hpt
   have hU:=zab hU
   have hN:=zab hN
   have k1:(wr.alloc (.cells #[.int .u8 (ltN c).toNat,.string (d.s.nmN c)] 63)).heap[wr.heap.size]?=some (.cells #[.int .u8 (ltN c).toNat,.string (d.s.nmN c)] 63 (0,0)):=heap_alloc_new wr _
   have kz:=zab k1
   have eO:=zab gi
   have b1':=zab b1
   clear b1 k1 gi
   cases U with
   | false=>
    go_wp2_with (first
     | (go_at_call 21;refine hu1.mono ?_;rintro e w5 ⟨rfl,hb5⟩))
    go_roundw
    case rel=>
     refine⟨c+1,by omega,by go_num,fun j hj hu=>?_,b1'.out.trans (hb5.mono b1'.out.size)⟩
     rcases Nat.lt_or_ge j c with h1 | h1
     ·exact aB.out j h1 hu
     ·obtain rfl:j=c:=by omega
      rw[hU.out] at hu
      cases hu
    case measure=>simp[intOf];omega
   | true=>
    cases N with
    | false=>
     obtain rfl:=hpt.out rfl rfl
     go_wp2_with (first
      | (go_at_call 21;refine hu1.mono ?_;rintro e w5 ⟨rfl,hb5⟩
         have y5:w5.cell? ⟨wr.heap.size,1,none⟩=some (.string (d.s.nmN c)):=by simp[World.cell?,(hb5.block _ (Array.getElem?_eq_some_iff.1 kz.out).1).trans kz.out]
         have hn5:=eO.out w5)
      | (go_at_call 22;refine hn5.mono ?_;rintro e w6 ⟨rfl,hb6⟩))
     go_ret
     have B6:Below Y.heap.size Y w6:=(b1'.out.trans (hb5.mono b1'.out.size)).trans (hb6.mono (b1'.out.trans (hb5.mono b1'.out.size)).size)
     exact⟨rfl,B3'.out.trans (B6.mono B3'.out.size)⟩
    | true=>
     go_wp2_with (first
      | (go_at_call 21;refine hu1.mono ?_;rintro e w5 ⟨rfl,hb5⟩
         have y5:w5.cell? ⟨wr.heap.size,1,none⟩=some (.string (d.s.nmN c)):=by simp[World.cell?,(hb5.block _ (Array.getElem?_eq_some_iff.1 kz.out).1).trans kz.out]
         have hn5:=eO.out w5)
      | (go_at_call 22;refine hn5.mono ?_;rintro e w6 ⟨rfl,hb6⟩))
     go_roundw
     case rel=>
      refine⟨c+1,by omega,by go_num,fun j hj hu=>?_,(b1'.out.trans (hb5.mono b1'.out.size)).trans (hb6.mono (b1'.out.trans (hb5.mono b1'.out.size)).size)⟩
      rcases Nat.lt_or_ge j c with h1 | h1
      ·exact aB.out j h1 hu
      ·obtain rfl:j=c:=by omega
       exact hN.out
     case measure=>simp[intOf];omega
  ·obtain rfl:c=3:=by omega
   have hRt:R=true:=by rw[<-hR.out];exact pn3_true aB.out
   subst hRt
   have c5:=(hbw.block _ (Array.getElem?_eq_some_iff.1 c3.out).1).trans c3.out
   have x16:wr.cell? ⟨w.heap.size,16,none⟩=some (.slice d.poq d.pon d.poc):=by simp[World.cell?,c5]
   have B5:Below w.heap.size w wr:=B3'.out.trans (hbw.mono B3'.out.size)
   have hP1:=hP'.out wr B5
   have c5':=zab c5
   have B5':=zab B5
   clear c5 n5 m5 B5
   cases P with
   | false=>
    go_wp2_with (go_at_call 25;refine hP1.mono ?_;rintro e w6 ⟨rfl,hb6⟩)
    go_ret
    exact⟨rfl,B5'.out.trans (hb6.mono B5'.out.size)⟩
   | true=>
    go_wp2_with (first
     | (go_at_call 25;refine hP1.mono ?_;rintro e w6 ⟨rfl,hb6⟩
        have B6:=zab (B5'.out.trans (hb6.mono B5'.out.size))
        have x19:w6.cell? ⟨w.heap.size,19,none⟩=some (.slice d.arq d.arn d.arc):=by simp[World.cell?,(hb6.block _ (Array.getElem?_eq_some_iff.1 c5'.out).1).trans c5'.out]
        have hB1:=hB'.out w6 B6.out)
     | (go_at_call 26;refine hB1.mono ?_;rintro e w7 ⟨rfl,hb7⟩))
    go_ret
    exact⟨by simp,B6.out.trans (hb7.mono B6.out.size)⟩
end Go.Proofs.YtnnhofmknilopaaGreatDoor
