import Derived.Test.YtnnhofmknilopaaGreatDoorPk20
namespace Go.Proofs.YtnnhofmknilopaaGreatDoor
open Go Go.Proofs.YtnnhofmknilopaaGreatDoor.Gx Go.RowKit
set_option maxRecDepth 100000
set_option maxHeartbeats 16000000
theorem zaz {P:Program} {ops:Array Oper} {Q:Exit->Act->World->Prop} {l:List Oper} {a:Act} {w:World} (n:Nat) (I:Act->World->Prop)
  (h1:∀L2:List Oper,(∀a' w',I a' w'->wpList P ops Q L2 a' w')->wpList P ops Q (l.take n++L2) a w) (h2:∀a' w',I a' w'->wpList P ops Q (l.drop n) a' w'):wpList P ops Q l a w:=by
 have:=h1 (l.drop n) h2
 rwa [List.take_append_drop] at this
theorem zmf {α:Type} (a:α) (l m:List α):List.append (a::l) m=a::List.append l m:=rfl
theorem lapp_nil {α:Type} (m:List α):List.append [] m=m:=rfl
theorem zba {F:(Nat->Value)->Act} {a:Act} {Q:Prop} (h:a=F fun k=>a.tmps.toList.getD k undef) (q:Q):∃x,a=F x/\Q:=⟨_,h,q⟩
theorem zil {u0 u1 u2 u3 u4 u5 u6 u7 u8 u9 u10:Bool} {w:World} {d:Sd} {pq rq:Option Addr} {nu de:List Int} {x:Ex} {ps:Nat->Pt} {bs:Nat->Bd} (h1:Sl w (.slice d.aq d.an d.ac) nu) (h2:Sl w (.slice d.cq d.cn d.cc) de) (ln:nu.length<=1048576) (ld:de.length<=1048576) (hX:ExOk w x d.e) (hP:PtsOk w pq d.pon ps) (hB:BdsOk w rq d.arn bs) {ZA ZE:Bool} (hZA:decide (val nu=0)=ZA) (hZE:x.no=ZE)
  (hu0:Hid (∀z,Calls Tryz.prog 54 #[.int .i64 d.s.ru,.int .u8 110] z (Rt z (.bool u0))))
  (hu1:Hid (∀z,Calls Tryz.prog 54 #[.int .i64 d.s.ru,.int .u8 111] z (Rt z (.bool u1))))
  (hu2:Hid (∀z,Calls Tryz.prog 54 #[.int .i64 d.s.ru,.int .u8 97] z (Rt z (.bool u2))))
  (hu3:Hid (∀z,Calls Tryz.prog 54 #[.int .i64 d.s.ru,.int .u8 107] z (Rt z (.bool u3))))
  (hu4:Hid (∀z,Calls Tryz.prog 54 #[.int .i64 d.s.ru,.int .u8 99] z (Rt z (.bool u4))))
  (hu5:Hid (∀z,Calls Tryz.prog 54 #[.int .i64 d.s.ru,.int .u8 112] z (Rt z (.bool u5))))
  (hu6:Hid (∀z,Calls Tryz.prog 54 #[.int .i64 d.s.ru,.int .u8 101] z (Rt z (.bool u6))))
  (hu7:Hid (∀z,Calls Tryz.prog 54 #[.int .i64 d.s.ru,.int .u8 116] z (Rt z (.bool u7))))
  (hu8:Hid (∀z,Calls Tryz.prog 54 #[.int .i64 d.s.ru,.int .u8 121] z (Rt z (.bool u8))))
  (hu9:Hid (∀z,Calls Tryz.prog 54 #[.int .i64 d.s.ru,.int .u8 118] z (Rt z (.bool u9))))
  (gX:Hid (∀z,Calls Tryz.prog 54 #[.int .i64 d.s.ru,.int .u8 98] z (Rt z (.bool u10))))
  {z0 z1 z2 z3 z4 z5 z6 z7 z8 z9 z10:Bool} (e0:d.s.nm.toList.isEmpty=z0) (e1:d.s.ot.toList.isEmpty=z1) (e2:ZA=z2) (e3:(d.s.kk==0)=z3) (e4:(d.s.nn==0)=z4) (e5:(d.s.pr==0)=z5) (e6:ZE=z6) (e7:((d.pon:Int)==0)=z7) (e8:d.s.en.toList.isEmpty=z8) (e9:(d.s.ve==0)=z9) (e10:((d.arn:Int)==0)=z10)
  {R:Bool} (hR:((u0||z0)&&((u1||z1)&&((u2||z2)&&((u3||z3)&&((u4||z4)&&((u5||z5)&&((u6||z6)&&((u7||z7)&&((u8||z8)&&((u9||z9)&&(u10||z10)))))))))))=R):
  Calls Tryz.prog 100 #[.agg (sW d pq rq)] w (Rt w (.bool R)):=by
 have bN:Hid (Below w.heap.size w (w.alloc (.cells (sW d pq rq) 32))):=zaa w _
 have h70:Hid (∀z,Below w.heap.size w z->Calls Tryz.prog 182 #[.agg #[.bool d.s.g,.slice d.aq d.an d.ac,.slice d.cq d.cn d.cc]] z (Rt z (.bool z2))):=fun z hz=>by
  rw[<-e2,<-hZA]
  exact zgo (h1.below hz) (by omega)
 have h71:Hid (∀z,Below w.heap.size w z->Calls Tryz.prog 183 #[.agg #[.int .i64 d.e.k,.int .i64 d.e.f,.bool d.e.neg,.slice d.e.aq d.e.an d.e.ac,.slice d.e.cq d.e.cn d.e.cc,.string d.e.m,.slice d.e.sq d.e.sn d.e.sc]] z (Rt z (.bool z6))):=fun z hz=>by
  rw[<-e6,<-hZE]
  exact exNo_ok (hX.below hz)
 obtain⟨A0,hA0⟩:∃A,Hid ((u0||z0)=A):=⟨_,rfl⟩
 obtain⟨A1,hA1⟩:∃A,Hid ((A0&&(u1||z1))=A):=⟨_,rfl⟩
 obtain⟨A2,hA2⟩:∃A,Hid ((A1&&(u2||z2))=A):=⟨_,rfl⟩
 obtain⟨A3,hA3⟩:∃A,Hid ((A2&&(u3||z3))=A):=⟨_,rfl⟩
 obtain⟨A4,hA4⟩:∃A,Hid ((A3&&(u4||z4))=A):=⟨_,rfl⟩
 obtain⟨A5,hA5⟩:∃A,Hid ((A4&&(u5||z5))=A):=⟨_,rfl⟩
 obtain⟨A6,hA6⟩:∃A,Hid ((A5&&(u6||z6))=A):=⟨_,rfl⟩
 obtain⟨A7,hA7⟩:∃A,Hid ((A6&&(u7||z7))=A):=⟨_,rfl⟩
 obtain⟨A8,hA8⟩:∃A,Hid ((A7&&(u8||z8))=A):=⟨_,rfl⟩
 obtain⟨A9,hA9⟩:∃A,Hid ((A8&&(u9||z9))=A):=⟨_,rfl⟩
 obtain⟨A10,eS⟩:∃A,Hid ((A9&&(u10||z10))=A):=⟨_,rfl⟩
 have hAR:A10=R:=by
  rw[<-hR,<-eS.out,<-hA9.out,<-hA8.out,<-hA7.out,<-hA6.out,<-hA5.out,<-hA4.out,<-hA3.out,<-hA2.out,<-hA1.out,<-hA0.out]
  simp only[Bool.and_assoc]
 subst hAR
 clear hR hZA hZE e2 e6
 have x0:(w.alloc (.cells (sW d pq rq) 32)).cell? ⟨w.heap.size,0,none⟩=some (.int .i64 d.s.ru):=by simp
 have aj:Hid (∀z,Below (w.alloc (.cells (sW d pq rq) 32)).heap.size (w.alloc (.cells (sW d pq rq) 32)) z->z.cell? ⟨w.heap.size,1,none⟩=some (.string d.s.nm)/\z.cell? ⟨w.heap.size,2,none⟩=some (.string d.s.ot)/\z.cell? ⟨w.heap.size,3,none⟩=some (.bool d.s.g)/\z.cell? ⟨w.heap.size,4,none⟩=some (.slice d.aq d.an d.ac)/\z.cell? ⟨w.heap.size,5,none⟩=some (.slice d.cq d.cn d.cc)/\z.cell? ⟨w.heap.size,6,none⟩=some (.int .i64 d.s.kk)/\z.cell? ⟨w.heap.size,7,none⟩=some (.int .i64 d.s.nn)/\z.cell? ⟨w.heap.size,8,none⟩=some (.int .i64 d.s.pr)/\z.cell? ⟨w.heap.size,9,none⟩=some (.int .i64 d.e.k)/\z.cell? ⟨w.heap.size,10,none⟩=some (.int .i64 d.e.f)/\z.cell? ⟨w.heap.size,11,none⟩=some (.bool d.e.neg)/\z.cell? ⟨w.heap.size,12,none⟩=some (.slice d.e.aq d.e.an d.e.ac)/\z.cell? ⟨w.heap.size,13,none⟩=some (.slice d.e.cq d.e.cn d.e.cc)/\z.cell? ⟨w.heap.size,14,none⟩=some (.string d.e.m)/\z.cell? ⟨w.heap.size,15,none⟩=some (.slice d.e.sq d.e.sn d.e.sc)/\z.cell? ⟨w.heap.size,16,none⟩=some (.slice pq d.pon d.poc)/\z.cell? ⟨w.heap.size,17,none⟩=some (.string d.s.en)/\z.cell? ⟨w.heap.size,18,none⟩=some (.int .i64 d.s.ve)/\z.cell? ⟨w.heap.size,19,none⟩=some (.slice rq d.arn d.arc)):=fun z hz=>
  ⟨(hz.cell (by show w.heap.size<_;simp)).trans (by simp),(hz.cell (by show w.heap.size<_;simp)).trans (by simp),(hz.cell (by show w.heap.size<_;simp)).trans (by simp),(hz.cell (by show w.heap.size<_;simp)).trans (by simp),(hz.cell (by show w.heap.size<_;simp)).trans (by simp),(hz.cell (by show w.heap.size<_;simp)).trans (by simp),(hz.cell (by show w.heap.size<_;simp)).trans (by simp),(hz.cell (by show w.heap.size<_;simp)).trans (by simp),(hz.cell (by show w.heap.size<_;simp)).trans (by simp),(hz.cell (by show w.heap.size<_;simp)).trans (by simp),(hz.cell (by show w.heap.size<_;simp)).trans (by simp),(hz.cell (by show w.heap.size<_;simp)).trans (by simp),(hz.cell (by show w.heap.size<_;simp)).trans (by simp),(hz.cell (by show w.heap.size<_;simp)).trans (by simp),(hz.cell (by show w.heap.size<_;simp)).trans (by simp),(hz.cell (by show w.heap.size<_;simp)).trans (by simp),(hz.cell (by show w.heap.size<_;simp)).trans (by simp),(hz.cell (by show w.heap.size<_;simp)).trans (by simp),(hz.cell (by show w.heap.size<_;simp)).trans (by simp)⟩
 have hB:Hid (Below (w.alloc (.cells (sW d pq rq) 32)).heap.size (w.alloc (.cells (sW d pq rq) 32)) (w.alloc (.cells (sW d pq rq) 32))):=Below.refl _ _
 clear h1 h2 hX hP ln ld
 go_enter Tryz.func100,Tryz.ntmps100
 go_upto_region 2 with fail
 generalize (w.alloc (.cells (sW d pq rq) 32))=W0 at*
 clear x0
 apply wp_region_lit
 simp only[zmf,lapp_nil]
 refine zaz 8 (fun a wz=>∃x:Nat->Value,a=⟨List.toArray (x 0::(.pointer (some ⟨w.heap.size,0,none⟩))::x 2::(.int .i64 d.s.ru)::x 4::x 5::x 6::x 7::x 8::x 9::x 10::x 11::x 12::(.bool A0)::x 14::x 15::x 16::x 17::x 18::x 19::x 20::x 21::x 22::x 23::x 24::x 25::x 26::x 27::x 28::x 29::x 30::x 31::x 32::x 33::x 34::x 35::x 36::x 37::x 38::x 39::x 40::x 41::x 42::x 43::x 44::x 45::x 46::x 47::x 48::x 49::x 50::x 51::x 52::x 53::x 54::x 55::x 56::x 57::x 58::x 59::x 60::x 61::x 62::x 63::x 64::x 65::x 66::x 67::x 68::x 69::x 70::x 71::x 72::x 73::x 74::x 75::x 76::x 77::x 78::x 79::x 80::x 81::x 82::x 83::x 84::x 85::x 86::x 87::x 88::x 89::x 90::x 91::x 92::x 93::x 94::x 95::x 96::x 97::x 98::x 99::x 100::x 101::x 102::x 103::x 104::[]),[]⟩/\Hid (Below W0.heap.size W0 wz)) (fun L2 hL2=>?_) ?_
 ·show wpList Tryz.prog _ _ (_::_::_::_::_::_::_::_::L2) _ _
  cases u0 with
  | true=>
   have hAt:A0=true:=hA0.out.symm.trans (by simp)
   subst hAt
   go_wp2_with
    (first
      | (go_at_call 54;with_reducible refine(hu0.out _).mono ?_;rintro e wz ⟨rfl,hbz⟩
         have hB2:Hid (Below W0.heap.size W0 wz):=hB.out.trans (hbz.mono hB.out.size)
         clear hB hbz
         have hB:=hB2
         clear hB2
         have c1:=(aj.out wz hB.out).1))
   exact hL2 _ _ (zba rfl hB)
  | false=>
   have hAz:A0=z0:=hA0.out.symm.trans (by simp)
   subst hAz
   go_wp2_with
    (first
      | (go_at_call 54;with_reducible refine(hu0.out _).mono ?_;rintro e wz ⟨rfl,hbz⟩
         have hB2:Hid (Below W0.heap.size W0 wz):=hB.out.trans (hbz.mono hB.out.size)
         clear hB hbz
         have hB:=hB2
         clear hB2
         have c1:=(aj.out wz hB.out).1))
   exact hL2 _ _ (zba rfl hB)
 rintro a wz ⟨x,rfl,hB⟩
 refine zaz 9 (fun a wz=>∃x:Nat->Value,a=⟨List.toArray (x 0::(.pointer (some ⟨w.heap.size,0,none⟩))::x 2::(.int .i64 d.s.ru)::x 4::x 5::x 6::x 7::x 8::x 9::x 10::x 11::x 12::x 13::x 14::x 15::x 16::x 17::x 18::x 19::x 20::x 21::(.bool A1)::x 23::x 24::x 25::x 26::x 27::x 28::x 29::x 30::x 31::x 32::x 33::x 34::x 35::x 36::x 37::x 38::x 39::x 40::x 41::x 42::x 43::x 44::x 45::x 46::x 47::x 48::x 49::x 50::x 51::x 52::x 53::x 54::x 55::x 56::x 57::x 58::x 59::x 60::x 61::x 62::x 63::x 64::x 65::x 66::x 67::x 68::x 69::x 70::x 71::x 72::x 73::x 74::x 75::x 76::x 77::x 78::x 79::x 80::x 81::x 82::x 83::x 84::x 85::x 86::x 87::x 88::x 89::x 90::x 91::x 92::x 93::x 94::x 95::x 96::x 97::x 98::x 99::x 100::x 101::x 102::x 103::x 104::[]),[]⟩/\Hid (Below W0.heap.size W0 wz)) (fun L2 hL2=>?_) ?_
 ·show wpList Tryz.prog _ _ (_::_::_::_::_::_::_::_::_::L2) _ _
  cases A0 with
  | false=>
   have hAf:A1=false:=hA1.out.symm.trans (by simp)
   subst hAf
   go_wp2_with fail
   exact hL2 _ _ (zba rfl hB)
  | true=>
   cases u1 with
   | true=>
    have hAt:A1=true:=hA1.out.symm.trans (by simp)
    subst hAt
    go_wp2_with
     (first
       | (go_at_call 54;with_reducible refine(hu1.out _).mono ?_;rintro e wz ⟨rfl,hbz⟩
          have hB2:Hid (Below W0.heap.size W0 wz):=hB.out.trans (hbz.mono hB.out.size)
          clear hB hbz
          have hB:=hB2
          clear hB2
          have c2:=(aj.out wz hB.out).2.1))
    exact hL2 _ _ (zba rfl hB)
   | false=>
    have hAz:A1=z1:=hA1.out.symm.trans (by simp)
    subst hAz
    go_wp2_with
     (first
       | (go_at_call 54;with_reducible refine(hu1.out _).mono ?_;rintro e wz ⟨rfl,hbz⟩
          have hB2:Hid (Below W0.heap.size W0 wz):=hB.out.trans (hbz.mono hB.out.size)
          clear hB hbz
          have hB:=hB2
          clear hB2
          have c2:=(aj.out wz hB.out).2.1))
    exact hL2 _ _ (zba rfl hB)
 rintro a wz ⟨x,rfl,hB⟩
 refine zaz 9 (fun a wz=>∃x:Nat->Value,a=⟨List.toArray (x 0::(.pointer (some ⟨w.heap.size,0,none⟩))::x 2::(.int .i64 d.s.ru)::x 4::x 5::x 6::x 7::x 8::x 9::x 10::x 11::x 12::x 13::x 14::x 15::x 16::x 17::x 18::x 19::x 20::x 21::x 22::x 23::x 24::x 25::x 26::x 27::x 28::x 29::x 30::(.bool A2)::x 32::x 33::x 34::x 35::x 36::x 37::x 38::x 39::x 40::x 41::x 42::x 43::x 44::x 45::x 46::x 47::x 48::x 49::x 50::x 51::x 52::x 53::x 54::x 55::x 56::x 57::x 58::x 59::x 60::x 61::x 62::x 63::x 64::x 65::x 66::x 67::x 68::x 69::x 70::x 71::x 72::x 73::x 74::x 75::x 76::x 77::x 78::x 79::x 80::x 81::x 82::x 83::x 84::x 85::x 86::x 87::x 88::x 89::x 90::x 91::x 92::x 93::x 94::x 95::x 96::x 97::x 98::x 99::x 100::x 101::x 102::x 103::x 104::[]),[]⟩/\Hid (Below W0.heap.size W0 wz)) (fun L2 hL2=>?_) ?_
 ·show wpList Tryz.prog _ _ (_::_::_::_::_::_::_::_::_::L2) _ _
  cases A1 with
  | false=>
   have hAf:A2=false:=hA2.out.symm.trans (by simp)
   subst hAf
   go_wp2_with
    (first
      | (go_at_call 182;with_reducible refine(h70.out _ (bN.out.trans (hB.out.mono bN.out.size))).mono ?_;rintro e wy ⟨rfl,hbz⟩
         have hB2:Hid (Below W0.heap.size W0 wy):=hB.out.trans (hbz.mono hB.out.size)
         clear hB hbz
         have hB:=hB2
         clear hB2))
   exact hL2 _ _ (zba rfl hB)
  | true=>
   cases u2 with
   | true=>
    have hAt:A2=true:=hA2.out.symm.trans (by simp)
    subst hAt
    go_wp2_with
     (first
       | (go_at_call 54;with_reducible refine(hu2.out _).mono ?_;rintro e wz ⟨rfl,hbz⟩
          have hB2:Hid (Below W0.heap.size W0 wz):=hB.out.trans (hbz.mono hB.out.size)
          clear hB hbz
          have hB:=hB2
          clear hB2
          have c3:=(aj.out wz hB.out).2.2.1
          have c4:=(aj.out wz hB.out).2.2.2.1
          have c5:=(aj.out wz hB.out).2.2.2.2.1)
       | (go_at_call 182;with_reducible refine(h70.out _ (bN.out.trans (hB.out.mono bN.out.size))).mono ?_;rintro e wy ⟨rfl,hbz⟩
          have hB2:Hid (Below W0.heap.size W0 wy):=hB.out.trans (hbz.mono hB.out.size)
          clear hB hbz
          have hB:=hB2
          clear hB2))
    exact hL2 _ _ (zba rfl hB)
   | false=>
    have hAz:A2=z2:=hA2.out.symm.trans (by simp)
    subst hAz
    go_wp2_with
     (first
       | (go_at_call 54;with_reducible refine(hu2.out _).mono ?_;rintro e wz ⟨rfl,hbz⟩
          have hB2:Hid (Below W0.heap.size W0 wz):=hB.out.trans (hbz.mono hB.out.size)
          clear hB hbz
          have hB:=hB2
          clear hB2
          have c3:=(aj.out wz hB.out).2.2.1
          have c4:=(aj.out wz hB.out).2.2.2.1
          have c5:=(aj.out wz hB.out).2.2.2.2.1)
       | (go_at_call 182;with_reducible refine(h70.out _ (bN.out.trans (hB.out.mono bN.out.size))).mono ?_;rintro e wy ⟨rfl,hbz⟩
          have hB2:Hid (Below W0.heap.size W0 wy):=hB.out.trans (hbz.mono hB.out.size)
          clear hB hbz
          have hB:=hB2
          clear hB2))
    exact hL2 _ _ (zba rfl hB)
 rintro a wz ⟨x,rfl,hB⟩
 refine zaz 9 (fun a wz=>∃x:Nat->Value,a=⟨List.toArray (x 0::(.pointer (some ⟨w.heap.size,0,none⟩))::x 2::(.int .i64 d.s.ru)::x 4::x 5::x 6::x 7::x 8::x 9::x 10::x 11::x 12::x 13::x 14::x 15::x 16::x 17::x 18::x 19::x 20::x 21::x 22::x 23::x 24::x 25::x 26::x 27::x 28::x 29::x 30::x 31::x 32::x 33::x 34::x 35::x 36::x 37::x 38::x 39::(.bool A3)::x 41::x 42::x 43::x 44::x 45::x 46::x 47::x 48::x 49::x 50::x 51::x 52::x 53::x 54::x 55::x 56::x 57::x 58::x 59::x 60::x 61::x 62::x 63::x 64::x 65::x 66::x 67::x 68::x 69::x 70::x 71::x 72::x 73::x 74::x 75::x 76::x 77::x 78::x 79::x 80::x 81::x 82::x 83::x 84::x 85::x 86::x 87::x 88::x 89::x 90::x 91::x 92::x 93::x 94::x 95::x 96::x 97::x 98::x 99::x 100::x 101::x 102::x 103::x 104::[]),[]⟩/\Hid (Below W0.heap.size W0 wz)) (fun L2 hL2=>?_) ?_
 ·show wpList Tryz.prog _ _ (_::_::_::_::_::_::_::_::_::L2) _ _
  cases A2 with
  | false=>
   have hAf:A3=false:=hA3.out.symm.trans (by simp)
   subst hAf
   go_wp2_with fail
   exact hL2 _ _ (zba rfl hB)
  | true=>
   cases u3 with
   | true=>
    have hAt:A3=true:=hA3.out.symm.trans (by simp)
    subst hAt
    go_wp2_with
     (first
       | (go_at_call 54;with_reducible refine(hu3.out _).mono ?_;rintro e wz ⟨rfl,hbz⟩
          have hB2:Hid (Below W0.heap.size W0 wz):=hB.out.trans (hbz.mono hB.out.size)
          clear hB hbz
          have hB:=hB2
          clear hB2
          have c6:=(aj.out wz hB.out).2.2.2.2.2.1))
    exact hL2 _ _ (zba rfl hB)
   | false=>
    have hAz:A3=z3:=hA3.out.symm.trans (by simp)
    subst hAz
    go_wp2_with
     (first
       | (go_at_call 54;with_reducible refine(hu3.out _).mono ?_;rintro e wz ⟨rfl,hbz⟩
          have hB2:Hid (Below W0.heap.size W0 wz):=hB.out.trans (hbz.mono hB.out.size)
          clear hB hbz
          have hB:=hB2
          clear hB2
          have c6:=(aj.out wz hB.out).2.2.2.2.2.1))
    exact hL2 _ _ (zba rfl hB)
 rintro a wz ⟨x,rfl,hB⟩
 refine zaz 9 (fun a wz=>∃x:Nat->Value,a=⟨List.toArray (x 0::(.pointer (some ⟨w.heap.size,0,none⟩))::x 2::(.int .i64 d.s.ru)::x 4::x 5::x 6::x 7::x 8::x 9::x 10::x 11::x 12::x 13::x 14::x 15::x 16::x 17::x 18::x 19::x 20::x 21::x 22::x 23::x 24::x 25::x 26::x 27::x 28::x 29::x 30::x 31::x 32::x 33::x 34::x 35::x 36::x 37::x 38::x 39::x 40::x 41::x 42::x 43::x 44::x 45::x 46::x 47::x 48::(.bool A4)::x 50::x 51::x 52::x 53::x 54::x 55::x 56::x 57::x 58::x 59::x 60::x 61::x 62::x 63::x 64::x 65::x 66::x 67::x 68::x 69::x 70::x 71::x 72::x 73::x 74::x 75::x 76::x 77::x 78::x 79::x 80::x 81::x 82::x 83::x 84::x 85::x 86::x 87::x 88::x 89::x 90::x 91::x 92::x 93::x 94::x 95::x 96::x 97::x 98::x 99::x 100::x 101::x 102::x 103::x 104::[]),[]⟩/\Hid (Below W0.heap.size W0 wz)) (fun L2 hL2=>?_) ?_
 ·show wpList Tryz.prog _ _ (_::_::_::_::_::_::_::_::_::L2) _ _
  cases A3 with
  | false=>
   have hAf:A4=false:=hA4.out.symm.trans (by simp)
   subst hAf
   go_wp2_with fail
   exact hL2 _ _ (zba rfl hB)
  | true=>
   cases u4 with
   | true=>
    have hAt:A4=true:=hA4.out.symm.trans (by simp)
    subst hAt
    go_wp2_with
     (first
       | (go_at_call 54;with_reducible refine(hu4.out _).mono ?_;rintro e wz ⟨rfl,hbz⟩
          have hB2:Hid (Below W0.heap.size W0 wz):=hB.out.trans (hbz.mono hB.out.size)
          clear hB hbz
          have hB:=hB2
          clear hB2
          have c7:=(aj.out wz hB.out).2.2.2.2.2.2.1))
    exact hL2 _ _ (zba rfl hB)
   | false=>
    have hAz:A4=z4:=hA4.out.symm.trans (by simp)
    subst hAz
    go_wp2_with
     (first
       | (go_at_call 54;with_reducible refine(hu4.out _).mono ?_;rintro e wz ⟨rfl,hbz⟩
          have hB2:Hid (Below W0.heap.size W0 wz):=hB.out.trans (hbz.mono hB.out.size)
          clear hB hbz
          have hB:=hB2
          clear hB2
          have c7:=(aj.out wz hB.out).2.2.2.2.2.2.1))
    exact hL2 _ _ (zba rfl hB)
 rintro a wz ⟨x,rfl,hB⟩
 refine zaz 9 (fun a wz=>∃x:Nat->Value,a=⟨List.toArray (x 0::(.pointer (some ⟨w.heap.size,0,none⟩))::x 2::(.int .i64 d.s.ru)::x 4::x 5::x 6::x 7::x 8::x 9::x 10::x 11::x 12::x 13::x 14::x 15::x 16::x 17::x 18::x 19::x 20::x 21::x 22::x 23::x 24::x 25::x 26::x 27::x 28::x 29::x 30::x 31::x 32::x 33::x 34::x 35::x 36::x 37::x 38::x 39::x 40::x 41::x 42::x 43::x 44::x 45::x 46::x 47::x 48::x 49::x 50::x 51::x 52::x 53::x 54::x 55::x 56::x 57::(.bool A5)::x 59::x 60::x 61::x 62::x 63::x 64::x 65::x 66::x 67::x 68::x 69::x 70::x 71::x 72::x 73::x 74::x 75::x 76::x 77::x 78::x 79::x 80::x 81::x 82::x 83::x 84::x 85::x 86::x 87::x 88::x 89::x 90::x 91::x 92::x 93::x 94::x 95::x 96::x 97::x 98::x 99::x 100::x 101::x 102::x 103::x 104::[]),[]⟩/\Hid (Below W0.heap.size W0 wz)) (fun L2 hL2=>?_) ?_
 ·show wpList Tryz.prog _ _ (_::_::_::_::_::_::_::_::_::L2) _ _
  cases A4 with
  | false=>
   have hAf:A5=false:=hA5.out.symm.trans (by simp)
   subst hAf
   go_wp2_with fail
   exact hL2 _ _ (zba rfl hB)
  | true=>
   cases u5 with
   | true=>
    have hAt:A5=true:=hA5.out.symm.trans (by simp)
    subst hAt
    go_wp2_with
     (first
       | (go_at_call 54;with_reducible refine(hu5.out _).mono ?_;rintro e wz ⟨rfl,hbz⟩
          have hB2:Hid (Below W0.heap.size W0 wz):=hB.out.trans (hbz.mono hB.out.size)
          clear hB hbz
          have hB:=hB2
          clear hB2
          have c8:=(aj.out wz hB.out).2.2.2.2.2.2.2.1))
    exact hL2 _ _ (zba rfl hB)
   | false=>
    have hAz:A5=z5:=hA5.out.symm.trans (by simp)
    subst hAz
    go_wp2_with
     (first
       | (go_at_call 54;with_reducible refine(hu5.out _).mono ?_;rintro e wz ⟨rfl,hbz⟩
          have hB2:Hid (Below W0.heap.size W0 wz):=hB.out.trans (hbz.mono hB.out.size)
          clear hB hbz
          have hB:=hB2
          clear hB2
          have c8:=(aj.out wz hB.out).2.2.2.2.2.2.2.1))
    exact hL2 _ _ (zba rfl hB)
 rintro a wz ⟨x,rfl,hB⟩
 refine zaz 9 (fun a wz=>∃x:Nat->Value,a=⟨List.toArray (x 0::(.pointer (some ⟨w.heap.size,0,none⟩))::x 2::(.int .i64 d.s.ru)::x 4::x 5::x 6::x 7::x 8::x 9::x 10::x 11::x 12::x 13::x 14::x 15::x 16::x 17::x 18::x 19::x 20::x 21::x 22::x 23::x 24::x 25::x 26::x 27::x 28::x 29::x 30::x 31::x 32::x 33::x 34::x 35::x 36::x 37::x 38::x 39::x 40::x 41::x 42::x 43::x 44::x 45::x 46::x 47::x 48::x 49::x 50::x 51::x 52::x 53::x 54::x 55::x 56::x 57::x 58::x 59::x 60::x 61::x 62::x 63::x 64::x 65::x 66::(.bool A6)::x 68::x 69::x 70::x 71::x 72::x 73::x 74::x 75::x 76::x 77::x 78::x 79::x 80::x 81::x 82::x 83::x 84::x 85::x 86::x 87::x 88::x 89::x 90::x 91::x 92::x 93::x 94::x 95::x 96::x 97::x 98::x 99::x 100::x 101::x 102::x 103::x 104::[]),[]⟩/\Hid (Below W0.heap.size W0 wz)) (fun L2 hL2=>?_) ?_
 ·show wpList Tryz.prog _ _ (_::_::_::_::_::_::_::_::_::L2) _ _
  cases A5 with
  | false=>
   have hAf:A6=false:=hA6.out.symm.trans (by simp)
   subst hAf
   go_wp2_with
    (first
      | (go_at_call 183;with_reducible refine(h71.out _ (bN.out.trans (hB.out.mono bN.out.size))).mono ?_;rintro e wy ⟨rfl,hbz⟩
         have hB2:Hid (Below W0.heap.size W0 wy):=hB.out.trans (hbz.mono hB.out.size)
         clear hB hbz
         have hB:=hB2
         clear hB2))
   exact hL2 _ _ (zba rfl hB)
  | true=>
   cases u6 with
   | true=>
    have hAt:A6=true:=hA6.out.symm.trans (by simp)
    subst hAt
    go_wp2_with
     (first
       | (go_at_call 54;with_reducible refine(hu6.out _).mono ?_;rintro e wz ⟨rfl,hbz⟩
          have hB2:Hid (Below W0.heap.size W0 wz):=hB.out.trans (hbz.mono hB.out.size)
          clear hB hbz
          have hB:=hB2
          clear hB2
          have c9:=(aj.out wz hB.out).2.2.2.2.2.2.2.2.1
          have c10:=(aj.out wz hB.out).2.2.2.2.2.2.2.2.2.1
          have c11:=(aj.out wz hB.out).2.2.2.2.2.2.2.2.2.2.1
          have c12:=(aj.out wz hB.out).2.2.2.2.2.2.2.2.2.2.2.1
          have c13:=(aj.out wz hB.out).2.2.2.2.2.2.2.2.2.2.2.2.1
          have c14:=(aj.out wz hB.out).2.2.2.2.2.2.2.2.2.2.2.2.2.1
          have c15:=(aj.out wz hB.out).2.2.2.2.2.2.2.2.2.2.2.2.2.2.1)
       | (go_at_call 183;with_reducible refine(h71.out _ (bN.out.trans (hB.out.mono bN.out.size))).mono ?_;rintro e wy ⟨rfl,hbz⟩
          have hB2:Hid (Below W0.heap.size W0 wy):=hB.out.trans (hbz.mono hB.out.size)
          clear hB hbz
          have hB:=hB2
          clear hB2))
    exact hL2 _ _ (zba rfl hB)
   | false=>
    have hAz:A6=z6:=hA6.out.symm.trans (by simp)
    subst hAz
    go_wp2_with
     (first
       | (go_at_call 54;with_reducible refine(hu6.out _).mono ?_;rintro e wz ⟨rfl,hbz⟩
          have hB2:Hid (Below W0.heap.size W0 wz):=hB.out.trans (hbz.mono hB.out.size)
          clear hB hbz
          have hB:=hB2
          clear hB2
          have c9:=(aj.out wz hB.out).2.2.2.2.2.2.2.2.1
          have c10:=(aj.out wz hB.out).2.2.2.2.2.2.2.2.2.1
          have c11:=(aj.out wz hB.out).2.2.2.2.2.2.2.2.2.2.1
          have c12:=(aj.out wz hB.out).2.2.2.2.2.2.2.2.2.2.2.1
          have c13:=(aj.out wz hB.out).2.2.2.2.2.2.2.2.2.2.2.2.1
          have c14:=(aj.out wz hB.out).2.2.2.2.2.2.2.2.2.2.2.2.2.1
          have c15:=(aj.out wz hB.out).2.2.2.2.2.2.2.2.2.2.2.2.2.2.1)
       | (go_at_call 183;with_reducible refine(h71.out _ (bN.out.trans (hB.out.mono bN.out.size))).mono ?_;rintro e wy ⟨rfl,hbz⟩
          have hB2:Hid (Below W0.heap.size W0 wy):=hB.out.trans (hbz.mono hB.out.size)
          clear hB hbz
          have hB:=hB2
          clear hB2))
    exact hL2 _ _ (zba rfl hB)
 rintro a wz ⟨x,rfl,hB⟩
 refine zaz 10 (fun a wz=>∃x:Nat->Value,a=⟨List.toArray (x 0::(.pointer (some ⟨w.heap.size,0,none⟩))::x 2::(.int .i64 d.s.ru)::x 4::x 5::x 6::x 7::x 8::x 9::x 10::x 11::x 12::x 13::x 14::x 15::x 16::x 17::x 18::x 19::x 20::x 21::x 22::x 23::x 24::x 25::x 26::x 27::x 28::x 29::x 30::x 31::x 32::x 33::x 34::x 35::x 36::x 37::x 38::x 39::x 40::x 41::x 42::x 43::x 44::x 45::x 46::x 47::x 48::x 49::x 50::x 51::x 52::x 53::x 54::x 55::x 56::x 57::x 58::x 59::x 60::x 61::x 62::x 63::x 64::x 65::x 66::x 67::x 68::x 69::x 70::x 71::x 72::x 73::x 74::x 75::x 76::(.bool A7)::x 78::x 79::x 80::x 81::x 82::x 83::x 84::x 85::x 86::x 87::x 88::x 89::x 90::x 91::x 92::x 93::x 94::x 95::x 96::x 97::x 98::x 99::x 100::x 101::x 102::x 103::x 104::[]),[]⟩/\Hid (Below W0.heap.size W0 wz)) (fun L2 hL2=>?_) ?_
 ·show wpList Tryz.prog _ _ (_::_::_::_::_::_::_::_::_::_::L2) _ _
  cases A6 with
  | false=>
   have hAf:A7=false:=hA7.out.symm.trans (by simp)
   subst hAf
   go_wp2_with fail
   exact hL2 _ _ (zba rfl hB)
  | true=>
   cases u7 with
   | true=>
    have hAt:A7=true:=hA7.out.symm.trans (by simp)
    subst hAt
    go_wp2_with
     (first
       | (go_at_call 54;with_reducible refine(hu7.out _).mono ?_;rintro e wz ⟨rfl,hbz⟩
          have hB2:Hid (Below W0.heap.size W0 wz):=hB.out.trans (hbz.mono hB.out.size)
          clear hB hbz
          have hB:=hB2
          clear hB2
          have c16:=(aj.out wz hB.out).2.2.2.2.2.2.2.2.2.2.2.2.2.2.2.1))
    exact hL2 _ _ (zba rfl hB)
   | false=>
    have hAz:A7=z7:=hA7.out.symm.trans (by simp)
    subst hAz
    go_wp2_with
     (first
       | (go_at_call 54;with_reducible refine(hu7.out _).mono ?_;rintro e wz ⟨rfl,hbz⟩
          have hB2:Hid (Below W0.heap.size W0 wz):=hB.out.trans (hbz.mono hB.out.size)
          clear hB hbz
          have hB:=hB2
          clear hB2
          have c16:=(aj.out wz hB.out).2.2.2.2.2.2.2.2.2.2.2.2.2.2.2.1))
    exact hL2 _ _ (zba rfl hB)
 rintro a wz ⟨x,rfl,hB⟩
 refine zaz 9 (fun a wz=>∃x:Nat->Value,a=⟨List.toArray (x 0::(.pointer (some ⟨w.heap.size,0,none⟩))::x 2::(.int .i64 d.s.ru)::x 4::x 5::x 6::x 7::x 8::x 9::x 10::x 11::x 12::x 13::x 14::x 15::x 16::x 17::x 18::x 19::x 20::x 21::x 22::x 23::x 24::x 25::x 26::x 27::x 28::x 29::x 30::x 31::x 32::x 33::x 34::x 35::x 36::x 37::x 38::x 39::x 40::x 41::x 42::x 43::x 44::x 45::x 46::x 47::x 48::x 49::x 50::x 51::x 52::x 53::x 54::x 55::x 56::x 57::x 58::x 59::x 60::x 61::x 62::x 63::x 64::x 65::x 66::x 67::x 68::x 69::x 70::x 71::x 72::x 73::x 74::x 75::x 76::x 77::x 78::x 79::x 80::x 81::x 82::x 83::x 84::x 85::(.bool A8)::x 87::x 88::x 89::x 90::x 91::x 92::x 93::x 94::x 95::x 96::x 97::x 98::x 99::x 100::x 101::x 102::x 103::x 104::[]),[]⟩/\Hid (Below W0.heap.size W0 wz)) (fun L2 hL2=>?_) ?_
 ·show wpList Tryz.prog _ _ (_::_::_::_::_::_::_::_::_::L2) _ _
  cases A7 with
  | false=>
   have hAf:A8=false:=hA8.out.symm.trans (by simp)
   subst hAf
   go_wp2_with fail
   exact hL2 _ _ (zba rfl hB)
  | true=>
   cases u8 with
   | true=>
    have hAt:A8=true:=hA8.out.symm.trans (by simp)
    subst hAt
    go_wp2_with
     (first
       | (go_at_call 54;with_reducible refine(hu8.out _).mono ?_;rintro e wz ⟨rfl,hbz⟩
          have hB2:Hid (Below W0.heap.size W0 wz):=hB.out.trans (hbz.mono hB.out.size)
          clear hB hbz
          have hB:=hB2
          clear hB2
          have c17:=(aj.out wz hB.out).2.2.2.2.2.2.2.2.2.2.2.2.2.2.2.2.1))
    exact hL2 _ _ (zba rfl hB)
   | false=>
    have hAz:A8=z8:=hA8.out.symm.trans (by simp)
    subst hAz
    go_wp2_with
     (first
       | (go_at_call 54;with_reducible refine(hu8.out _).mono ?_;rintro e wz ⟨rfl,hbz⟩
          have hB2:Hid (Below W0.heap.size W0 wz):=hB.out.trans (hbz.mono hB.out.size)
          clear hB hbz
          have hB:=hB2
          clear hB2
          have c17:=(aj.out wz hB.out).2.2.2.2.2.2.2.2.2.2.2.2.2.2.2.2.1))
    exact hL2 _ _ (zba rfl hB)
 rintro a wz ⟨x,rfl,hB⟩
 refine zaz 9 (fun a wz=>∃x:Nat->Value,a=⟨List.toArray (x 0::(.pointer (some ⟨w.heap.size,0,none⟩))::x 2::(.int .i64 d.s.ru)::x 4::x 5::x 6::x 7::x 8::x 9::x 10::x 11::x 12::x 13::x 14::x 15::x 16::x 17::x 18::x 19::x 20::x 21::x 22::x 23::x 24::x 25::x 26::x 27::x 28::x 29::x 30::x 31::x 32::x 33::x 34::x 35::x 36::x 37::x 38::x 39::x 40::x 41::x 42::x 43::x 44::x 45::x 46::x 47::x 48::x 49::x 50::x 51::x 52::x 53::x 54::x 55::x 56::x 57::x 58::x 59::x 60::x 61::x 62::x 63::x 64::x 65::x 66::x 67::x 68::x 69::x 70::x 71::x 72::x 73::x 74::x 75::x 76::x 77::x 78::x 79::x 80::x 81::x 82::x 83::x 84::x 85::x 86::x 87::x 88::x 89::x 90::x 91::x 92::x 93::x 94::(.bool A9)::x 96::x 97::x 98::x 99::x 100::x 101::x 102::x 103::x 104::[]),[]⟩/\Hid (Below W0.heap.size W0 wz)) (fun L2 hL2=>?_) ?_
 ·show wpList Tryz.prog _ _ (_::_::_::_::_::_::_::_::_::L2) _ _
  cases A8 with
  | false=>
   have hAf:A9=false:=hA9.out.symm.trans (by simp)
   subst hAf
   go_wp2_with fail
   exact hL2 _ _ (zba rfl hB)
  | true=>
   cases u9 with
   | true=>
    have hAt:A9=true:=hA9.out.symm.trans (by simp)
    subst hAt
    go_wp2_with
     (first
       | (go_at_call 54;with_reducible refine(hu9.out _).mono ?_;rintro e wz ⟨rfl,hbz⟩
          have hB2:Hid (Below W0.heap.size W0 wz):=hB.out.trans (hbz.mono hB.out.size)
          clear hB hbz
          have hB:=hB2
          clear hB2
          have c18:=(aj.out wz hB.out).2.2.2.2.2.2.2.2.2.2.2.2.2.2.2.2.2.1))
    exact hL2 _ _ (zba rfl hB)
   | false=>
    have hAz:A9=z9:=hA9.out.symm.trans (by simp)
    subst hAz
    go_wp2_with
     (first
       | (go_at_call 54;with_reducible refine(hu9.out _).mono ?_;rintro e wz ⟨rfl,hbz⟩
          have hB2:Hid (Below W0.heap.size W0 wz):=hB.out.trans (hbz.mono hB.out.size)
          clear hB hbz
          have hB:=hB2
          clear hB2
          have c18:=(aj.out wz hB.out).2.2.2.2.2.2.2.2.2.2.2.2.2.2.2.2.2.1))
    exact hL2 _ _ (zba rfl hB)
 rintro a wz ⟨x,rfl,hB⟩
 refine zaz 10 (fun a wz=>∃x:Nat->Value,a=⟨List.toArray (x 0::(.pointer (some ⟨w.heap.size,0,none⟩))::(.bool A10)::(.int .i64 d.s.ru)::x 4::x 5::x 6::x 7::x 8::x 9::x 10::x 11::x 12::x 13::x 14::x 15::x 16::x 17::x 18::x 19::x 20::x 21::x 22::x 23::x 24::x 25::x 26::x 27::x 28::x 29::x 30::x 31::x 32::x 33::x 34::x 35::x 36::x 37::x 38::x 39::x 40::x 41::x 42::x 43::x 44::x 45::x 46::x 47::x 48::x 49::x 50::x 51::x 52::x 53::x 54::x 55::x 56::x 57::x 58::x 59::x 60::x 61::x 62::x 63::x 64::x 65::x 66::x 67::x 68::x 69::x 70::x 71::x 72::x 73::x 74::x 75::x 76::x 77::x 78::x 79::x 80::x 81::x 82::x 83::x 84::x 85::x 86::x 87::x 88::x 89::x 90::x 91::x 92::x 93::x 94::x 95::x 96::x 97::x 98::x 99::x 100::x 101::x 102::x 103::(.bool A10)::[]),[]⟩/\Hid (Below W0.heap.size W0 wz)) (fun L2 hL2=>?_) ?_
 ·show wpList Tryz.prog _ _ (_::_::_::_::_::_::_::_::_::_::L2) _ _
  cases A9 with
  | false=>
   have hAf:A10=false:=eS.out.symm.trans (by simp)
   subst hAf
   go_wp2_with fail
   exact hL2 _ _ (zba rfl hB)
  | true=>
   cases u10 with
   | true=>
    have hAt:A10=true:=eS.out.symm.trans (by simp)
    subst hAt
    go_wp2_with
     (first
       | (go_at_call 54;with_reducible refine(gX.out _).mono ?_;rintro e wz ⟨rfl,hbz⟩
          have hB2:Hid (Below W0.heap.size W0 wz):=hB.out.trans (hbz.mono hB.out.size)
          clear hB hbz
          have hB:=hB2
          clear hB2
          have c19:=(aj.out wz hB.out).2.2.2.2.2.2.2.2.2.2.2.2.2.2.2.2.2.2))
    exact hL2 _ _ (zba rfl hB)
   | false=>
    have hAz:A10=z10:=eS.out.symm.trans (by simp)
    subst hAz
    go_wp2_with
     (first
       | (go_at_call 54;with_reducible refine(gX.out _).mono ?_;rintro e wz ⟨rfl,hbz⟩
          have hB2:Hid (Below W0.heap.size W0 wz):=hB.out.trans (hbz.mono hB.out.size)
          clear hB hbz
          have hB:=hB2
          clear hB2
          have c19:=(aj.out wz hB.out).2.2.2.2.2.2.2.2.2.2.2.2.2.2.2.2.2.2))
    exact hL2 _ _ (zba rfl hB)
 rintro a wz ⟨x,rfl,hB⟩
 show wpList Tryz.prog _ _ [] _ _
 apply wpList_nil
 go_wp2_with fail
 go_ret
 exact⟨rfl,bN.out.trans (hB.out.mono bN.out.size)⟩
end Go.Proofs.YtnnhofmknilopaaGreatDoor
