import Derived.Test.YtfhjhnofkaiceaaGreatDoorDvR
namespace Go.Proofs.YtfhjhnofkaiceaaGreatDoor
open Go Go.RowKit
theorem zcn (n:ByteArray) (v:Int):∀u∈[Value.string n,Value.int .i64 v],u.oneCell'=true:=fun u hu=>zaq [(n,v)] u (by simpa [kcells] using hu)
theorem zan {w w':World} (h:Below w.drew.heap.size w.drew w'):Below w.heap.size w w':=⟨h.os,h.tape,h.output,h.size,h.block⟩
set_option maxRecDepth 100000 in
set_option maxHeartbeats 4000000 in
theorem zdq {w:World} (k:Ky) (b o n c:Nat) (L:List Ky) (hL:L.length=n) (hnc:n<=c) (hcm:c<=maxLen) (hn:n<=1048576) (hb:b<w.heap.size) (hx:∀i a,L[i]?=some a->w.rangeAt b (o+i*2) (kcells a)):
  Calls Tryz.prog 30 #[.slice (some ⟨b,o,none⟩) n c,.agg #[.string k.1,.int .i64 k.2]] w fun e w'=>∃q c',e=.returned (.slice q (insK k L).length c')/\KsOk w' q (insK k L).length c' (insK k L)/\Below w.heap.size w w':=by
 obtain⟨i0,hi,hz0,hz1,hz2⟩:=info_parts (show(Tryz.prog.info? 24).map (fun i=>(i.zero,i.size,i.bytes))=some (some (.agg #[.string ⟨#[]⟩,.int .i64 0]),2,24) by kernel_rfl)
 obtain⟨kn,kv⟩:=k
 have hx':Hid (∀i a,L[i]?=some a->w.rangeAt b (o+i*2) (kcells a)):=hx
 clear hx
 go_enter Tryz.func30,Tryz.ntmps30
 go_wp2_with fail
 generalize hw1:w.alloc _=w1
 have hW1:Below w.heap.size w w1:=by rw[<-hw1];exact zaa _ _
 have hz1':w1.heap.size=w.heap.size+1:=by rw[<-hw1];simp
 have c0:w1.cell? ⟨w.heap.size,0,none⟩=some (.string kn):=by rw[<-hw1];simp
 have c1:w1.cell? ⟨w.heap.size,1,none⟩=some (.int .i64 kv):=by rw[<-hw1];simp
 have s1:w.heap.size+1<=w1.heap.size:=by omega
 clear hw1 hz1'
 go_loopw [5] (fun i wr=>∃j:Nat,j<=n/\i=.int .i64 j/\(∀x∈L.take j,ltK x (kn,kv))/\Below w.heap.size w wr/\wr.cell? ⟨w.heap.size,0,none⟩=some (.string kn)/\wr.cell? ⟨w.heap.size,1,none⟩=some (.int .i64 kv)/\w.heap.size+1<=wr.heap.size) (fun i _=>n - (intOf i).toNat)
 case atStart=>exact⟨0,Nat.zero_le _,rfl,fun x h=>by simp at h,hW1,c0,c1,s1⟩
 case round=>
  clear c0 c1 hW1 s1
  obtain⟨j,hj,rfl,hlow,hbw,c0,c1,hsz⟩:=hrel
  have hlow':Hid (∀x∈L.take j,ltK x (kn,kv)):=hlow
  clear hlow
  by_cases hjn:j<n
  ·have hjn':(j:Int)<(n:Int):=by omega
   obtain⟨a,ha⟩:∃a,L[j]?=some a:=⟨_,List.getElem?_eq_getElem (by omega)⟩
   have ha':Hid (L[j]?=some a):=ha
   have hr:=rangeAt_below (hx'.out j a ha) hbw hb
   have d0:=hr 0 _ rfl
   have d1:=hr 1 _ rfl
   rw[Nat.add_zero] at d0
   have hbf:=zfp a (kn,kv)
   clear ha hr
   obtain⟨an,av⟩:=a
   simp only at d0 d1 hbf
   have hws:=hbw.size
   have hS:(fun z:World=>z.cell? ⟨w.heap.size,0,none⟩=some (.string kn)/\z.cell? ⟨w.heap.size,1,none⟩=some (.int .i64 kv)/\z.cell? ⟨b,o+j*2,none⟩=some (.string an)/\z.cell? ⟨b,o+j*2+1,none⟩=some (.int .i64 av)) wr.drew:=⟨c0,c1,d0,d1⟩
   have hSk:∀z,Below wr.drew.heap.size wr.drew z->(fun z:World=>z.cell? ⟨w.heap.size,0,none⟩=some (.string kn)/\z.cell? ⟨w.heap.size,1,none⟩=some (.int .i64 kv)/\z.cell? ⟨b,o+j*2,none⟩=some (.string an)/\z.cell? ⟨b,o+j*2+1,none⟩=some (.int .i64 av)) z:=fun z hz=>
    ⟨(hz.cell (by show w.heap.size<wr.heap.size;omega)).trans c0,(hz.cell (by show w.heap.size<wr.heap.size;omega)).trans c1,(hz.cell (by show b<wr.heap.size;omega)).trans d0,(hz.cell (by show b<wr.heap.size;omega)).trans d1⟩
   by_cases hlt:ltK (an,av) (kn,kv)
   ·have hbf':∀z,Calls Tryz.prog 46 #[.agg #[.string an,.int .i64 av],.agg #[.string kn,.int .i64 kv]] z fun e w'=>e=.returned (.bool true)/\Below z.heap.size z w':=fun z=>by
     refine(hbf z).mono ?_
     rintro e w' ⟨rfl,h⟩
     exact⟨by rw[decide_eq_true hlt],h⟩
    clear hbf
    go_wp2_with fail
    go_region_held3 (fun z=>z.cell? ⟨w.heap.size,0,none⟩=some (.string kn)/\z.cell? ⟨w.heap.size,1,none⟩=some (.int .i64 kv)/\z.cell? ⟨b,o+j*2,none⟩=some (.string an)/\z.cell? ⟨b,o+j*2+1,none⟩=some (.int .i64 av)) (first | exact hS | exact hS2)
     (first | (go_at_call 46;with_reducible refine(hbf' _).mono ?_;rintro e w2 ⟨rfl,hb2⟩;have hS2:=hSk _ hb2))
    go_wp2_with fail
    go_roundw
    case rel=>
     refine⟨j+1,by omega,by go_num,fun x h=>?_,hbw.trans ((zan hb2).mono hws),hS2.1,hS2.2.1,Nat.le_trans hsz hb2.size⟩
     rw[List.take_add_one,ha'.out] at h
     rcases List.mem_append.1 h with h | h
     ·exact hlow'.out x h
     ·simp at h
      rw[h]
      exact hlt
    case measure=>simp[intOf];omega
   ·have hbf':∀z,Calls Tryz.prog 46 #[.agg #[.string an,.int .i64 av],.agg #[.string kn,.int .i64 kv]] z fun e w'=>e=.returned (.bool false)/\Below z.heap.size z w':=fun z=>by
     refine(hbf z).mono ?_
     rintro e w' ⟨rfl,h⟩
     exact⟨by rw[decide_eq_false hlt],h⟩
    have hstop:∀a,L[j]?=some a->¬ltK a (kn,kv):=fun a h=>by
     rw[ha'.out] at h
     cases h
     exact hlt
    have hstop':Hid (∀a,L[j]?=some a->¬ltK a (kn,kv)):=hstop
    clear hbf hstop
    by_cases he:an.toList=kn.toList/\av=kv
    ·obtain⟨he1,rfl⟩:=he
     have hek:Hid (L[j]?=some (kn,av)):=by show L[j]?=some (kn,av);rw[ha'.out,zaz he1]
     have heb:(an.toList==kn.toList)=true:=by simpa using he1
     go_wp2_with fail
     go_region_held3 (fun z=>z.cell? ⟨w.heap.size,0,none⟩=some (.string kn)/\z.cell? ⟨w.heap.size,1,none⟩=some (.int .i64 av)/\z.cell? ⟨b,o+j*2,none⟩=some (.string an)/\z.cell? ⟨b,o+j*2+1,none⟩=some (.int .i64 av)) (first | exact hS | exact hS2)
      (first | (go_at_call 46;with_reducible refine(hbf' _).mono ?_;rintro e w2 ⟨rfl,hb2⟩;have hS2:=hSk _ hb2))
     obtain⟨t0,t1,t2,t3⟩:=hS2
     go_wp2_with fail
     go_quiet (fail)
     go_wp2_with fail
     go_ret
     have hsame:insK (kn,av) L=L:=by rw[zax (kn,av) L j hlow'.out hstop'.out (by omega),if_pos hek.out]
     rw[hsame,hL]
     have Wb2:Below w.heap.size w w2:=hbw.trans ((zan hb2).mono hws)
     refine⟨_,c,rfl,⟨hL,hnc,hcm,.inr ⟨b,o,rfl,?_,fun i a h=>?_⟩⟩,below_drewN Wb2 _⟩
     ·exact Nat.lt_of_lt_of_le hb Wb2.size
     ·exact rangeAt_below (hx'.out i a h) (below_drewN Wb2 _) hb
    ·have hne:¬L[j]?=some (kn,kv):=fun h=>by
      rw[ha'.out] at h
      cases h
      exact he ⟨rfl,rfl⟩
     have hd:(an.toList==kn.toList)=false\/((an.toList==kn.toList)=true/\¬av=kv):=by
      by_cases h1:an.toList=kn.toList
      ·exact .inr ⟨by simpa using h1,fun h2=>he ⟨h1,h2⟩⟩
      ·exact .inl (by simpa using h1)
     clear he
     rcases hd with heb | ⟨heb,hav⟩
     all_goals
      go_wp2_with fail
      go_region_held3 (fun z=>z.cell? ⟨w.heap.size,0,none⟩=some (.string kn)/\z.cell? ⟨w.heap.size,1,none⟩=some (.int .i64 kv)/\z.cell? ⟨b,o+j*2,none⟩=some (.string an)/\z.cell? ⟨b,o+j*2+1,none⟩=some (.int .i64 av)) (first | exact hS | exact hS2)
       (first | (go_at_call 46;with_reducible refine(hbf' _).mono ?_;rintro e w2 ⟨rfl,hb2⟩;have hS2:=hSk _ hb2))
      obtain⟨t0,t1,t2,t3⟩:=hS2
      go_wp2_with fail
      go_quiet (fail)
      have Wb2:Below w.heap.size w w2:=hbw.trans ((zan hb2).mono hws)
      have ws2:w.heap.size+1<=w2.heap.size:=Nat.le_trans hsz hb2.size
      have hstop:=hstop'.out
      generalize hW:World.drewN w2 _=W at*
      have Wb:Below w.heap.size w W:=by rw[<-hW];exact below_drewN Wb2 _
      have C0:W.cell? ⟨w.heap.size,0,none⟩=some (.string kn):=by rw[<-hW];exact t0
      have C1:W.cell? ⟨w.heap.size,1,none⟩=some (.int .i64 kv):=by rw[<-hW];exact t1
      have Ws:w.heap.size+1<=W.heap.size:=by rw[<-hW];exact ws2
      have HR:∀i a,L[i]?=some a->W.rangeAt b (o+i*2) (kcells a):=fun i a h=>rangeAt_below (hx'.out i a h) Wb hb
      have e0:Hid ((W.alloc (.cells #[] 24)).ownsRow W.heap.size 24 2 (.slice (some ⟨W.heap.size,0,none⟩) 0 0) 0 []):=zay W 24 2
      have n1:Hid (∀q u,((L.take j).flatMap kcells)[q]?=some u->(W.alloc (.cells #[] 24)).cell? ((⟨b,o,none⟩:Addr).add q)=some u):=zbk fun i a h=>World.rangeAt_alloc (HR i a (by rw[List.getElem?_take] at h;split at h<;>first | exact h | cases h)) _
      have n3:∀z,Below W.heap.size W z->∀q u,((L.drop j).flatMap kcells)[q]?=some u->z.cell? ((⟨b,o+j*2,none⟩:Addr).add q)=some u:=fun z hz=>zbk fun i a h=>by
       rw[List.getElem?_drop] at h
       have:=rangeAt_below (HR (j+i) a h) hz (by omega:b<W.heap.size)
       rwa [Nat.add_mul,<-Nat.add_assoc] at this
      have C0':∀ob,(W.alloc ob).cell? ⟨w.heap.size,0,none⟩=some (.string kn):=fun ob=>(World.cell?_alloc_lt _ _ _ (by show w.heap.size<_;omega)).trans C0
      have C1':∀ob,(W.alloc ob).cell? ⟨w.heap.size,1,none⟩=some (.int .i64 kv):=fun ob=>(World.cell?_alloc_lt _ _ _ (by show w.heap.size<_;omega)).trans C1
      clear hW HR
      have n3':=n3
      have ltk:(L.take j).length=j:=by simp;omega
      have ldr:(L.drop j).length=n - j:=by simp;omega
      by_cases hcj:j=c
      ·omega
      ·have hcj':¬c=j:=fun h=>hcj h.symm
       go_wp2_with (first
        | (at_builtin;with_reducible refine wpList_append_own _ rfl _ _ 29 rfl W.heap.size 24 i0 (.agg #[.string ⟨#[]⟩,.int .i64 0]) 2 24 Tryz.underlying29 hi hz0 hz1 hz2 rfl (by decide) (.slice (some ⟨W.heap.size,0,none⟩) 0 0) 0 [] ?_ e0.out ⟨b,o,none⟩ j c ((L.take j).flatMap kcells) ?_ (by rw[zas (s:=2) zaf,ltk]) n1.out (zaq _) (by unfold maxLen;omega) (by omega) (by simp) ?_
           ·rfl
           ·rfl
           intro v1 w6 hown6 hgrow6 _
           have B6:Below W.heap.size W w6:=(zaa W _).grown hgrow6 (by simp) (fun g' hg'=>by simp only[Value.ownBlock,Option.some.injEq] at hg';omega)
           have q0:w6.cell? ⟨w.heap.size,0,none⟩=some (.string kn):=(B6.cell (by show w.heap.size<_;omega)).trans C0
           have q1:w6.cell? ⟨w.heap.size,1,none⟩=some (.int .i64 kv):=(B6.cell (by show w.heap.size<_;omega)).trans C1
           have s6:=B6.size)
        | (at_builtin;with_reducible refine wpList_append_own _ rfl _ _ 29 rfl W.heap.size 24 i0 (.agg #[.string ⟨#[]⟩,.int .i64 0]) 2 24 Tryz.underlying29 hi hz0 hz1 hz2 rfl (by decide) v1 (0+j) _ ?_ (hown6.alloc _) ⟨w6.heap.size,0,none⟩ 1 1 [.string kn,.int .i64 kv] ?_ rfl (World.news_of_block (heap_alloc_last w6 (.cells #[.string kn,.int .i64 kv] 24))) (zcn kn kv) (by unfold maxLen;omega) (by omega) (by simp;omega) ?_
           ·rfl
           ·rfl
           intro v2 w7 hown7 hgrow7 _
           have B7:Below W.heap.size W w7:=(B6.alloc s6 _).grown hgrow7 (by simp;omega) (fun g' hg'=>(hown6.lt g' hg').1)
           have s7:=B7.size)
        | (at_builtin;with_reducible refine wpList_append_own _ rfl _ _ 29 rfl W.heap.size 24 i0 (.agg #[.string ⟨#[]⟩,.int .i64 0]) 2 24 Tryz.underlying29 hi hz0 hz1 hz2 rfl (by decide) v2 (0+j+1) _ ?_ hown7 ⟨b,o+j*2,none⟩ (n - j) (c - j) ((L.drop j).flatMap kcells) ?_ (by rw[zas (s:=2) zaf,ldr]) (n3 _ B7) (zaq _) (by unfold maxLen;omega) (by omega) s7 ?_
           ·rfl
           ·rfl
           intro v3 w8 hown8 hgrow8 _
           have B8:Below W.heap.size W w8:=B7.grown hgrow8 s7 (fun g' hg'=>(hown7.lt g' hg').1)))
       go_ret
       have hsplit:insK (kn,kv) L=L.take j++(kn,kv)::L.drop j:=by
        rw[zax (kn,kv) L j hlow'.out hstop (by omega),if_neg hne]
       have hlen:(insK (kn,kv) L).length=0+j+1+(n - j):=by rw[hsplit,List.length_append,List.length_cons,ltk,ldr];omega
       have hrow:w8.ownsRow W.heap.size 24 2 v3 (insK (kn,kv) L).length ((insK (kn,kv) L).flatMap kcells):=by
        rw[hlen,hsplit]
        simpa [kcells] using hown8
       obtain⟨g,cap,rfl,g1,g2,hks⟩:=KsOk.of_row hrow (by omega)
       exact⟨_,cap,rfl,hks,Wb.trans (B8.mono Wb.size)⟩
  ·obtain rfl:j=n:=by omega
   have hstop:∀a,L[j]?=some a->¬ltK a (kn,kv):=fun a h=>by
    rw[List.getElem?_eq_none (by omega)] at h
    cases h
   have hne:¬L[j]?=some (kn,kv):=fun h=>by
    rw[List.getElem?_eq_none (by omega)] at h
    cases h
   go_wp2_with fail
   go_quiet (fail)
   go_wp2_with fail
   go_quiet (fail)
   generalize hW:World.drewN (World.drewN wr _) _=W at*
   have Wb:Below w.heap.size w W:=by rw[<-hW];exact below_drewN (below_drewN hbw _) _
   have C0:W.cell? ⟨w.heap.size,0,none⟩=some (.string kn):=by rw[<-hW];exact c0
   have C1:W.cell? ⟨w.heap.size,1,none⟩=some (.int .i64 kv):=by rw[<-hW];exact c1
   have Ws:w.heap.size+1<=W.heap.size:=by rw[<-hW];exact hsz
   have HR:∀i a,L[i]?=some a->W.rangeAt b (o+i*2) (kcells a):=fun i a h=>rangeAt_below (hx'.out i a h) Wb hb
   have e0:Hid ((W.alloc (.cells #[] 24)).ownsRow W.heap.size 24 2 (.slice (some ⟨W.heap.size,0,none⟩) 0 0) 0 []):=zay W 24 2
   have n1:Hid (∀q u,((L.take j).flatMap kcells)[q]?=some u->(W.alloc (.cells #[] 24)).cell? ((⟨b,o,none⟩:Addr).add q)=some u):=zbk fun i a h=>World.rangeAt_alloc (HR i a (by rw[List.getElem?_take] at h;split at h<;>first | exact h | cases h)) _
   have n3:∀z,Below W.heap.size W z->∀q u,((L.drop j).flatMap kcells)[q]?=some u->z.cell? ((⟨b,o+j*2,none⟩:Addr).add q)=some u:=fun z hz=>zbk fun i a h=>by
    rw[List.getElem?_drop] at h
    have:=rangeAt_below (HR (j+i) a h) hz (by omega:b<W.heap.size)
    rwa [Nat.add_mul,<-Nat.add_assoc] at this
   have C0':∀ob,(W.alloc ob).cell? ⟨w.heap.size,0,none⟩=some (.string kn):=fun ob=>(World.cell?_alloc_lt _ _ _ (by show w.heap.size<_;omega)).trans C0
   have C1':∀ob,(W.alloc ob).cell? ⟨w.heap.size,1,none⟩=some (.int .i64 kv):=fun ob=>(World.cell?_alloc_lt _ _ _ (by show w.heap.size<_;omega)).trans C1
   clear hW HR
   have n3':=n3
   have ltk:(L.take j).length=j:=by simp;omega
   have ldr:(L.drop j).length=j - j:=by simp;omega
   by_cases hcj:j=c
   ·subst hcj
    go_wp2_with (first
     | (at_builtin;with_reducible refine wpList_append_own _ rfl _ _ 29 rfl W.heap.size 24 i0 (.agg #[.string ⟨#[]⟩,.int .i64 0]) 2 24 Tryz.underlying29 hi hz0 hz1 hz2 rfl (by decide) (.slice (some ⟨W.heap.size,0,none⟩) 0 0) 0 [] ?_ e0.out ⟨b,o,none⟩ j j ((L.take j).flatMap kcells) ?_ (by rw[zas (s:=2) zaf,ltk]) n1.out (zaq _) (by unfold maxLen;omega) (by omega) (by simp) ?_
        ·rfl
        ·rfl
        intro v1 w6 hown6 hgrow6 _
        have B6:Below W.heap.size W w6:=(zaa W _).grown hgrow6 (by simp) (fun g' hg'=>by simp only[Value.ownBlock,Option.some.injEq] at hg';omega)
        have q0:w6.cell? ⟨w.heap.size,0,none⟩=some (.string kn):=(B6.cell (by show w.heap.size<_;omega)).trans C0
        have q1:w6.cell? ⟨w.heap.size,1,none⟩=some (.int .i64 kv):=(B6.cell (by show w.heap.size<_;omega)).trans C1
        have s6:=B6.size)
     | (at_builtin;with_reducible refine wpList_append_own _ rfl _ _ 29 rfl W.heap.size 24 i0 (.agg #[.string ⟨#[]⟩,.int .i64 0]) 2 24 Tryz.underlying29 hi hz0 hz1 hz2 rfl (by decide) v1 (0+j) _ ?_ (hown6.alloc _) ⟨w6.heap.size,0,none⟩ 1 1 [.string kn,.int .i64 kv] ?_ rfl (World.news_of_block (heap_alloc_last w6 (.cells #[.string kn,.int .i64 kv] 24))) (zcn kn kv) (by unfold maxLen;omega) (by omega) (by simp;omega) ?_
        ·rfl
        ·rfl
        intro v2 w7 hown7 hgrow7 _
        have B7:Below W.heap.size W w7:=(B6.alloc s6 _).grown hgrow7 (by simp;omega) (fun g' hg'=>(hown6.lt g' hg').1)
        have s7:=B7.size)
     | (at_builtin;with_reducible refine wpList_append_own _ rfl _ _ 29 rfl W.heap.size 24 i0 (.agg #[.string ⟨#[]⟩,.int .i64 0]) 2 24 Tryz.underlying29 hi hz0 hz1 hz2 rfl (by decide) v2 (0+j+1) _ ?_ hown7 ⟨b,o,none⟩ 0 0 ((L.drop j).flatMap kcells) ?_ (by rw[zas (s:=2) zaf,ldr];omega) (fun q u h=>by rw[List.drop_of_length_le (by omega)] at h;simp at h) (zaq _) (by unfold maxLen;omega) (by omega) s7 ?_
        ·rfl
        ·rfl
        intro v3 w8 hown8 hgrow8 _
        have B8:Below W.heap.size W w8:=B7.grown hgrow8 s7 (fun g' hg'=>(hown7.lt g' hg').1)))
    go_ret
    have hsplit:insK (kn,kv) L=L.take j++(kn,kv)::L.drop j:=by
     rw[zax (kn,kv) L j hlow'.out hstop (by omega),if_neg hne]
    have hlen:(insK (kn,kv) L).length=0+j+1+0:=by rw[hsplit,List.length_append,List.length_cons,ltk,ldr];omega
    have hrow:w8.ownsRow W.heap.size 24 2 v3 (insK (kn,kv) L).length ((insK (kn,kv) L).flatMap kcells):=by
     rw[hlen,hsplit]
     simpa [kcells] using hown8
    obtain⟨g,cap,rfl,g1,g2,hks⟩:=KsOk.of_row hrow (by omega)
    exact⟨_,cap,rfl,hks,Wb.trans (B8.mono Wb.size)⟩
   ·have hcj':¬c=j:=fun h=>hcj h.symm
    go_wp2_with (first
     | (at_builtin;with_reducible refine wpList_append_own _ rfl _ _ 29 rfl W.heap.size 24 i0 (.agg #[.string ⟨#[]⟩,.int .i64 0]) 2 24 Tryz.underlying29 hi hz0 hz1 hz2 rfl (by decide) (.slice (some ⟨W.heap.size,0,none⟩) 0 0) 0 [] ?_ e0.out ⟨b,o,none⟩ j c ((L.take j).flatMap kcells) ?_ (by rw[zas (s:=2) zaf,ltk]) n1.out (zaq _) (by unfold maxLen;omega) (by omega) (by simp) ?_
        ·rfl
        ·rfl
        intro v1 w6 hown6 hgrow6 _
        have B6:Below W.heap.size W w6:=(zaa W _).grown hgrow6 (by simp) (fun g' hg'=>by simp only[Value.ownBlock,Option.some.injEq] at hg';omega)
        have q0:w6.cell? ⟨w.heap.size,0,none⟩=some (.string kn):=(B6.cell (by show w.heap.size<_;omega)).trans C0
        have q1:w6.cell? ⟨w.heap.size,1,none⟩=some (.int .i64 kv):=(B6.cell (by show w.heap.size<_;omega)).trans C1
        have s6:=B6.size)
     | (at_builtin;with_reducible refine wpList_append_own _ rfl _ _ 29 rfl W.heap.size 24 i0 (.agg #[.string ⟨#[]⟩,.int .i64 0]) 2 24 Tryz.underlying29 hi hz0 hz1 hz2 rfl (by decide) v1 (0+j) _ ?_ (hown6.alloc _) ⟨w6.heap.size,0,none⟩ 1 1 [.string kn,.int .i64 kv] ?_ rfl (World.news_of_block (heap_alloc_last w6 (.cells #[.string kn,.int .i64 kv] 24))) (zcn kn kv) (by unfold maxLen;omega) (by omega) (by simp;omega) ?_
        ·rfl
        ·rfl
        intro v2 w7 hown7 hgrow7 _
        have B7:Below W.heap.size W w7:=(B6.alloc s6 _).grown hgrow7 (by simp;omega) (fun g' hg'=>(hown6.lt g' hg').1)
        have s7:=B7.size)
     | (at_builtin;with_reducible refine wpList_append_own _ rfl _ _ 29 rfl W.heap.size 24 i0 (.agg #[.string ⟨#[]⟩,.int .i64 0]) 2 24 Tryz.underlying29 hi hz0 hz1 hz2 rfl (by decide) v2 (0+j+1) _ ?_ hown7 ⟨b,o+j*2,none⟩ 0 (c - j) ((L.drop j).flatMap kcells) ?_ (by rw[zas (s:=2) zaf,ldr];omega) (n3 _ B7) (zaq _) (by unfold maxLen;omega) (by omega) s7 ?_
        ·rfl
        ·rfl
        intro v3 w8 hown8 hgrow8 _
        have B8:Below W.heap.size W w8:=B7.grown hgrow8 s7 (fun g' hg'=>(hown7.lt g' hg').1)))
    go_ret
    have hsplit:insK (kn,kv) L=L.take j++(kn,kv)::L.drop j:=by
     rw[zax (kn,kv) L j hlow'.out hstop (by omega),if_neg hne]
    have hlen:(insK (kn,kv) L).length=0+j+1+0:=by rw[hsplit,List.length_append,List.length_cons,ltk,ldr];omega
    have hrow:w8.ownsRow W.heap.size 24 2 v3 (insK (kn,kv) L).length ((insK (kn,kv) L).flatMap kcells):=by
     rw[hlen,hsplit]
     simpa [kcells] using hown8
    obtain⟨g,cap,rfl,g1,g2,hks⟩:=KsOk.of_row hrow (by omega)
    exact⟨_,cap,rfl,hks,Wb.trans (B8.mono Wb.size)⟩
def foldK (L ks:List Ky):List Ky:=ks.foldl (fun m k=>insK k m) L
theorem zbx (L ks ls:List Ky):foldK L (ks++ls)=foldK (foldK L ks) ls:=List.foldl_append ..
theorem zd4 (k:Ky):∀L,(insK k L).length<=L.length+1
 | []=>by simp[insK]
 | a::L=>by
  unfold insK
  split
  ·have:=zd4 k L
   simp only[List.length_cons]
   omega
  ·split<;>simp
theorem zbi:∀(ks L:List Ky),(foldK L ks).length<=L.length+ks.length
 | [],L=>Nat.le_refl _
 | k::ks,L=>by
  have h1:=zbi ks (insK k L)
  have h2:=zd4 k L
  show(foldK (insK k L) ks).length<=_
  simp only[List.length_cons]
  omega
theorem zff {w:World} {q:Option Addr} {n c:Nat} {L:List Ky} (k:Ky) (h:KsOk w q n c L) (hn:L.length<=1048576):
  Calls Tryz.prog 30 #[.slice q n c,.agg #[.string k.1,.int .i64 k.2]] w fun e w'=>∃q' c',e=.returned (.slice q' (insK k L).length c')/\KsOk w' q' (insK k L).length c' (insK k L)/\Below w.heap.size w w':=by
 obtain⟨h1,h2,h3,h4⟩:=h
 rcases h4 with⟨rfl,h5,rfl⟩ | ⟨b,o,rfl,hlt,hc⟩
 ·rw[h5]
  obtain rfl:L=[]:=List.eq_nil_of_length_eq_zero (by omega)
  exact zet k w
 ·exact zdq k b o n c L h1 h2 h3 (by omega) hlt hc
set_option maxRecDepth 100000 in
set_option maxHeartbeats 2000000 in
theorem zdr {w:World} {d:Sd} {q:Option Addr} {n c:Nat} {L:List Ky} (ds:Nat->Sd) (kk:Nat->List Ky) (h20:¬d.s.ru=20) (hl:KsOk w q n c L) (hK:L.length+(([]:List Ky)++(List.range d.kin).flatMap kk).length<=1048576) (hkin:d.kin<=1099511627776)
  (hk:d.kin=0\/∃b o,d.kiq=some ⟨b,o,none⟩/\b<w.heap.size/\∀i,i<d.kin->w.rangeAt b (o+i*21) (ds i).cells)
  (hR:∀i,i<d.kin->∀(z:World) (q':Option Addr) (n' c':Nat) (L':List Ky),Below w.heap.size w z->KsOk z q' n' c' L'->L'.length+(kk i).length<=1048576->Calls Tryz.prog 58 #[.agg (ds i).cells.toArray,.slice q' n' c'] z fun e w'=>∃q'' c'',e=.returned (.slice q'' (foldK L' (kk i)).length c'')/\KsOk w' q'' (foldK L' (kk i)).length c'' (foldK L' (kk i))/\Below z.heap.size z w'):
  Calls Tryz.prog 58 #[.agg d.ce,.slice q n c] w fun e w'=>∃q' c',e=.returned (.slice q' (foldK L (([]:List Ky)++(List.range d.kin).flatMap kk)).length c')/\KsOk w' q' (foldK L (([]:List Ky)++(List.range d.kin).flatMap kk)).length c' (foldK L (([]:List Ky)++(List.range d.kin).flatMap kk))/\Below w.heap.size w w':=by
 have hk':Hid (d.kin=0\/∃b o,d.kiq=some ⟨b,o,none⟩/\b<w.heap.size/\∀i,i<d.kin->w.rangeAt b (o+i*21) (ds i).cells):=hk
 clear hk
 obtain⟨dd,hu,hd⟩:=st_row
 have hHu:Hid (Tryz.prog.underlying 53=some dd):=hu
 clear hu
 have hb0:Below w.heap.size w (w.alloc (.cells d.ce 53)):=zaa _ _
 have hz0:(w.alloc (.cells d.ce 53)).heap.size=w.heap.size+1:=by simp
 have D0:Hid ((w.alloc (.cells d.ce 53)).rangeAt (w.heap.size) 0 [.int .i64 d.s.ru,.string d.s.nm,.string d.s.ot,.bool d.s.g,.slice d.aq d.an d.ac,.slice d.cq d.cn d.cc,.int .i64 d.s.kk,.int .i64 d.s.nn,.int .i64 d.s.pr,.int .i64 d.e.k,.int .i64 d.e.f,.bool d.e.neg,.slice d.e.aq d.e.an d.e.ac,.slice d.e.cq d.e.cn d.e.cc,.string d.e.m,.slice d.e.sq d.e.sn d.e.sc,.slice d.poq d.pon d.poc,.string d.s.en,.int .i64 d.s.ve,.slice d.arq d.arn d.arc,.slice d.kiq d.kin d.kic]):=range_new w [.int .i64 d.s.ru,.string d.s.nm,.string d.s.ot,.bool d.s.g,.slice d.aq d.an d.ac,.slice d.cq d.cn d.cc,.int .i64 d.s.kk,.int .i64 d.s.nn,.int .i64 d.s.pr,.int .i64 d.e.k,.int .i64 d.e.f,.bool d.e.neg,.slice d.e.aq d.e.an d.e.ac,.slice d.e.cq d.e.cn d.e.cc,.string d.e.m,.slice d.e.sq d.e.sn d.e.sc,.slice d.poq d.pon d.poc,.string d.s.en,.int .i64 d.s.ve,.slice d.arq d.arn d.arc,.slice d.kiq d.kin d.kic] 53
 have k20:(w.alloc (.cells d.ce 53)).cell? ⟨w.heap.size,20,none⟩=some (.slice d.kiq d.kin d.kic):=by simp
 have hk2:KsOk (w.alloc (.cells d.ce 53)) q n c L:=hl.below hb0
 obtain rfl:L.length=n:=hk2.1
 have W2:=hb0
 obtain⟨q2,hq2⟩:∃q2,q2=q:=⟨_,rfl⟩
 obtain⟨c2,hc2⟩:∃c2,c2=c:=⟨_,rfl⟩
 go_enter Tryz.func58,Tryz.ntmps58
 go_wp2_with fail
 subst hq2 hc2
 have hbeq:(d.s.ru==20)=false:=by simpa using h20
 rw[hbeq]
 clear hbeq
 go_loopw [20,1] (fun i l wr=>∃k:Nat,k<=d.kin/\i=.int .i64 k/\∃q' c',l=.slice q' (foldK L (([]:List Ky)++(List.range k).flatMap kk)).length c'/\KsOk wr q' (foldK L (([]:List Ky)++(List.range k).flatMap kk)).length c' (foldK L (([]:List Ky)++(List.range k).flatMap kk))/\Below w.heap.size w wr) (fun i _ _=>d.kin - (intOf i).toNat)
 case atStart=>exact⟨0,Nat.zero_le _,rfl,q2,c2,by simp[foldK],by simpa [foldK] using hk2,W2⟩
 case round=>
  obtain⟨k,hk,rfl,qk,ck,rfl,hkk,hbel⟩:=hrel
  by_cases hlt:k<d.kin
  ·have hlt':(k:Int)<(d.kin:Int):=by omega
   have hRk:=hR k hlt
   rcases hk'.out with h0 | ⟨b,o,hq,hbb,hcx⟩
   ·omega
   have hx:=rangeAt_below (hcx k hlt) hbel hbb
   have lx:(ds k).cells.length=21:=rfl
   have ox':Hid ((ds k).cells.toArray.all (·.oneCell')=true):=(ds k).one
   clear hcx
   generalize (ds k).cells=cx at*
   rw[hq]
   have X1:Hid ((wr.alloc (.cells cx.toArray 53)).rangeAt wr.heap.size 0 cx):=range_new _ _ _
   have hKk:(foldK L (([]:List Ky)++(List.range k).flatMap kk)).length+(kk k).length<=1048576:=by
    have hs:=zb5 kk hlt
    rw[List.range_succ,List.flatMap_append,List.length_append] at hs
    simp only[List.flatMap_cons,List.flatMap_nil,List.append_nil] at hs
    have hf:=zbi (([]:List Ky)++(List.range k).flatMap kk) L
    simp only[List.length_append] at hK hf ⊢
    omega
   have hws:=hbel.size
   have hcall:=hRk (wr.alloc (.cells cx.toArray 53)) qk _ ck _ (hbel.alloc hws _) (hkk.below (zaa _ _)) hKk
   clear hRk
   have hfold:foldK (foldK L (([]:List Ky)++(List.range k).flatMap kk)) (kk k)=foldK L (([]:List Ky)++(List.range (k+1)).flatMap kk):=by
    rw[<-zbx,List.range_succ,List.flatMap_append,List.append_assoc]
    simp
   have hfold':=hid_of hfold
   clear hfold
   generalize foldK L (([]:List Ky)++(List.range k).flatMap kk)=Lk at*
   go_wp2_with (first
    | (with_reducible refine wpList_load_mid (op:=⟨some 23,_,_,_,_,_⟩) ?_ 53 (.tmp 22) ?_ (b) (o+k*21) ?_ cx dd ?_ hHu.out hd ?_ ?_
       rotate_left 1
       ·with_reducible rfl
       ·kernel_rfl
       ·exact hx
       ·(first | exact st_size | (rw[lx];exact st_size))
       rotate_left 1
       ·rfl)
    | (with_reducible refine wpList_store_new ?_ 53 (.tmp 6) (.tmp 23) ?_ cx.toArray wr.heap.size rfl ?_ ?_ ?_ ?_ ox'.out ?_
       rotate_left 1
       ·with_reducible rfl
       ·rfl
       ·rfl
       ·simp[lx]
       ·(simp only[List.size_toArray,lx];exact st_size)
       rotate_left 1
       ·rfl)
    | (with_reducible refine wpList_load_mid (op:=⟨some 24,_,_,_,_,_⟩) ?_ 53 (.tmp 6) ?_ (wr.heap.size) (0) ?_ cx dd ?_ hHu.out hd ?_ ?_
       rotate_left 1
       ·with_reducible rfl
       ·kernel_rfl
       ·exact X1.out
       ·(first | exact st_size | (rw[lx];exact st_size))
       rotate_left 1
       ·rfl)
    | (go_at_call 58;refine hcall.mono ?_;rintro e w5 ⟨q5,c5,rfl,hk5,hb5⟩))
   go_roundw
   case rel=>
    have hf:=hfold'.out
    rw[hf] at hk5
    refine⟨k+1,by omega,by go_num,q5,c5,by rw[hf],hk5,(hbel.alloc hws _).trans (hb5.mono (by simp;omega))⟩
   case measure=>simp[intOf];omega
  ·have hkk2:k=d.kin:=by omega
   subst hkk2
   go_wp2_with fail
   go_ret
   exact⟨qk,ck,rfl,hkk,hbel⟩
set_option maxRecDepth 100000 in
set_option maxHeartbeats 2000000 in
theorem zem {w:World} {d:Sd} {q:Option Addr} {n c:Nat} {L:List Ky} (ds:Nat->Sd) (kk:Nat->List Ky) (hl:KsOk w q n c L) (hK:L.length+([((d.s.en,d.s.ve):Ky)]++(List.range d.kin).flatMap kk).length<=1048576) (hkin:d.kin<=1099511627776)
  (hk:d.kin=0\/∃b o,d.kiq=some ⟨b,o,none⟩/\b<w.heap.size/\∀i,i<d.kin->w.rangeAt b (o+i*21) (ds i).cells)
  (hR:∀i,i<d.kin->∀(z:World) (q':Option Addr) (n' c':Nat) (L':List Ky),Below w.heap.size w z->KsOk z q' n' c' L'->L'.length+(kk i).length<=1048576->Calls Tryz.prog 58 #[.agg (ds i).cells.toArray,.slice q' n' c'] z fun e w'=>∃q'' c'',e=.returned (.slice q'' (foldK L' (kk i)).length c'')/\KsOk w' q'' (foldK L' (kk i)).length c'' (foldK L' (kk i))/\Below z.heap.size z w'):
  Calls Tryz.prog 58 #[.agg d.ce20,.slice q n c] w fun e w'=>∃q' c',e=.returned (.slice q' (foldK L ([((d.s.en,d.s.ve):Ky)]++(List.range d.kin).flatMap kk)).length c')/\KsOk w' q' (foldK L ([((d.s.en,d.s.ve):Ky)]++(List.range d.kin).flatMap kk)).length c' (foldK L ([((d.s.en,d.s.ve):Ky)]++(List.range d.kin).flatMap kk))/\Below w.heap.size w w':=by
 have hk':Hid (d.kin=0\/∃b o,d.kiq=some ⟨b,o,none⟩/\b<w.heap.size/\∀i,i<d.kin->w.rangeAt b (o+i*21) (ds i).cells):=hk
 clear hk
 obtain⟨dd,hu,hd⟩:=st_row
 have hHu:Hid (Tryz.prog.underlying 53=some dd):=hu
 clear hu
 have hb0:Below w.heap.size w (w.alloc (.cells d.ce20 53)):=zaa _ _
 have hz0:(w.alloc (.cells d.ce20 53)).heap.size=w.heap.size+1:=by simp
 have D0:Hid ((w.alloc (.cells d.ce20 53)).rangeAt (w.heap.size) 0 [.int .i64 20,.string d.s.nm,.string d.s.ot,.bool d.s.g,.slice d.aq d.an d.ac,.slice d.cq d.cn d.cc,.int .i64 d.s.kk,.int .i64 d.s.nn,.int .i64 d.s.pr,.int .i64 d.e.k,.int .i64 d.e.f,.bool d.e.neg,.slice d.e.aq d.e.an d.e.ac,.slice d.e.cq d.e.cn d.e.cc,.string d.e.m,.slice d.e.sq d.e.sn d.e.sc,.slice d.poq d.pon d.poc,.string d.s.en,.int .i64 d.s.ve,.slice d.arq d.arn d.arc,.slice d.kiq d.kin d.kic]):=range_new w [.int .i64 20,.string d.s.nm,.string d.s.ot,.bool d.s.g,.slice d.aq d.an d.ac,.slice d.cq d.cn d.cc,.int .i64 d.s.kk,.int .i64 d.s.nn,.int .i64 d.s.pr,.int .i64 d.e.k,.int .i64 d.e.f,.bool d.e.neg,.slice d.e.aq d.e.an d.e.ac,.slice d.e.cq d.e.cn d.e.cc,.string d.e.m,.slice d.e.sq d.e.sn d.e.sc,.slice d.poq d.pon d.poc,.string d.s.en,.int .i64 d.s.ve,.slice d.arq d.arn d.arc,.slice d.kiq d.kin d.kic] 53
 have b9:(w.alloc (.cells d.ce20 53)).cell? ⟨w.heap.size,17,none⟩=some (.string d.s.en):=by simp
 have b10:(w.alloc (.cells d.ce20 53)).cell? ⟨w.heap.size,18,none⟩=some (.int .i64 d.s.ve):=by simp
 have hins:=zff (d.s.en,d.s.ve) (hl.below hb0) (by simp at hK;omega)
 simp only at hins
 go_enter Tryz.func58,Tryz.ntmps58
 go_wp2_with (go_at_call 30;refine hins.mono ?_;rintro e w2 ⟨q2,c2,rfl,hk2,hb2⟩
              have D2:Hid (w2.rangeAt w.heap.size 0 [.int .i64 20,.string d.s.nm,.string d.s.ot,.bool d.s.g,.slice d.aq d.an d.ac,.slice d.cq d.cn d.cc,.int .i64 d.s.kk,.int .i64 d.s.nn,.int .i64 d.s.pr,.int .i64 d.e.k,.int .i64 d.e.f,.bool d.e.neg,.slice d.e.aq d.e.an d.e.ac,.slice d.e.cq d.e.cn d.e.cc,.string d.e.m,.slice d.e.sq d.e.sn d.e.sc,.slice d.poq d.pon d.poc,.string d.s.en,.int .i64 d.s.ve,.slice d.arq d.arn d.arc,.slice d.kiq d.kin d.kic]):=rangeAt_below D0.out hb2 (by omega)
              have k20:w2.cell? ⟨w.heap.size,20,none⟩=some (.slice d.kiq d.kin d.kic):=by have h:=D2.out 20 _ rfl;simpa using h
              have W2:Below w.heap.size w w2:=hb0.trans (hb2.mono hb0.size))
 try simp only[show ((20:Int)==20)=true from rfl]
 go_loopw [20,1] (fun i l wr=>∃k:Nat,k<=d.kin/\i=.int .i64 k/\∃q' c',l=.slice q' (foldK L ([((d.s.en,d.s.ve):Ky)]++(List.range k).flatMap kk)).length c'/\KsOk wr q' (foldK L ([((d.s.en,d.s.ve):Ky)]++(List.range k).flatMap kk)).length c' (foldK L ([((d.s.en,d.s.ve):Ky)]++(List.range k).flatMap kk))/\Below w.heap.size w wr) (fun i _ _=>d.kin - (intOf i).toNat)
 case atStart=>exact⟨0,Nat.zero_le _,rfl,q2,c2,by simp[foldK],by simpa [foldK] using hk2,W2⟩
 case round=>
  obtain⟨k,hk,rfl,qk,ck,rfl,hkk,hbel⟩:=hrel
  by_cases hlt:k<d.kin
  ·have hlt':(k:Int)<(d.kin:Int):=by omega
   have hRk:=hR k hlt
   rcases hk'.out with h0 | ⟨b,o,hq,hbb,hcx⟩
   ·omega
   have hx:=rangeAt_below (hcx k hlt) hbel hbb
   have lx:(ds k).cells.length=21:=rfl
   have ox':Hid ((ds k).cells.toArray.all (·.oneCell')=true):=(ds k).one
   clear hcx
   generalize (ds k).cells=cx at*
   rw[hq]
   have X1:Hid ((wr.alloc (.cells cx.toArray 53)).rangeAt wr.heap.size 0 cx):=range_new _ _ _
   have hKk:(foldK L ([((d.s.en,d.s.ve):Ky)]++(List.range k).flatMap kk)).length+(kk k).length<=1048576:=by
    have hs:=zb5 kk hlt
    rw[List.range_succ,List.flatMap_append,List.length_append] at hs
    simp only[List.flatMap_cons,List.flatMap_nil,List.append_nil] at hs
    have hf:=zbi ([((d.s.en,d.s.ve):Ky)]++(List.range k).flatMap kk) L
    simp only[List.length_append] at hK hf ⊢
    omega
   have hws:=hbel.size
   have hcall:=hRk (wr.alloc (.cells cx.toArray 53)) qk _ ck _ (hbel.alloc hws _) (hkk.below (zaa _ _)) hKk
   clear hRk
   have hfold:foldK (foldK L ([((d.s.en,d.s.ve):Ky)]++(List.range k).flatMap kk)) (kk k)=foldK L ([((d.s.en,d.s.ve):Ky)]++(List.range (k+1)).flatMap kk):=by
    rw[<-zbx,List.range_succ,List.flatMap_append,List.append_assoc]
    simp
   have hfold':=hid_of hfold
   clear hfold
   generalize foldK L ([((d.s.en,d.s.ve):Ky)]++(List.range k).flatMap kk)=Lk at*
   go_wp2_with (first
    | (with_reducible refine wpList_load_mid (op:=⟨some 23,_,_,_,_,_⟩) ?_ 53 (.tmp 22) ?_ (b) (o+k*21) ?_ cx dd ?_ hHu.out hd ?_ ?_
       rotate_left 1
       ·with_reducible rfl
       ·kernel_rfl
       ·exact hx
       ·(first | exact st_size | (rw[lx];exact st_size))
       rotate_left 1
       ·rfl)
    | (with_reducible refine wpList_store_new ?_ 53 (.tmp 6) (.tmp 23) ?_ cx.toArray wr.heap.size rfl ?_ ?_ ?_ ?_ ox'.out ?_
       rotate_left 1
       ·with_reducible rfl
       ·rfl
       ·rfl
       ·simp[lx]
       ·(simp only[List.size_toArray,lx];exact st_size)
       rotate_left 1
       ·rfl)
    | (with_reducible refine wpList_load_mid (op:=⟨some 24,_,_,_,_,_⟩) ?_ 53 (.tmp 6) ?_ (wr.heap.size) (0) ?_ cx dd ?_ hHu.out hd ?_ ?_
       rotate_left 1
       ·with_reducible rfl
       ·kernel_rfl
       ·exact X1.out
       ·(first | exact st_size | (rw[lx];exact st_size))
       rotate_left 1
       ·rfl)
    | (go_at_call 58;refine hcall.mono ?_;rintro e w5 ⟨q5,c5,rfl,hk5,hb5⟩))
   go_roundw
   case rel=>
    have hf:=hfold'.out
    rw[hf] at hk5
    refine⟨k+1,by omega,by go_num,q5,c5,by rw[hf],hk5,(hbel.alloc hws _).trans (hb5.mono (by simp;omega))⟩
   case measure=>simp[intOf];omega
  ·have hkk2:k=d.kin:=by omega
   subst hkk2
   go_wp2_with fail
   go_ret
   exact⟨qk,ck,rfl,hkk,hbel⟩
theorem zfg:∀(X:St) (d:Sd) (w:World) (q:Option Addr) (n c:Nat) (L:List Ky),StOk w X d->KsOk w q n c L->L.length+X.keys.length<=1048576->
  Calls Tryz.prog 58 #[d.val,.slice q n c] w fun e w'=>∃q' c',e=.returned (.slice q' (foldK L X.keys).length c')/\KsOk w' q' (foldK L X.keys).length c' (foldK L X.keys)/\Below w.heap.size w w':=by
 intro X
 induction X with
 | non=>exact fun d w q n c L h=>h.elim
 | mk s nu de x pn ps bn bs m ki ih=>
  intro d w q n c L h hl hK
  unfold StOk at h
  obtain⟨⟨rfl,rfl,rfl,rfl⟩,_,_,_,_,_,_,_,h9,h10⟩:=h
  obtain⟨ds,k1,k2⟩:∃ds:Nat->Sd,(d.kin=0\/∃b o,d.kiq=some ⟨b,o,none⟩/\b<w.heap.size/\∀i,i<d.kin->w.rangeAt b (o+i*21) (ds i).cells)/\∀i,i<d.kin->StOk w (ki i) (ds i):=by
   rcases h10 with h0 | ⟨b,o,e,hlt,ds,hds⟩
   ·exact⟨fun _=>d,.inl h0,fun i hi=>by omega⟩
   ·exact⟨ds,.inr ⟨b,o,e,hlt,fun i hi=>(hds i hi).1⟩,fun i hi=>(hds i hi).2⟩
  have hR:∀i,i<d.kin->∀(z:World) (q':Option Addr) (n' c':Nat) (L':List Ky),Below w.heap.size w z->KsOk z q' n' c' L'->L'.length+(ki i).keys.length<=1048576->Calls Tryz.prog 58 #[.agg (ds i).cells.toArray,.slice q' n' c'] z fun e w'=>∃q'' c'',e=.returned (.slice q'' (foldK L' (ki i).keys).length c'')/\KsOk w' q'' (foldK L' (ki i).keys).length c'' (foldK L' (ki i).keys)/\Below z.heap.size z w':=
   fun i hi z q' n' c' L' hz hl' hK'=>ih i (ds i) z q' n' c' L' ((k2 i hi).below hz) hl' hK'
  unfold St.keys at hK ⊢
  by_cases h20:d.s.ru=20
  ·rw[if_pos h20] at hK ⊢
   have h:=zem (d:=d) ds (fun i=>(ki i).keys) hl hK h9 k1 hR
   unfold Sd.ce20 at h
   rw[<-h20] at h
   exact h
  ·rw[if_neg h20] at hK ⊢
   exact zdr (d:=d) ds (fun i=>(ki i).keys) h20 hl hK h9 k1 hR
set_option maxRecDepth 100000 in
theorem zen {w:World} {d:Sd} {K:List Ky} (hG:∀z,Below w.heap.size w z->Calls Tryz.prog 58 #[.agg d.cells.toArray,.slice none 0 0] z fun e w'=>∃q' c',e=.returned (.slice q' K.length c')/\KsOk w' q' K.length c' K/\Below z.heap.size z w'):
  Calls Tryz.prog 38 #[.agg d.ce] w fun e w'=>∃q' c',e=.returned (.slice q' K.length c')/\KsOk w' q' K.length c' K/\Below w.heap.size w w':=by
 obtain⟨dd,hu,hd⟩:=st_row
 have hHu:Hid (Tryz.prog.underlying 53=some dd):=hu
 clear hu
 have hb0:Below w.heap.size w (w.alloc (.cells d.ce 53)):=zaa _ _
 have D0:Hid ((w.alloc (.cells d.ce 53)).rangeAt (w.heap.size) 0 d.cells):=range_new w d.cells 53
 go_enter Tryz.func38,Tryz.ntmps38
 go_wp2_with (first
  | (with_reducible refine wpList_load_mid (op:=⟨some 3,_,_,_,_,_⟩) ?_ 53 (.tmp 1) ?_ (w.heap.size) 0 ?_ d.cells dd ?_ hHu.out hd ?_ ?_
     rotate_left 1
     ·with_reducible rfl
     ·kernel_rfl
     ·exact D0.out
     ·exact st_size
     rotate_left 1
     ·rfl)
  | (go_at_call 58;with_reducible refine(hG _ hb0).mono ?_;rintro e w2 ⟨q2,c2,rfl,hk2,hb2⟩))
 go_ret
 exact⟨q2,c2,rfl,hk2,hb0.trans (hb2.mono hb0.size)⟩
theorem rUses_ok {w:World} {X:St} {d:Sd} (hX:StOk w X d) (hK:X.keys.length<=1048576):
  Calls Tryz.prog 38 #[d.val] w fun e w'=>∃q' c',e=.returned (.slice q' (foldK [] X.keys).length c')/\KsOk w' q' (foldK [] X.keys).length c' (foldK [] X.keys)/\Below w.heap.size w w':=
 zen fun z hz=>zfg X d z none 0 0 [] (hX.below hz) ⟨rfl,Nat.le_refl _,Nat.zero_le _,.inl ⟨rfl,rfl,rfl⟩⟩ (by simpa using hK)
end Go.Proofs.YtfhjhnofkaiceaaGreatDoor
