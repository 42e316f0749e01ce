import Derived.Laws.IdiomStrings
import Derived.Test.YtnnhofmknilopaaGreatDoorPk12
namespace Go.Proofs.YtnnhofmknilopaaGreatDoor
open Go Go.RowKit
def byc (l:List UInt8):List Value:=l.map fun b=>.int .u8 b.toNat
theorem byc_snoc (l:List UInt8) (x:UInt8):byc (l++[x])=byc l++[.int .u8 x.toNat]:=by simp[byc]
def OwB (w:World) (base:Nat) (v:Value) (l:List UInt8):Prop:=w.ownsRow base 5 1 v l.length (byc l)
theorem zhh {w w':World} {base:Nat} {e:TypeId} {size:Nat} {v:Value} {n:Nat} {xs:List Value} (h:w.ownsRow base e size v n xs) (hb:Below w.heap.size w w'):w'.ownsRow base e size v n xs:=by
 refine h.kept (row:=none) ⟨hb.os,hb.tape,hb.output,hb.size,fun k hk _=>hb.block k hk⟩ ?_
 cases v.ownBlock with
 | none=>exact .inl rfl
 | some g=>exact .inr (by simp)
theorem OwB.below {w w':World} {base:Nat} {v:Value} {l:List UInt8} (h:OwB w base v l) (hb:Below w.heap.size w w'):OwB w' base v l:=zhh h hb
theorem OwB.alloc {w:World} {base:Nat} {v:Value} {l:List UInt8} (h:OwB w base v l) (o:Obj):(w.alloc o).ownsRow base 5 1 v l.length (byc l):=World.ownsRow.alloc h o
theorem OwB.lt {w:World} {base:Nat} {v:Value} {l:List UInt8} (h:OwB w base v l):∀k,v.ownBlock=some k->base<=k/\k<w.heap.size:=World.ownsRow.lt h
theorem OwB.row {w:World} {base:Nat} {v:Value} {l:List UInt8} {n:Nat} (h:OwB w base v l) (hn:l.length=n):w.ownsRow base 5 1 v n (byc l):=by subst hn;exact h
theorem OwB.snoc {w:World} {base n:Nat} {v:Value} {l:List UInt8} {x:UInt8} (h:w.ownsRow base 5 1 v (n+1) (byc l++[.int .u8 x.toNat])) (hn:l.length=n):OwB w base v (l++[x]):=by
 subst hn;unfold OwB;rw[byc_snoc,List.length_append];exact h
theorem OwB.nil (w:World) (base:Nat):OwB w base (.slice none 0 0) []:=World.ownsRow_nil _ _ _ _
theorem zbr {w:World} {base:Nat} {e:TypeId} {size:Nat} {v:Value} {n:Nat} {xs:List Value} (h:w.ownsRow base e size v n xs):∃q cap,v=.slice q n cap:=by
 rcases h.2 with⟨rfl,h0⟩ | ⟨g,cap,cur,rfl,_⟩
 ·exact⟨none,0,by rw[h0]⟩
 ·exact⟨_,cap,rfl⟩
theorem OwB.form {w:World} {base:Nat} {v:Value} {l:List UInt8} (h:OwB w base v l):∃q cap,v=.slice q l.length cap:=by
 rcases h.2 with⟨rfl,h0⟩ | ⟨g,cap,cur,rfl,_⟩
 ·exact⟨none,0,by rw[h0]⟩
 ·exact⟨_,cap,rfl⟩
theorem OwB.blk {w:World} {base:Nat} {v:Value} {l:List UInt8} (h:OwB w base v l) (hne:l≠[]):
  ∃g cap,v=.slice (some ⟨g,0,none⟩) l.length cap/\base<=g/\g<w.heap.size/\l.length<=cap/\∀j,j<l.length->w.cell? ⟨g,j,none⟩=some (.int .u8 (l.getD j 0).toNat):=by
 obtain⟨_,⟨rfl,h0⟩ | ⟨g,cp,cur,rfl,hg,be,h4,h5,h6,h7⟩⟩:=id h
 ·exact absurd (List.eq_nil_of_length_eq_zero h0) hne
 ·refine⟨g,cp,rfl,hg,(Array.getElem?_eq_some_iff.1 be).1,h4,fun j hj=>?_⟩
  have hc:=h.cellAt j (by omega)
  rw[hc]
  simp[byc,hj]
theorem OwB.conv {w:World} {base:Nat} {v:Value} {l:List UInt8} (h:OwB w base v l) (hne:l≠[]):(convert 41 9 v).run Tryz.prog w=.ok (.string ⟨l.toArray⟩) w:=by
 obtain⟨g,cap,rfl,_,_,_,hc⟩:=h.blk hne
 refine run_convert_bytes_back (P:=Tryz.prog) w 41 9 5 ⟨g,0,none⟩ cap l Tryz.underlying41 Tryz.underlying5 Tryz.underlying9 (fun j hj=>?_)
 have:=hc j hj
 have e:(⟨g,0,none⟩:Addr).add j=⟨g,j,none⟩:=by
  by_cases h0:j=0
  ·subst h0;rfl
  ·simp[Addr.add,h0]
 rw[e]
 simpa [hj] using this
def W16 (w:World) (v:Value) (xs:List Int):Prop:=Sl16 w v xs/\∃b n c cs fr,v=.slice (some ⟨b,0,none⟩) n c/\w.heap[b]?=some (.cells cs 150 fr)
theorem W16.keep {w w':World} {v u:Value} {xs:List Int} {base n:Nat} {l:List Value} (h:W16 w v xs) (hr:w.ownsRow base 5 1 u n l) (hg:w.grownBy w' u.ownBlock):W16 w' v xs:=by
 obtain⟨⟨h1,h2,q,cap,h3,h4,h5⟩,b,m,c,cs,fr,rfl,hb⟩:=h
 cases h3
 have hlt:b<w.heap.size:=(Array.getElem?_eq_some_iff.1 hb).1
 have hne:some b≠u.ownBlock:=by
  intro e
  rcases hr.2 with⟨rfl,_⟩ | ⟨g,cp,cur,rfl,_,be,_⟩
  ·cases e
  ·simp only[Value.ownBlock,Option.some.injEq] at e
   subst e
   rw[hb] at be
   cases be
 have hk:w'.heap[b]?=w.heap[b]?:=hg.block b hlt hne
 refine⟨⟨h1,h2,_,_,rfl,h4,h5.imp id ?_⟩,b,_,_,cs,fr,rfl,by rw[hk,hb]⟩
 rintro⟨b',o,e,hl,hc⟩
 cases e
 exact⟨b,0,rfl,Nat.lt_of_lt_of_le hl hg.size,fun i hi=>hg.cell (hc i hi) hne⟩
theorem W16.alloc {w:World} {v:Value} {xs:List Int} (h:W16 w v xs) (o:Obj):W16 (w.alloc o) v xs:=by
 obtain⟨h1,b,m,c,cs,fr,e,hb⟩:=h
 refine⟨h1.below (zaa w o),b,m,c,cs,fr,e,?_⟩
 have hlt:b<w.heap.size:=(Array.getElem?_eq_some_iff.1 hb).1
 rw[(zaa w o).block b hlt,hb]
set_option maxRecDepth 100000
set_option maxHeartbeats 16000000
theorem rdk_snoc (k n:Nat):rdk (k+1) n=rdk k n++[UInt8.ofNat (48+n / 10^k % 10)]:=by rw[zmo k 1];rfl
theorem dig_at {A i:Nat} (hi:i<4):A % 10000 / 10^i % 10=A / 10^i % 10:=by
 match i,hi with
 | 0,_=>simp
 | 1,_=>simp;omega
 | 2,_=>simp;omega
 | 3,_=>simp;omega
theorem dig_up (R i:Nat):R / 10^i / 10=R / 10^(i+1):=by rw[Nat.div_div_eq_div_mul,Nat.pow_succ]
theorem zgm:pw 64<10^617:=by decide +kernel
structure Nt (N j:Nat) (A:Int) (l:List UInt8):Prop where
 eq:l=rdk (4*j) N
 val:A.toNat=N / 10^(4*j)
 lt:N<10^617
 le:4*j<=620
theorem Nt.len {N j:Nat} {A:Int} {l:List UInt8} (h:Nt N j A l):l.length=4*j:=by rw[h.eq,zin]
theorem few_of {N i K:Nat} (h:10^i<=N) (k:N<10^K):i<K:=(Nat.pow_lt_pow_iff_right (by decide)).1 (Nat.lt_of_le_of_lt h k)
theorem Nt.few {N j:Nat} {A:Int} {l:List UInt8} (h:Nt N j A l) (hA:0<A):4*j<617:=by
 have h1:=h.val
 have h2:N / 10^(4*j)≠0:=by omega
 have h3:10^(4*j)<=N:=by
  rcases Nat.lt_or_ge N (10^(4*j)) with h | h
  ·exact absurd (Nat.div_eq_of_lt h) h2
  ·exact h
 exact few_of h3 h.lt
structure Ni (N j i R:Nat) (l:List UInt8):Prop where
 eq:l=rdk (4*j+i) N
 rest:R=N / 10^(4*j) % 10000 / 10^i
theorem Ni.step {N j i R:Nat} {l:List UInt8} (h:Ni N j i R l) (hi:i<4):Ni N j (i+1) (R / 10) (l++[UInt8.ofNat (48+R % 10)]):=by
 refine⟨?_,by rw[h.rest,dig_up]⟩
 rw[show 4*j+(i+1)=(4*j+i)+1 by omega,rdk_snoc,<-h.eq,h.rest,dig_at hi,Nat.div_div_eq_div_mul,<-Nat.pow_add]
theorem Ni.start {N j:Nat} {A:Int} {l:List UInt8} (h:Nt N j A l) (hA:0<=A):Ni N j 0 (A % 10000).toNat l:=by
 refine⟨h.eq,?_⟩
 have h1:=h.val
 rw[<-h1]
 simp
 omega
theorem Ni.stop {N j R:Nat} {A:Int} {l0 l:List UInt8} (h:Ni N j 4 R l) (h0:Nt N j A l0) (hA:0<A):Nt N (j+1) (A / 10000) l:=by
 have hf:=h0.few hA
 refine⟨by rw[h.eq,show 4*(j+1)=4*j+4 by omega],?_,h0.lt,by omega⟩
 have h1:=h0.val
 rw[show 4*(j+1)=4*j+4 by omega,Nat.pow_add,<-Nat.div_div_eq_div_mul,<-h1]
 omega
theorem Ni.len {N j i R:Nat} {l:List UInt8} (h:Ni N j i R l):l.length=4*j+i:=by rw[h.eq,zin]
theorem zmg {a b:List UInt8} {i:Nat} (h:i<a.length):(a++b).getD i 0=a.getD i 0:=by simp[List.getD,List.getElem?_append_left h]
theorem getD_rep {a:List UInt8} {m i:Nat} (h1:a.length<=i) (h2:i<a.length+m):(a++List.replicate m 48).getD i 0=48:=by
 simp[List.getD,List.getElem?_append_right h1]
 rw[List.getElem?_replicate_of_lt (by omega)];rfl
theorem u8_of (R:Nat):(Value.int .u8 (48+(R:Int) % 10))=.int .u8 (UInt8.ofNat (48+R % 10)).toNat:=by rw[u8_digit]
theorem zdr (x:Int):∀u∈[Value.int .u8 x],u.oneCell'=true:=ints_oneCell .u8 [x]
theorem zfv {w:World} {v:Value} {xs:List Int} (hx:Sl16 w v xs) (cx:Canon xs) (hv:val16 xs<pw 64):
  Calls Tryz.prog 187 #[v] w (Rt w (.string ⟨(Lib.decDigits (val16 xs).toNat).toArray⟩)):=by
 obtain⟨i0,hi,hz0,hz1,hz2⟩:=info_parts (show(Tryz.prog.info? 5).map (fun i=>(i.zero,i.size,i.bytes))=some (some (.int .u8 0),1,1) by kernel_rfl)
 by_cases hne:xs=[]
 ·subst hne
  obtain⟨_,_,q,cap,rfl,_,_⟩:=hx
  go_enter Tryz.func187,Tryz.ntmps187
  go_wp2
  go_ret
  exact⟨by rw[show (val16 []).toNat=0 by rfl,Lib.decDigits];rfl,Below.refl _ _⟩
 ·have dx:=hx.1
  have bB:0<val16 xs:=za6 dx cx hne
  have hl0:((xs.length:Int)==0)=false:=by
   have:xs.length≠0:=fun e=>hne (List.eq_nil_of_length_eq_zero e)
   simp;exact hne
  have hN0:(val16 xs).toNat≠0:=by omega
  have hNt:Hid (Nt (val16 xs).toNat 0 (val16 xs) []):=⟨rfl,by simp,by have:=zgm;omega,by omega⟩
  have hx':Hid (Sl16 w v xs):=hx
  have cx':Hid (Canon xs):=cx
  have hv':Hid (val16 xs<pw 64):=hv
  obtain⟨q,cap,rfl⟩:=hx.form
  generalize hN:(val16 xs).toNat=N at*
  rw[zjg N hN0]
  have je:Hid (rd N≠[]):=rd_ne hN0
  have jf:Hid ((rd N).getD ((rd N).length - 1) 0≠48):=rd_last N hN0
  have hrr:Hid (∀k,N<10^k->rdk k N=rd N++List.replicate (k - (rd N).length) 48):=fun k hk=>rdk_rd k N hk
  generalize rd N=T at*
  clear hx cx hv bB dx
  go_enter Tryz.func187,Tryz.ntmps187
  go_wp2
  go_loopw [0,3] (fun a0 b3 wr=>∃(ys:List Int) (l:List UInt8) (j n3:Nat) (q3:Option Addr) (c3:Nat),b3=.slice q3 n3 c3/\Hid (n3=l.length)/\Hid (Sl16 wr a0 ys)/\Hid (Canon ys)/\Hid (val16 ys<pw 64)/\Hid (OwB wr w.heap.size (.slice q3 n3 c3) l)/\Hid (Nt N j (val16 ys) l)/\Below w.heap.size w wr) (fun a0 _ wr=>valAt wr a0)
  case atStart=>exact⟨xs,[],0,0,none,0,rfl,rfl,hx',cx',hv',OwB.nil _ _,hNt,Below.refl _ _⟩
  case round=>
   clear hx' cx' hv' hNt hl0
   obtain⟨ys,l,j,n3,q3,c3,rfl,hn3,hy,cy,vy,hB,hnt,hbw⟩:=hrel
   obtain⟨q,cap,rfl⟩:=hy.out.form
   have hws:=hbw.size
   by_cases hys:ys=[]
   ·have hy0:(ys.length:Int)=0:=by rw[hys];rfl
    have hv0:(val16 ys).toNat=0:=by rw[hys];rfl
    have hlt:N<10^(4*j):=by
     have:=hnt.out.val
     rw[hv0] at this
     exact(Nat.div_eq_zero_iff_lt (Nat.pow_pos (by decide))).1 this.symm
    have hl:l=T++List.replicate (4*j - T.length) 48:=by rw[hnt.out.eq,hrr.out _ hlt]
    have hT1:=je.out
    have hT2:=jf.out
    have hT0:1<=T.length:=by
     have:T.length≠0:=fun e=>hT1 (List.eq_nil_of_length_eq_zero e)
     omega
    obtain⟨tl,ht⟩:∃tl,T.length=tl+1:=⟨T.length - 1,by omega⟩
    obtain⟨n,hn⟩:∃n,l.length=n:=⟨_,rfl⟩
    have gY:=hn3.out.symm
    rw[hn] at gY
    clear hn3
    subst gY
    have hn1:tl+1<=n:=by rw[<-hn,hl,List.length_append];omega
    have hn2:n<=1000:=by rw[<-hn,hnt.out.len];have:=hnt.out.le;omega
    obtain⟨g,cb,hq3,hg1,hg2,hcb,aj⟩:=hB.out.blk (by intro e;rw[e] at hn;simp at hn;omega)
    rw[hn] at hcb aj hq3
    cases hq3
    obtain⟨G,hG1,hG2⟩:∃G,G<=wr.heap.size/\wr.heap.size<=G:=⟨_,Nat.le_refl _,Nat.le_refl _⟩
    have hgG:g<G:=by omega
    have c1:Hid (∀i,i<tl+1->wr.cell? ⟨g,i,none⟩=some (.int .u8 (T.getD i 0).toNat)):=fun i hi=>by
     rw[aj i (by omega),hl,zmg (by omega)]
    have c2:Hid (∀i,tl+1<=i->i<n->wr.cell? ⟨g,i,none⟩=some (.int .u8 48)):=fun i h1 h2=>by
     have hn':=hn
     rw[hl,List.length_append,List.length_replicate] at hn'
     rw[aj i h2,hl,getD_rep (by omega) (by omega)];rfl
    have cV:tl=0\/(((T.getD tl 0).toNat:Int)==48)=false:=by
     right
     rw[ht] at hT2
     simp only[Nat.add_sub_cancel] at hT2
     simp
     intro e
     exact hT2 (by apply UInt8.toNat_inj.1;simp;omega)
    clear hy aj hl hB hnt hT1 hT2 hlt hv0
    go_wp2
    go_loop [6] (fun i=>∃d:Nat,tl<=d/\d<n/\i=.int .i64 ((d+1:Nat):Int)) (fun i=>(intOf i).toNat)
    case atStart=>exact⟨n - 1,by omega,by omega,by rw[show n - 1+1=n by omega]⟩
    case round=>
     obtain⟨d,hd1,hd2,rfl⟩:=hrel
     by_cases hgt:tl<d
     ·have c:=c2.out d (by omega) hd2
      clear c1 c2
      go_wp2
      go_round
      case rel=>exact⟨d - 1,by omega,by omega,by go_num⟩
      case measure=>simp[intOf];omega
     ·obtain rfl:d=tl:=by omega
      have c:=c1.out d (by omega)
      clear c2
      by_cases hd0:d=0
      ·clear cV
       go_wp2_with (at_make;refine wpList_make_own _ rfl _ _ 41 rfl G 5 i0 (.int .u8 0) 1 Tryz.underlying41 hi hz0 hz1 _ _ _ (d+1) rfl rfl (by omega) (by rw[hz2];omega) (by unfold maxLen;omega) (by omega) ?_)
       intro wm az aC
       have hB7:=zab az
       have BWm:Below w.heap.size w wm:=hbw.grown aC hws (fun _ h=>by cases h)
       have cm:Hid (∀i,i<d+1->wm.cell? ⟨g,i,none⟩=some (.int .u8 (T.getD i 0).toNat)):=fun i hi=>aC.cell (c1.out i hi) (by simp)
       have hwm:G<=wm.heap.size:=Nat.le_trans hG1 aC.size
       clear az aC c1
       go_wp2
       go_loopw [7,8] (fun b i wq=>∃(m n7:Nat) (q7:Option Addr) (c7:Nat),b=.slice q7 n7 c7/\Hid (n7=d+1 - m)/\m<=d+1/\i=.int .i64 ((m:Int) - 1)/\Hid (OwB wq G (.slice q7 n7 c7) (T.drop m).reverse)/\Hid (∀i,i<d+1->wq.cell? ⟨g,i,none⟩=some (.int .u8 (T.getD i 0).toNat))/\Below w.heap.size w wq/\G<=wq.heap.size) (fun _ i _=>(intOf i+1).toNat)
       case atStart=>exact⟨d+1,0,_,_,rfl,by show 0=d+1 - (d+1);omega,Nat.le_refl _,by rw[hd0];go_num,by rw[List.drop_of_length_le (by omega)];exact hB7,cm,BWm,hwm⟩
       case round=>
        clear hB7 cm BWm hwm
        obtain⟨m,n7,q7,c7,rfl,hn7,hm,rfl,hB,hc,hbq,hwq⟩:=hrel
        match m,hm,hB,hn7 with
        | 0,hm,hB,hn7=>
         have hcv:=hB.out.conv (by rw[List.drop_zero];intro e;rw[List.reverse_eq_nil_iff] at e;rw[e] at ht;simp at ht)
         rw[List.drop_zero] at hcv
         go_wp2
         go_ret
         exact⟨rfl,hbq⟩
        | m+1,hm,hB,hn7=>
         have e1:((m+1:Nat):Int) - 1=(m:Int):=by omega
         rw[e1]
         have c:=hc.out m (by omega)
         have hdr:(T.drop m).reverse=(T.drop (m+1)).reverse++[T.getD m 0]:=by
          rw[List.drop_eq_getElem_cons (by omega),List.reverse_cons]
          simp[show m<T.length by omega]
         have ae:(T.drop (m+1)).reverse.length=n7:=by have:=hn7.out;simp;omega
         have jg:n7<=d:=by have:=hn7.out;omega
         have af:=hB.out.row ae
         have dZ:=zab ae
         clear ae
         generalize T.getD m 0=x at c hdr
         go_wp2_with (at_builtin;refine wpList_append_own _ rfl _ _ 41 rfl G 5 i0 (.int .u8 0) 1 1 Tryz.underlying41 hi hz0 hz1 hz2 rfl (by decide) _ _ _ rfl (af.alloc _) ⟨wr.heap.size,0,none⟩ 1 1 [.int .u8 x.toNat] rfl rfl (World.news_of_block (heap_alloc_last wr (.cells #[.int .u8 x.toNat] 5))) (zdr _) (by unfold maxLen;omega) (by omega) (by simp;omega) ?_;intro v' w2 aA ap _;obtain⟨q',c',rfl⟩:=zbr aA)
         go_roundw
         case rel=>
          refine⟨m,_,q',c',rfl,by show _=d+1 - m;have:=hn7.out;omega,by omega,by go_num,?_,fun i hi=>?_,(hbq.alloc hbq.size _).grown ap (by simp;omega) (fun k hk=>by have:=(hB.out.lt k hk).1;omega),by have:=ap.size;simp at this;omega⟩
          ·show OwB _ _ _ _
           rw[hdr]
           exact OwB.snoc aA dZ.out
          ·refine ap.cell (((zaa wr _).cell (by show g<_;omega)).trans (hc.out i hi)) fun e=>?_
           have:=(hB.out.lt g e.symm).1
           omega
         case measure=>simp[intOf]
      ·have h0:=cV.resolve_left hd0
       clear cV
       generalize (T.getD d 0).toNat=x0 at c h0
       have hd0':0<d:=by omega
       go_wp2_with (at_make;refine wpList_make_own _ rfl _ _ 41 rfl G 5 i0 (.int .u8 0) 1 Tryz.underlying41 hi hz0 hz1 _ _ _ (d+1) rfl rfl (by omega) (by rw[hz2];omega) (by unfold maxLen;omega) (by omega) ?_)
       intro wm az aC
       have hB7:=zab az
       have BWm:Below w.heap.size w wm:=hbw.grown aC hws (fun _ h=>by cases h)
       have cm:Hid (∀i,i<d+1->wm.cell? ⟨g,i,none⟩=some (.int .u8 (T.getD i 0).toNat)):=fun i hi=>aC.cell (c1.out i hi) (by simp)
       have hwm:G<=wm.heap.size:=Nat.le_trans hG1 aC.size
       clear az aC c1
       go_wp2
       go_loopw [7,8] (fun b i wq=>∃(m n7:Nat) (q7:Option Addr) (c7:Nat),b=.slice q7 n7 c7/\Hid (n7=d+1 - m)/\m<=d+1/\i=.int .i64 ((m:Int) - 1)/\Hid (OwB wq G (.slice q7 n7 c7) (T.drop m).reverse)/\Hid (∀i,i<d+1->wq.cell? ⟨g,i,none⟩=some (.int .u8 (T.getD i 0).toNat))/\Below w.heap.size w wq/\G<=wq.heap.size) (fun _ i _=>(intOf i+1).toNat)
       case atStart=>exact⟨d+1,0,_,_,rfl,by show 0=d+1 - (d+1);omega,Nat.le_refl _,by go_num,by rw[List.drop_of_length_le (by omega)];exact hB7,cm,BWm,hwm⟩
       case round=>
        clear hB7 cm BWm hwm
        obtain⟨m,n7,q7,c7,rfl,hn7,hm,rfl,hB,hc,hbq,hwq⟩:=hrel
        match m,hm,hB,hn7 with
        | 0,hm,hB,hn7=>
         have hcv:=hB.out.conv (by rw[List.drop_zero];intro e;rw[List.reverse_eq_nil_iff] at e;rw[e] at ht;simp at ht)
         rw[List.drop_zero] at hcv
         go_wp2
         go_ret
         exact⟨rfl,hbq⟩
        | m+1,hm,hB,hn7=>
         have e1:((m+1:Nat):Int) - 1=(m:Int):=by omega
         rw[e1]
         have c:=hc.out m (by omega)
         have hdr:(T.drop m).reverse=(T.drop (m+1)).reverse++[T.getD m 0]:=by
          rw[List.drop_eq_getElem_cons (by omega),List.reverse_cons]
          simp[show m<T.length by omega]
         have ae:(T.drop (m+1)).reverse.length=n7:=by have:=hn7.out;simp;omega
         have jg:n7<=d:=by have:=hn7.out;omega
         have af:=hB.out.row ae
         have dZ:=zab ae
         clear ae
         generalize T.getD m 0=x at c hdr
         go_wp2_with (at_builtin;refine wpList_append_own _ rfl _ _ 41 rfl G 5 i0 (.int .u8 0) 1 1 Tryz.underlying41 hi hz0 hz1 hz2 rfl (by decide) _ _ _ rfl (af.alloc _) ⟨wr.heap.size,0,none⟩ 1 1 [.int .u8 x.toNat] rfl rfl (World.news_of_block (heap_alloc_last wr (.cells #[.int .u8 x.toNat] 5))) (zdr _) (by unfold maxLen;omega) (by omega) (by simp;omega) ?_;intro v' w2 aA ap _;obtain⟨q',c',rfl⟩:=zbr aA)
         go_roundw
         case rel=>
          refine⟨m,_,q',c',rfl,by show _=d+1 - m;have:=hn7.out;omega,by omega,by go_num,?_,fun i hi=>?_,(hbq.alloc hbq.size _).grown ap (by simp;omega) (fun k hk=>by have:=(hB.out.lt k hk).1;omega),by have:=ap.size;simp at this;omega⟩
          ·show OwB _ _ _ _
           rw[hdr]
           exact OwB.snoc aA dZ.out
          ·refine ap.cell (((zaa wr _).cell (by show g<_;omega)).trans (hc.out i hi)) fun e=>?_
           have:=(hB.out.lt g e.symm).1
           omega
         case measure=>simp[intOf]
   ·have hp:0<val16 ys:=za6 hy.out.1 cy.out hys
    have hyl:(0:Int)<(ys.length:Int):=by
     have:ys.length≠0:=fun e=>hys (List.eq_nil_of_length_eq_zero e)
     omega
    have lys:ys.length<=2*64:=(zdt hy.out.1 cy.out 64).2 vy.out
    have hfew:=hnt.out.few hp
    have hsm:=zg5 hy.out hys (by omega) 10000 (by omega) (by omega)
    have hva:=hy.out.valAt
    go_wp2_with (go_at_call 201;refine hsm.mono ?_;rintro e w1 ⟨r,zs,rfl,hz,cz,ez,hb1,am⟩)
    have hR:val16 ys % 10000=(((val16 ys % 10000).toNat:Nat):Int):=by omega
    have hni:Hid (Ni N j 0 (val16 ys % 10000).toNat l):=Ni.start hnt.out (by omega)
    have dV:(val16 ys % 10000).toNat<10000:=by omega
    rw[hR]
    generalize (val16 ys % 10000).toNat=R0 at*
    have hW:Hid (W16 w1 r zs):=⟨hz,by obtain⟨n,c,cs,fr,e,h⟩:=am;exact⟨_,n,c,cs,fr,e,h⟩⟩
    have hB1:=zab (hB.out.below hb1)
    have BW1:Below w.heap.size w w1:=hbw.trans (hb1.mono hws)
    have hzv:Hid (val16 zs<pw 64):=by
     show val16 zs<pw 64
     have:=vy.out
     omega
    clear hB hb1 am hz hsm hR
    go_loopw [3,5,20] (fun b t5 t20 wq=>∃(i R:Nat) (m:List UInt8) (nm:Nat) (qm:Option Addr) (cm:Nat),b=.slice qm nm cm/\Hid (nm=m.length)/\t20=.int .i64 i/\i<=4/\t5=.int .u32 R/\R<10000/\Hid (Ni N j i R m)/\Hid (OwB wq w.heap.size (.slice qm nm cm) m)/\Hid (W16 wq r zs)/\Below w.heap.size w wq) (fun _ _ i _=>4 - (intOf i).toNat)
    case atStart=>exact⟨0,R0,l,n3,q3,c3,rfl,hn3,by go_num,by omega,rfl,dV,hni,hB1,hW,BW1⟩
    case round=>
     clear hni hB1 hW BW1 dV
     obtain⟨i,R,m,nm,qm,cm,rfl,hnm,rfl,hi4,rfl,hR,hni,hB,hW,hbq⟩:=hrel
     by_cases hlt:i<4
     ·have eO:nm<=4*j+i:=by rw[hnm.out,hni.out.len];exact Nat.le_refl _
      have af:=hB.out.row hnm.out.symm
      have hqs:=hbq.size
      go_wp2_with (at_builtin;refine wpList_append_own _ rfl _ _ 41 rfl w.heap.size 5 i0 (.int .u8 0) 1 1 Tryz.underlying41 hi hz0 hz1 hz2 rfl (by decide) _ _ _ rfl (af.alloc _) ⟨wr.heap.size,0,none⟩ 1 1 [.int .u8 (48+(R:Int) % 10)] rfl rfl (World.news_of_block (heap_alloc_last wr (.cells #[.int .u8 (48+(R:Int) % 10)] 5))) (zdr _) (by unfold maxLen;omega) (by omega) (by simp;omega) ?_;intro v' w2 aA ap _;obtain⟨q',c',rfl⟩:=zbr aA)
      go_roundw
      case rel=>
       refine⟨i+1,R / 10,m++[UInt8.ofNat (48+R % 10)],nm+1,q',c',rfl,by show _=_;rw[List.length_append,<-hnm.out];rfl,by go_num,by omega,by go_num,by omega,hni.out.step hlt,?_,?_,?_⟩
       ·rw[u8_of] at aA
        exact OwB.snoc aA hnm.out.symm
       ·exact(hW.out.alloc _).keep (af.alloc _) ap
       ·exact(hbq.alloc hqs _).grown ap (by simp;omega) (fun k hk=>(af.lt k hk).1)
      case measure=>simp[intOf];omega
     ·have hi':i=4:=by omega
      subst hi'
      go_wp2
      go_roundw
      case rel=>
       exact⟨zs,m,j+1,nm,qm,cm,rfl,hnm,hW.out.1,cz,hzv,hB,by show Nt N (j+1) (val16 zs) m;rw[ez];exact hni.out.stop hnt.out (by omega),hbq⟩
      case measure=>
       rw[hW.out.1.valAt,hva]
       omega
theorem zel {a b:ByteArray} (h:a.data=b.data):Ending.returned (.string a)=.returned (.string b):=by rw[show a=b from ByteArray.ext h]
def ratT (g:Bool) (n d:Int):List UInt8:=(if g then [45] else [])++(Lib.decDigits n.toNat++(if d=1 then [] else 47::Lib.decDigits d.toNat))
theorem zmh {ds:List Int} (dd:Dig16 ds) (cd:Canon ds):val16 ds=1↔ds=[1]:=by
 constructor
 ·intro h
  exact zez dd zky cd (fun m hm=>by simp at hm;subst hm;simp) (by rw[h];rfl)
 ·rintro rfl;rfl
theorem zmi {w:World} {v:Value} {g:Bool} {n d:Int} (h:QAt w v g n d) (hd:1<=d):
  Calls Tryz.prog 62 #[v] w (Rt w (.bool (decide (d=1)))):=by
 obtain⟨a,b,ns,ds,rfl,h2,h3,rfl,h5,h6,rfl⟩:=h
 have bu:=zmh h5.1 h6
 have hne:ds≠[]:=by rintro rfl;simp[val16] at hd
 obtain⟨_,_,q,cap,rfl,_⟩:=h2
 obtain⟨_,_,q',cap',rfl,aD,hx⟩:=h5
 have hl0:((ds.length:Int)==0)=false:=by simp;exact hne
 rcases hx with h | ⟨b,o,rfl,hlt,hc⟩
 ·exact absurd h hne
 by_cases hl:ds.length=1
 ·obtain⟨x,rfl⟩:=List.length_eq_one_iff.1 hl
  have c0:(w.alloc (.cells #[.bool g,.slice q ns.length cap,.slice (some ⟨b,o,none⟩) 1 cap'] 92)).cell? ⟨b,o,none⟩=some (.int .u32 x):=by
   have:=hc 0 (by simp)
   rw[(zaa w _).cell (by exact hlt)]
   simpa using this
  simp only[List.cons.injEq,and_true] at bu
  have e:decide (val16 [x]=1)=(x==1):=by
   rw[show (x==1)=decide (x=1) by rfl,decide_eq_decide];exact bu
  rw[e]
  clear hc bu hd e hne hl hl0
  simp only[List.length_singleton] at c0 ⊢
  go_enter Tryz.func62,Tryz.ntmps62
  go_wp2
  all_goals
   go_ret
   refine⟨?_,zaa _ _⟩
   simp_all
 ·have hne1:((ds.length:Int)==1)=false:=by simp;omega
  have hx:¬val16 ds=1:=fun e=>hl (by rw[bu.1 e];rfl)
  clear hc bu
  go_enter Tryz.func62,Tryz.ntmps62
  go_wp2
  go_ret
  exact⟨by simp[hx],zaa _ _⟩
theorem zkd {w:World} {g K:Bool} {q q':Option Addr} {n n' cap cap':Nat} {A B:List UInt8} (hA:A.length<=1000000) (hB:B.length<=1000000)
  (t1:∀z,Below w.heap.size w z->Calls Tryz.prog 187 #[.slice q n cap] z (Rt z (.string ⟨A.toArray⟩)))
  (t2:∀z,Below w.heap.size w z->Calls Tryz.prog 187 #[.slice q' n' cap'] z (Rt z (.string ⟨B.toArray⟩)))
  (tw:∀z,Below w.heap.size w z->Calls Tryz.prog 62 #[.agg #[.bool g,.slice q n cap,.slice q' n' cap']] z (Rt z (.bool K))):
  Calls Tryz.prog 105 #[.agg #[.bool g,.slice q n cap,.slice q' n' cap']] w (Rt w (.string ⟨((if g then [45] else [])++(A++if K then [] else 47::B)).toArray⟩)):=by
 have hb0:=zaa w (.cells #[.bool g,.slice q n cap,.slice q' n' cap'] 92)
 have t1':=t1 _ hb0
 have t2':=zab t2
 have tw':=zab tw
 have c0:Hid ((w.alloc (.cells #[.bool g,.slice q n cap,.slice q' n' cap'] 92)).heap[w.heap.size]?=some (.cells #[.bool g,.slice q n cap,.slice q' n' cap'] 92 (0,0))):=heap_alloc_new w _
 clear t1 t2 tw
 go_enter Tryz.func105,Tryz.ntmps105
 go_upto_region 2 with(go_at_call 187;refine t1'.mono ?_;rintro e w1 ⟨rfl,hb1⟩)
 have hs1:w.heap.size<w1.heap.size:=by have:=hb1.size;simp at this;omega
 have BW:Hid (Below w.heap.size w w1):=hb0.trans (hb1.mono (by simp))
 have k0:w1.heap[w.heap.size]?=some (.cells #[.bool g,.slice q n cap,.slice q' n' cap'] 92 (0,0)):=by rw[hb1.block _ (by simp)];exact c0.out
 have y0:w1.cell? ⟨w.heap.size,0,none⟩=some (.bool g):=by simp[World.cell?,k0]
 have y1:w1.cell? ⟨w.heap.size,1,none⟩=some (.slice q n cap):=by simp[World.cell?,k0]
 have y2:w1.cell? ⟨w.heap.size,2,none⟩=some (.slice q' n' cap'):=by simp[World.cell?,k0]
 clear k0 c0 hb1 t1' hb0
 cases g<;>cases K
 all_goals
  go_wp2_with (first
   | (go_at_call 62;refine(tw'.out w1 BW.out).mono ?_;rintro e w2 ⟨rfl,hb2⟩;have y3:w2.cell? ⟨w.heap.size,2,none⟩=some (.slice q' n' cap'):=(hb2.cell (by exact hs1)).trans y2;have B2:=BW.out.trans (hb2.mono BW.out.size);have t3:=t2'.out w2 B2;clear y0 y1 y2 hb2)
   | (go_at_call 187;refine t3.mono ?_;rintro e w3 ⟨rfl,hb3⟩))
  go_ret
  first
   | exact⟨zel (by simp),B2⟩
   | exact⟨zel (by simp),B2.trans (hb3.mono B2.size)⟩
theorem zca {n:Int} (h:n<pw 64):(Lib.decDigits n.toNat).length<=617:=by
 by_cases h0:n.toNat=0
 ·rw[h0,Lib.decDigits];simp
 ·rw[zjg _ h0,List.length_reverse]
  have:=zgm
  exact zjh 617 _ (by omega)
theorem ratT_len {g:Bool} {n d:Int} (hn:n<pw 64) (hd:d<pw 64):(ratT g n d).length<=1236:=by
 have h1:=zca hn
 have h2:=zca hd
 unfold ratT
 cases g<;>by_cases h:d=1<;>simp[h]<;>omega
theorem zcz {w:World} {v:Value} {g:Bool} {n d:Int} (h:QAt w v g n d) (hd:1<=d) (hn2:n<pw 64) (hd2:d<pw 64):
  Calls Tryz.prog 105 #[v] w (Rt w (.string ⟨(ratT g n d).toArray⟩)):=by
 have tw:=fun z (hz:Below w.heap.size w z)=>zmi (h.below hz) hd
 obtain⟨a,b,ns,ds,rfl,h2,h3,rfl,h5,h6,rfl⟩:=h
 have t1:=fun z (hz:Below w.heap.size w z)=>zfv (h2.below hz) h3 hn2
 have t2:=fun z (hz:Below w.heap.size w z)=>zfv (h5.below hz) h6 hd2
 obtain⟨q,cap,rfl⟩:=h2.form
 obtain⟨q',cap',rfl⟩:=h5.form
 have:=zkd (by have:=zca hn2;omega) (by have:=zca hd2;omega) t1 t2 tw
 unfold ratT
 simpa using this
theorem zjd (g:Bool) (n:Int) (h:n=0->g=false) (_hn:0<=n):mkG g n 1=g/\mkN n 1=n/\mkD n 1=1:=by
 unfold mkG mkN mkD
 rw[zi9]
 by_cases h0:n=0
 ·simp[h0,h h0]
 ·simp[h0]
theorem zmj (w:World) (n:Int) (h0:-9223372036854775808<=n) (h1:n<=9223372036854775807):
  Calls Tryz.prog 37 #[.int .i64 n] w fun e w'=>∃v,e=.returned v/\QAt w' v (decide (n<0)) n.natAbs 1/\Below w.heap.size w w':=by
 have am:=QNew.made w
 have hb0:=zaa w (.cells #[.bool false,.slice none 0 0,.slice none 0 0] 92)
 obtain⟨dd,hu,hd⟩:=zlw
 by_cases fL:n<0
 ·go_enter Tryz.func37,Tryz.ntmps37
  go_wp2_with (first
   | (go_at_call 64;with_reducible refine(zbs _ 1 (by omega) (by omega)).mono ?_;rintro e w2 ⟨r2,z2,rfl,s2,k2,v2,l2,hb2⟩
      have hmk:=zgg (g:=true) (s1.below hb2) s2 k1 k2 (by omega) (by omega))
   | (go_at_call 64;with_reducible refine(zbs _ (-(n+1)+1) (by omega) (by omega)).mono ?_;rintro e w1 ⟨r1,z1,rfl,s1,k1,v1,l1,hb1⟩)
   | (go_at_call 63;with_reducible refine hmk.mono ?_;rintro e w3 ⟨v,rfl,hQ,hb3⟩
      have aU:Below (w.alloc (.cells #[.bool false,.slice none 0 0,.slice none 0 0] 92)).heap.size (w.alloc (.cells #[.bool false,.slice none 0 0,.slice none 0 0] 92)) w3:=hb1.trans ((hb2.trans (hb3.mono hb2.size)).mono hb1.size)
      obtain⟨e1,e2,e3⟩:=zjd true (val16 z1) (by first | (intro _;rfl) | omega) (by omega)
      rw[v2,e1,e2,e3] at hQ
      obtain⟨a,b,ns,ds,rfl,h2,h3,h4,h5,h6,h7⟩:=hQ
      obtain⟨qn,kn,rfl⟩:=h2.form
      obtain⟨qd,kd,rfl⟩:=h5.form
      obtain⟨hk,af⟩:=zlx (g:=true) am hb0 aU h2 h3 h4 h5 h6 h7
      have h9:=am.below aU
      have c0:=h9.c0
      have c1:=h9.c1
      have c2:=h9.c2
      have fr:=h9.fr
      have hv:=zab v1
      clear hb3 h9 am hb0 hb2 aU hb1 hmk h2 h3 h4 h5 h6 h7 v1 v2 e1 e2 e3 s1 s2))
  refine bodyPost_ret (zaj rfl _ _ w.heap.size _ dd rfl af hu hd zdq) rfl ?_
  have hv:=hv.out
  rw[hv] at hk
  refine⟨_,rfl,?_,hk.out.2⟩
  rw[show ((n.natAbs:Nat):Int)=-(n+1)+1 by omega,show decide (n<0)=true by simp;omega]
  exact hk.out.1
 ·have hneg':0<=n:=by omega
  go_enter Tryz.func37,Tryz.ntmps37
  go_wp2_with (first
   | (go_at_call 64;with_reducible refine(zbs _ 1 (by omega) (by omega)).mono ?_;rintro e w2 ⟨r2,z2,rfl,s2,k2,v2,l2,hb2⟩
      have hmk:=zgg (g:=false) (s1.below hb2) s2 k1 k2 (by omega) (by omega))
   | (go_at_call 64;with_reducible refine(zbs _ (n) (by omega) (by omega)).mono ?_;rintro e w1 ⟨r1,z1,rfl,s1,k1,v1,l1,hb1⟩)
   | (go_at_call 63;with_reducible refine hmk.mono ?_;rintro e w3 ⟨v,rfl,hQ,hb3⟩
      have aU:Below (w.alloc (.cells #[.bool false,.slice none 0 0,.slice none 0 0] 92)).heap.size (w.alloc (.cells #[.bool false,.slice none 0 0,.slice none 0 0] 92)) w3:=hb1.trans ((hb2.trans (hb3.mono hb2.size)).mono hb1.size)
      obtain⟨e1,e2,e3⟩:=zjd false (val16 z1) (by first | (intro _;rfl) | omega) (by omega)
      rw[v2,e1,e2,e3] at hQ
      obtain⟨a,b,ns,ds,rfl,h2,h3,h4,h5,h6,h7⟩:=hQ
      obtain⟨qn,kn,rfl⟩:=h2.form
      obtain⟨qd,kd,rfl⟩:=h5.form
      obtain⟨hk,af⟩:=zlx (g:=false) am hb0 aU h2 h3 h4 h5 h6 h7
      have h9:=am.below aU
      have c0:=h9.c0
      have c1:=h9.c1
      have c2:=h9.c2
      have fr:=h9.fr
      have hv:=zab v1
      clear hb3 h9 am hb0 hb2 aU hb1 hmk h2 h3 h4 h5 h6 h7 v1 v2 e1 e2 e3 s1 s2))
  refine bodyPost_ret (zaj rfl _ _ w.heap.size _ dd rfl af hu hd zdq) rfl ?_
  have hv:=hv.out
  rw[hv] at hk
  refine⟨_,rfl,?_,hk.out.2⟩
  rw[show ((n.natAbs:Nat):Int)=n by omega,show decide (n<0)=false by simp;omega]
  exact hk.out.1
theorem zeq:(9223372036854775808:Int)<pw 64:=by decide +kernel
theorem zhi (n:Int):ratT (decide (n<0)) n.natAbs 1=Lib.itoa n:=by
 unfold ratT Lib.itoa
 by_cases h:n<0
 ·simp[h]
 ·simp[h];congr 1;omega
theorem zfw (w:World) (n:Int) (h0:-9223372036854775808<=n) (h1:n<=9223372036854775807):
  Calls Tryz.prog 300 #[.int .i64 n] w (Rt w (.string ⟨(Lib.itoa n).toArray⟩)):=by
 have hi:=zmj w n h0 h1
 rw[<-zhi]
 go_enter Tryz.func300,Tryz.ntmps300
 go_wp2_with (first
  | (go_at_call 37;refine hi.mono ?_;rintro e w1 ⟨v,rfl,hQ,hb1⟩;have ht:=zcz hQ (by omega) (by have:=zeq;omega) (by have:=zeq;omega))
  | (go_at_call 105;refine ht.mono ?_;rintro e w2 ⟨rfl,hb2⟩))
 go_ret
 exact⟨rfl,hb1.trans (hb2.mono hb1.size)⟩
theorem zb0 (w:World) (n:Int) (h0:-9223372036854775808<=n) (h1:n<=9223372036854775807):
  Calls Tryz.prog 57 #[.int .i64 n] w (Rt w (.string ⟨(Lib.itoa n).toArray⟩)):=by
 have hi:=zmj w n h0 h1
 rw[<-zhi]
 go_enter Tryz.func57,Tryz.ntmps57
 go_wp2_with (first
  | (go_at_call 37;refine hi.mono ?_;rintro e w1 ⟨v,rfl,hQ,hb1⟩;have ht:=zcz hQ (by omega) (by have:=zeq;omega) (by have:=zeq;omega))
  | (go_at_call 105;refine ht.mono ?_;rintro e w2 ⟨rfl,hb2⟩))
 go_ret
 exact⟨rfl,hb1.trans (hb2.mono hb1.size)⟩
end Go.Proofs.YtnnhofmknilopaaGreatDoor
