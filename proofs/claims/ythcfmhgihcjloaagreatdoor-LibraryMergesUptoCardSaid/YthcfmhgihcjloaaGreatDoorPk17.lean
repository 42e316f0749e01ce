import Derived.Test.YthcfmhgihcjloaaGreatDoorPk16
namespace Go.Proofs.YthcfmhgihcjloaaGreatDoor
open Go Go.RowKit Tryz
set_option maxRecDepth 100000
set_option maxHeartbeats 16000000
variable {s:ByteArray}
def bt (s:ByteArray) (i:Nat):Nat:=if h:i<s.size then(s[i]'h).toNat else 0
theorem yu {i:Nat} (h:i<s.size):(s[i]'h).toNat=bt s i:=by unfold bt;rw[dif_pos h]
def dJ (c:Nat):Bool:=decide (97<=c)&&decide (c<=122)
def eW (c:Nat):Bool:=decide (48<=c)&&decide (c<=57)
def dK (s:ByteArray):Bool:=decide (0<s.size)&&dJ (bt s 0)&&(List.range s.size).all λi=>dJ (bt s i)||eW (bt s i)
theorem Na (c:Nat) (w:World):cN 114 #[.int .u8 c] w λe w'=>e=.returned (.bool<|dJ c)/\w'=w:=by
 unfold dJ;by_cases h1:97<=c
 .have a:(c:Int)>=97:=by omega
  by_cases h2:c<=122
  .have b:(c:Int)<=122:=(by omega);go_enter func114,ntmps114;go_wp2;go_ret;exact⟨by simp[h1,h2],rfl⟩
  have b:¬(c:Int)<=122:=(by omega);go_enter func114,ntmps114;go_wp2;go_ret;exact⟨by simp,rfl⟩
 have a:¬(c:Int)>=97:=by omega
 go_enter func114,ntmps114;go_wp2;go_ret;exact⟨by simp,rfl⟩
theorem yv (c:Nat) (w:World):cN 115 #[.int .u8 c] w λe w'=>e=.returned (.bool<|eW c)/\w'=w:=by
 unfold eW;by_cases h1:48<=c
 .have a:(c:Int)>=48:=by omega
  by_cases h2:c<=57
  .have b:(c:Int)<=57:=(by omega);go_enter func115,ntmps115;go_wp2;go_ret;exact⟨by simp[h1,h2],rfl⟩
  have b:¬(c:Int)<=57:=(by omega);go_enter func115,ntmps115;go_wp2;go_ret;exact⟨by simp,rfl⟩
 have a:¬(c:Int)>=48:=by omega
 go_enter func115,ntmps115;go_wp2;go_ret;exact⟨by simp,rfl⟩
theorem AI (s:ByteArray):(s.toList==[])=decide (s.size=0):=by
 have h:s.toList.length=s.size:=by rw[qQ,Array.length_toList];rfl
 cases b:s.toList with
 | nil=>
  rw[b] at h;have h2:s.size=0:=by simpa using h.symm
  rw[lh h2];rfl
 | cons a l=>
  rw[b] at h;have h2:¬s.size=0:=by simp at h;omega
  rw[kQ h2];rfl
theorem yw (s:ByteArray) (w:World) (F:s.size<=1099511627776):
  cN 83 #[.string s] w λe w'=>∃n:Nat,e=.returned (.int .i64 n)/\n<=s.size/\(n=s.size↔s.size=0\/dK s=true)/\w'=w:=by
 by_cases h0:s.size=0
 .have y:(s.toList==[])=true:=by rw[AI];simp[h0]
  go_enter func83,ntmps83;go_wp2;go_ret;exact⟨0,rfl,by omega,by simp[h0],rfl⟩
 have y:(s.toList==[])=false:=by rw[AI];simp[h0]
 have G:(0:Int)<s.size:=by omega
 have l:0<s.size:=by omega
 have r:=yu l;have m:Hid (dJ (bt s 0)=false->dK s=false):=λh=>by unfold dK;simp[h]
 have f:=Na (bt s 0) w
 cases b:dJ (bt s 0) with
 | false=>rw[b] at f;have o:=m.out b;clear m b;go_enter func83,ntmps83;go_wp2_with (go_at_call 114;with_reducible refine f.mono ?_;rintro e a ⟨rfl,rfl⟩);go_ret;exact⟨0,rfl,by omega,⟨λh=>absurd h.symm h0,λh=>h.elim (λh=>absurd h h0) λh=>by rw[o] at h;cases h⟩,rfl⟩
 | true=>
  rw[b] at f;have z:Hid ((∀i,i<s.size->(dJ (bt s i)||eW (bt s i))=true)->dK s=true):=λh=>(by unfold dK;rw[lh l,b];simp only[pg,lj];intro i hi;exact h i<|kP.1 hi);have A:Hid (∀i,i<s.size->(dJ (bt s i)||eW (bt s i))=false->dK s=false):=λi hi h=>(by unfold dK;have:((List.range s.size).all λi=>dJ (bt s i)||eW (bt s i))=false:=(by rw[lV];exact⟨i,kP.2 hi,by rw[h];simp⟩);rw[this];simp);have C:Hid (dJ (bt s 0)=true):=b;clear m b;go_enter func83,ntmps83;go_wp2_with (go_at_call 114;with_reducible refine jR f λa j=>?_;subst a);clear r f
  go_loop [3] (λv=>∃k:Nat,1<=k/\k<=s.size/\v=.int .i64 k/\Hid (∀i,i<k->(dJ (bt s i)||eW (bt s i))=true)) (λv=>s.size - (intOf v).toNat)
  case atStart=>exact⟨1,kF _,l,rfl,λi hi=>by
   have:i=0:=(by omega);subst this
   rw[C.out];rfl⟩
  case round=>
   obtain⟨k,E,D,rfl,q⟩:=hrel;by_cases t:k<s.size
   .have am:(k:Int)<s.size:=(by omega);have r:=yu t;have d:=Na (bt s k) w;have g:=yv (bt s k) w
    cases h1:dJ (bt s k) with
    | true=>
     rw[h1] at d;have u:Hid (dJ (bt s k)=true):=h1;clear h1 g;go_wp2_with (go_at_call 114;with_reducible refine jR d λa j=>?_;subst a);go_round
     case rel=>
      refine⟨k+1,by omega,by omega,by go_num,λi hi=>?_⟩
      rcases kS i k with h | h
      .exact q.out i h
      have:i=k:=(by omega);subst this;rw[u.out];rfl
     case measure=>simp[intOf];omega
    | false=>
     rw[h1] at d
     cases h2:eW (bt s k) with
     | true=>
      rw[h2] at g;have x:Hid (eW (bt s k)=true):=h2;clear h1 h2
      go_wp2_with (first
       | (go_at_call 114;with_reducible refine jR d λa j=>?_;subst a)
       | (go_at_call 115;with_reducible refine jR g λa j=>?_;subst a))
      go_round
      case rel=>
       refine⟨k+1,by omega,by omega,by go_num,λi hi=>?_⟩
       rcases kS i k with h | h
       .exact q.out i h
       have:i=k:=(by omega);subst this;rw[x.out,Bool.or_true]
      case measure=>simp[intOf];omega
     | false=>
      rw[h2] at g;have o:=A.out k t (by rw[h1,h2];rfl);clear h1 h2
      go_wp2_with (first
       | (go_at_call 114;with_reducible refine jR d λa j=>?_;subst a)
       | (go_at_call 115;with_reducible refine jR g λa j=>?_;subst a))
      go_ret;exact⟨k,rfl,by omega,⟨λh=>absurd h<|by omega,λh=>h.elim (λh=>absurd h h0) λh=>by rw[o] at h;cases h⟩,rfl⟩
   obtain rfl:k=s.size:=(by omega);have B:Hid _:=z.out q.out;go_wp2;go_ret;exact⟨s.size,rfl,kF _,⟨λ_=>B.out,λ_=>rfl⟩,rfl⟩
end Go.Proofs.YthcfmhgihcjloaaGreatDoor
namespace Go.Proofs.YthcfmhgihcjloaaGreatDoor
open Go Go.Proofs.YthcfmhgihcjloaaGreatDoor.Gx Go.RowKit Tryz
set_option maxRecDepth 100000
set_option maxHeartbeats 16000000
variable {s:ByteArray}
def dV (s:ByteArray):Bool:=decide (s.size<=8)&&(dK s&&!decide (s.toList∈resL))
theorem Sa (s:ByteArray):(Value.string s)=.string ⟨s.toList.toArray⟩:=by rw[qQ]
theorem J0 {w:World} {x:AV} {v:Value} (h:VRel (λ_=>False) w cP x v):LRel (λ_=>False) w cP [x] #[v].toList:=LRel.cons h .nil
theorem Se (s:ByteArray) (w:World):bF w 84 #[.string s] (.bool<|decide (s.toList∈resL)):=by
 rw[Sa];by_cases h:s.toList∈resL
 .refine(Hd (f:=84) (args:=[.str s.toList]) (v:=.bool true) (mP _<|m9.2 ⟨_,h,rfl⟩)<|J0<|.str _).mono ?_;rintro e w' ⟨⟨u,rfl,hu⟩,a⟩;rw[hu.bool_inv,lh h];exact⟨rfl,a⟩
 refine(Hd (f:=84) (args:=[.ostr resL]) (v:=.bool false) (mT _<|mT _<|by unfold JW;simp)<|J0<|.ostr h).mono ?_;rintro e w' ⟨⟨u,rfl,hu⟩,a⟩;rw[hu.bool_inv,kQ h];exact⟨rfl,a⟩
theorem Sf (s:ByteArray) (w:World):bF w 55 #[.string s] (.bool<|dV s):=by
 unfold dV;by_cases i:s.size<=8
 .have o:(s.size:Int)<=8:=by omega
  have g:=yw s w (by omega);have k:=Se s w;rw[lh i];by_cases h0:s.size=0
  .have r:(s.toList==[])=true:=(by rw[AI,lh h0]);have m:dK s=false:=(by unfold dK;rw[kQ<|by omega];rfl);rw[m];clear k m;go_enter func55,ntmps55
   go_wp2_with (go_at_call 83;with_reducible refine g.mono ?_;rintro e d ⟨n,rfl,b,a,l⟩;subst d
                have f:n=0:=(by omega);subst f
                clear b a)
   go_ret;exact⟨rfl,kE _ _⟩
  have r:(s.toList==[])=false:=by rw[AI,kQ h0]
  cases j:dK s with
  | true=>
   go_enter func55,ntmps55
   go_wp2_with (first
    | (go_at_call 83;with_reducible refine g.mono ?_;rintro e d ⟨n,rfl,b,a,l⟩;subst d
       have f:((n:Int)==(s.size:Int))=true:=by have:=a.2<|.inr j;simp;omega
       clear b a)
    | (go_at_call 84;with_reducible refine jR k λt q=>?_))
   go_ret;exact⟨by simp,q⟩
  | false=>
   go_enter func55,ntmps55
   go_wp2_with (go_at_call 83;with_reducible refine g.mono ?_;rintro e d ⟨n,rfl,b,a,l⟩;subst d
                have f:((n:Int)==(s.size:Int))=false:=by have:¬n=s.size:=λh=>(a.1 h).elim h0 (λh=>by rw[j] at h;cases h);simp;omega
                clear b a)
   go_ret;exact⟨rfl,kE _ _⟩
 have o:¬(s.size:Int)<=8:=by omega
 rw[kQ i];go_enter func55,ntmps55;go_wp2;go_ret;exact⟨rfl,kE _ _⟩
theorem Nb (s:ByteArray) (w:World):bF w 32 #[.string s] (.bool<|dV s):=by have h:=Sf s w;go_enter func32,ntmps32;go_wp2_with (go_at_call 55;with_reducible refine jR h λb a=>?_);go_ret;exact⟨rfl,a⟩
theorem yx (s:ByteArray) (w:World) (a:s.size<=1099511627776):
  cN 143 #[.string s] w λe w'=>e=.returned (.bool<|dK s)/\w'=w:=by
 have C:Hid ((∀i,i<s.size->(dJ (bt s i)||eW (bt s i))=true)->(0<s.size->dJ (bt s 0)=true)->dK s=decide (0<s.size)):=λh h2=>by
  unfold dK;have:((List.range s.size).all λi=>dJ (bt s i)||eW (bt s i))=true:=by rw[lj];intro i hi;exact h i<|kP.1 hi
  rw[this];by_cases h0:0<s.size
  .rw[lh h0,h2 h0];rfl
  rw[kQ h0];rfl
 have D:Hid (∀i,i<s.size->(dJ (bt s i)||eW (bt s i))=false->dK s=false):=λi hi h=>by
  unfold dK;have:((List.range s.size).all λi=>dJ (bt s i)||eW (bt s i))=false:=by rw[lV];exact⟨i,kP.2 hi,by rw[h];simp⟩
  rw[this];simp
 have E:Hid (dJ (bt s 0)=false->dK s=false):=λh=>by unfold dK;rw[h];simp
 obtain⟨R,l⟩:∃R,Hid (dK s=R):=⟨_,rfl⟩;rw[l.out];go_enter func143,ntmps143;go_wp2
 go_loop [3,4] (λv _=>∃k:Nat,k<=s.size/\v=.int .i64 k/\Hid ((∀i,i<k->(dJ (bt s i)||eW (bt s i))=true)/\(0<k->dJ (bt s 0)=true))) (λv _=>s.size - (intOf v).toNat)
 case atStart=>exact⟨0,kL _,rfl,λi hi=>by omega,λh=>by omega⟩
 case round=>
  obtain⟨k,I,rfl,d⟩:=hrel;by_cases q:k<s.size
  .have am:(k:Int)<s.size:=(by omega);have G:=yu q
   have n:Hid ((dJ (bt s k)=true\/0<k/\eW (bt s k)=true)->(∀i,i<k+1->(dJ (bt s i)||eW (bt s i))=true)/\(0<k+1->dJ (bt s 0)=true)):=λh=>by
    refine⟨λi hi=>?_,λ_=>?_⟩
    .rcases kS i k with h2 | h2
     .exact d.out.1 i h2
     have:i=k:=(by omega);subst this
     rcases h with h | h
     .rw[h];rfl
     rw[h.2,Bool.or_true]
    rcases mX k with h2 | h2
    .subst h2;exact h.elim id λh=>absurd h.1<|by omega
    exact d.out.2 h2
   have f:Hid (dJ (bt s k)=false->(k=0\/eW (bt s k)=false)->R=false):=λh1 h2=>by
    rw[<-l.out]
    rcases h2 with h2 | h2
    .subst h2;exact E.out h1
    exact D.out k q<|by rw[h1,h2];rfl
   clear d;generalize o:bt s k=c at*;have H:Hid (bt s k=c):=o;clear o
   have r:(¬97<=c\/¬c<=122)->Hid (dJ c=false):=λh=>(by unfold dJ;rcases h with h | h<;>simp[h]:dJ c=false)
   have j:(¬48<=c\/¬c<=57)->Hid (eW c=false):=λh=>(by unfold eW;rcases h with h | h<;>simp[h]:eW c=false)
   have t:48<=c->c<=57->Hid (eW c=true):=λh1 h2=>(by unfold eW;simp[h1,h2]:eW c=true);by_cases h1:97<=c
   .have u:(c:Int)>=97:=(by omega);by_cases h2:c<=122
    .have x:(c:Int)<=122:=(by omega);have a:Hid (dJ c=true):=(by unfold dJ;simp[h1,h2]:dJ c=true);go_wp2;go_round
     case rel=>exact⟨k+1,by omega,by go_num,n.out<|.inl a.out⟩
     case measure=>simp[intOf];omega
    have x:¬(c:Int)<=122:=(by omega);have a:=r<|.inr h2;have A:=j (.inr<|by omega);have b:=f.out a.out<|.inr A.out;have h3:¬(c:Int)<48:=(by omega);have h4:(c:Int) > 57:=(by omega);subst b;by_cases g:k=0
    .subst g;go_wp2;go_ret;exact⟨rfl,rfl⟩
    have B:((k:Int)==0)=false:=(by simp;omega);go_wp2;go_ret;exact⟨rfl,rfl⟩
   have u:¬(c:Int)>=97:=(by omega);have a:=r<|.inl h1;by_cases g:k=0
   .have b:=f.out a.out<|.inl g;subst b;subst g;go_wp2;go_ret;exact⟨rfl,rfl⟩
   have B:((k:Int)==0)=false:=(by simp;omega);by_cases h3:c<48
   .have y:(c:Int)<48:=(by omega);have b:=f.out a.out<|.inr (j<|.inl<|by omega).out;subst b;go_wp2;go_ret;exact⟨rfl,rfl⟩
   have y:¬(c:Int)<48:=(by omega);by_cases h4:c<=57
   .have z:¬(c:Int) > 57:=(by omega);go_wp2;go_round
    case rel=>exact⟨k+1,by omega,by go_num,n.out<|.inr ⟨by omega,(t (by omega) h4).out⟩⟩
    case measure=>simp[intOf];omega
   have z:(c:Int) > 57:=(by omega);have b:=f.out a.out<|.inr (j<|.inr h4).out;subst b;go_wp2;go_ret;exact⟨rfl,rfl⟩
  obtain rfl:k=s.size:=(by omega);have m:=C.out d.out.1 d.out.2;rw[l.out] at m;have F:Hid (R=decide (0<s.size)):=m;clear m;go_wp2;go_ret;exact⟨by rw[F.out];simp,rfl⟩
theorem yy {j:Nat} (a:j<19):(resL.map AV.str)[j]?=some (.str<|resL.getD j []):=by have b:resL.length=19:=rfl;rw[mI,k8<|by omega];simp[List.getD,k8 (by omega:j<resL.length)]
theorem AJ (w:World):cN 144 #[] w λe w'=>∃b o cap,e=.returned (.slice (some ⟨b,o,none⟩) 19 cap)/\(∀i,i<19->w'.cell? ⟨b,o+i,none⟩=some (.string ⟨(resL.getD i []).toArray⟩))/\Below w.1.size w w':=by
 refine(Hd (f:=144) (args:=[]) (v:=.isl 19 (resL.map .str)<|some 19) (mT _<|mT _<|by unfold JW;simp) .nil).mono ?_;rintro e w' ⟨⟨u,rfl,hu⟩,h⟩
 cases hu with
 | @isl _ _ _ _ a ccap vs hx hl hbk hc hv=>obtain⟨ab,g,j⟩:=a;have d:=(hbk<|by simp[resL]).2;simp only at d;subst d;refine⟨ab,g,ccap,rfl,λi hi=>?_,h⟩;have h1:=yy hi;have h2:=hv i _ h1;rw[hc i _ h1,h2.str_inv]
theorem yz (h:∀j,j<19->resL.getD j []≠s.toList):s.toList∉resL:=λd=>by obtain⟨j,b,a⟩:=rX d;have e:resL.length=19:=rfl;refine h j (by omega) ?_;simp[List.getD,k8 b,a]
theorem yA {j:Nat} (a:j<19) (h:resL.getD j []=s.toList):s.toList∈resL:=by have b:resL.length=19:=rfl;rw[<-h];simp[List.getD,k8 (by omega:j<resL.length)]
theorem Nc (s:ByteArray) (w:World):bF w 104 #[.string s] (.bool<|dV s):=by
 have u:=AJ w;by_cases n:s.size<=8
 .have x:¬(s.size:Int) > 8:=by omega
  have g:=yx s w<|by omega
  cases f:dK s with
  | false=>have a:dV s=false:=(by unfold dV;rw[f];simp);rw[a];rw[f] at g;clear u a;go_enter func104,ntmps104;go_wp2_with (go_at_call 143;with_reducible refine jR g λm C=>?_;subst m);go_ret;exact⟨rfl,kE _ _⟩
  | true=>
   have a:dV s=!decide (s.toList∈resL):=(by unfold dV;rw[f,lh n];rfl);rw[a];rw[f] at g;obtain⟨R,l⟩:∃R,Hid ((!decide (s.toList∈resL))=R):=⟨_,rfl⟩;rw[l.out];clear a;go_enter func104,ntmps104
   go_wp2_with (first
    | (go_at_call 143;with_reducible refine jR g λm C=>?_;subst m)
    | (go_at_call 144;with_reducible refine u.mono ?_;rintro e F ⟨b,o,cap,rfl,r,q⟩
       have z:=bC r
       clear r))
   go_loop [4] (λv=>∃k:Nat,k<=19/\v=.int .i64 k/\Hid (∀j,j<k->resL.getD j []≠s.toList)) (λv=>19 - (intOf v).toNat)
   case atStart=>exact⟨0,kL _,rfl,λj B=>by omega⟩
   case round=>
    obtain⟨k,E,rfl,i⟩:=hrel;by_cases t:k<19
    .have am:(k:Int)<19:=(by omega);have c0:=z.out k t;by_cases d:resL.getD k []=s.toList
     .have hRf:R=false:=(by rw[<-l.out,lh<|yA t d];rfl);subst hRf;have A:(resL.getD k []==s.toList)=true:=rm.2 d;clear d;generalize resL.getD k []=L at*;go_wp2;go_ret;exact⟨rfl,q⟩
     have A:(resL.getD k []==s.toList)=false:=qR.2 d
     have D:Hid (∀j,j<k+1->resL.getD j []≠s.toList):=λj B=>by
      rcases kS j k with h | h
      .exact i.out j h
      have:j=k:=(by omega);subst this;exact d
     clear d i;generalize resL.getD k []=L at*;go_wp2;go_round
     case rel=>exact⟨k+1,by omega,by go_num,D⟩
     case measure=>simp[intOf];omega
    obtain rfl:k=19:=(by omega);have y:R=true:=(by rw[<-l.out,kQ<|yz i.out];rfl);subst y;clear i;go_wp2;go_ret;exact⟨rfl,q⟩
 have x:(s.size:Int) > 8:=by omega
 have a:dV s=false:=by unfold dV;rw[kQ n];rfl
 rw[a];go_enter func104,ntmps104;go_wp2;go_ret;exact⟨rfl,kE _ _⟩
def eX (k:Int):Int:=match kK.find? (λx=>x.1==k) with | some x=>x.2 | none=>-1
def qe (k:Int):Int:=if k=9 then -32 else if k=10 then 2 else if k=11 then 1 else 0
def qi (k:Int):Int:=if k=9 then 32 else if k=10 then 8 else if k=11 then 8 else 0
def bX (k f:Int) (ng:Bool) (X Y:Int) (m:ByteArray) (n:Nat):Bool:=
 decide (eX k=n)&&(decide (qe k<=f)&&decide (f<=qi k))&&(if k=1 then(!large X Y&&decide (0<=yq ng X Y))&&decide (m.size=0) else decide (X=0)&&(if k=2 then dV m else decide (m.size=0)))
theorem Nf (k:Int):(∃x∈kK,x.1=k/\eX k=x.2/\0<=x.2)\/(eX k=-1/\∀x∈kK,x.1≠k):=by
 unfold eX
 cases h:kK.find? (λx=>x.1==k) with
 | some x=>
  have h1:=List.find?_some h;have h2:=sF h;have h3:∀x∈kK,0<=x.2:=by decide
  exact .inl ⟨x,h2,by simpa using h1,rfl,h3 x h2⟩
 | none=>rw[rl] at h;exact .inr ⟨rfl,λx a e=>h x a<|by simp[e]⟩
theorem AK (k:Int) (w:World):bF w 164 #[.int .i64 k] (.tuple #[.int .i64 (if eX k<0 then 0 else eX k),.bool<|decide (0<=eX k)]):=by
 rcases Nf k with⟨x,hx,rfl,he,h0⟩ | ⟨he,hn⟩
 .rw[he,kZ<|by omega,lh h0];refine(Hd (f:=164) (args:=[.int .i64 x.1]) (v:=.tup [.int .i64 x.2,.bool true]) (mT _<|mP _<|m9.2 ⟨_,hx,rfl⟩)<|J0<|.int _ _).mono ?_;rintro e w' ⟨⟨u,rfl,hu⟩,m⟩;obtain⟨vs,rfl,n⟩:=hu.tup_inv;obtain⟨N,L,e1,r,o⟩:=LRel.inv_cons n;obtain⟨O,M,rfl,t,q⟩:=LRel.inv_cons o;obtain rfl:=LRel.inv_nil q;rw[PT e1,r.int_inv,t.bool_inv];exact⟨rfl,m⟩
 rw[he];simp only[kK,lO,nw,qy,forall_eq_or_imp,forall_eq] at hn;obtain⟨h1,h2,h3,h4,h5,h6,h7,j,l,a,b,d,g,h,i⟩:=hn;have n1:(k==1)=false:=by simp;omega
 have n2:(k==2)=false:=by simp;omega
 have E:(k==3)=false:=by simp;omega
 have F:(k==4)=false:=by simp;omega
 have G:(k==5)=false:=by simp;omega
 have H:(k==6)=false:=by simp;omega
 have I:(k==7)=false:=by simp;omega
 have J:(k==8)=false:=by simp;omega
 have K:(k==9)=false:=by simp;omega
 have y:(k==10)=false:=by simp;omega
 have z:(k==11)=false:=by simp;omega
 have A:(k==12)=false:=by simp;omega
 have B:(k==13)=false:=by simp;omega
 have C:(k==14)=false:=by simp;omega
 have D:(k==15)=false:=by simp;omega
 clear h1 h2 h3 h4 h5 h6 h7 j l a b d g h i he;go_enter func164,ntmps164;go_wp2;go_ret2;exact⟨rfl,kE _ _⟩
theorem yB (k:Int) (w:World):cN 174 #[.int .i64 k] w λe w'=>e=.returned (.int .i64<|eX k)/\w'=w:=by
 rcases Nf k with⟨x,hx,rfl,he,h0⟩ | ⟨he,hn⟩
 .rw[he];have a:∀x∈kK,x=(1,0)\/x=(2,0)\/x=(3,0)\/x=(4,1)\/x=(5,2)\/x=(6,2)\/x=(7,2)\/x=(8,2)\/x=(9,1)\/x=(10,1)\/x=(11,1)\/x=(12,1)\/x=(13,2)\/x=(14,2)\/x=(15,3):=by decide
  clear he
  rcases a x hx with rfl | rfl | rfl | rfl | rfl | rfl | rfl | rfl | rfl | rfl | rfl | rfl | rfl | rfl | rfl<;>
  (clear hx a h0;go_enter func174,ntmps174;go_wp2;go_ret;exact⟨rfl,rfl⟩)
 rw[he];simp only[kK,lO,nw,qy,forall_eq_or_imp,forall_eq] at hn;obtain⟨h1,h2,h3,h4,h5,h6,h7,j,l,b,d,f,g,h,i⟩:=hn;have n1:(k==1)=false:=by simp;omega
 have n2:(k==2)=false:=by simp;omega
 have u:(k==3)=false:=by simp;omega
 have y:(k==4)=false:=by simp;omega
 have z:(k==5)=false:=by simp;omega
 have A:(k==6)=false:=by simp;omega
 have B:(k==7)=false:=by simp;omega
 have C:(k==8)=false:=by simp;omega
 have D:(k==9)=false:=by simp;omega
 have m:(k==10)=false:=by simp;omega
 have n:(k==11)=false:=by simp;omega
 have o:(k==12)=false:=by simp;omega
 have q:(k==13)=false:=by simp;omega
 have r:(k==14)=false:=by simp;omega
 have t:(k==15)=false:=by simp;omega
 clear h1 h2 h3 h4 h5 h6 h7 j l b d f g h i he;go_enter func174,ntmps174;go_wp2;go_ret;exact⟨rfl,rfl⟩
theorem Sg {nu:List Int} (h:cB nu):decide ((bE nu).length=0)=decide (val nu=0):=by
 have hv:val (bE nu)=val nu:=ji nu;refine nX.2 ⟨λh0=>?_,λh0=>?_⟩
 .rw[<-hv,kM h0];rfl
 rcases mX (bE nu).length with h1 | h1
 .exact h1
 have:=Af (C0 h) (jH nu)<|lG.1 h1;omega
theorem Sj {w:World} {k f:Int} {ng:Bool} {aq cq sq:Option Addr} {ac cc sc n:Nat} {nu de:List Int} {m:ByteArray} (h1:Sl w (.slice aq nu.length ac) nu) (h2:Sl w (.slice cq de.length cc) de) (ln:nu.length<=274877906000) (ld:de.length<=274877906000) (hT:Tb w):
  bF w 129 #[.agg<|mA k f ng aq nu.length ac cq de.length cc m sq n sc] (.bool<|bX k f ng (val nu) (val de) m n):=by
 obtain⟨R,j⟩:∃R,Hid (bX k f ng (val nu) (val de) m n=R):=⟨_,rfl⟩;rw[j.out];have H:Hid (Below w.1.size w<|w.alloc<|.cells (mA k f ng aq nu.length ac cq de.length cc m sq n sc) 33):=cU w _;have ap:Hid _:=Sg h1.1;have ar:=ep h1.1;have au:=ep h2.1;have ao:Hid _:=M' (g:=ng) ar au;have ak:=λz (hz:Below w.1.size w z)=>FN (g:=ng) (h1.below hz) (h2.below hz) ln ld<|hT.below hz;obtain⟨u,hu,M⟩:=Et h1;obtain⟨qa,ca,rfl⟩:=hu.form;have M:=bC M;have l:=AK k<|w.alloc<|.cells (mA k f ng aq nu.length ac cq de.length cc m sq n sc) 33;clear h1 h2 hT hu ar au;go_enter func129,ntmps129;go_upto_block 0 with fail
 go_cut [3,4] from 11 to 16 λv3 v4 wx=>v3=.int .i64 (qe k)/\v4=.int .i64 (qi k)/\wx=(w.alloc<|.cells (mA k f ng aq nu.length ac cq de.length cc m sq n sc) 33)
 case first=>
  clear l ak M;by_cases k9:k=9
  .subst k9;go_wp2;go_meet
   case rel=>exact⟨rfl,rfl,rfl⟩
  by_cases ae:k=10
  .subst ae;go_wp2;go_meet
   case rel=>exact⟨rfl,rfl,rfl⟩
  by_cases af:k=11
  .subst af;go_wp2;go_meet
   case rel=>exact⟨rfl,rfl,rfl⟩
  have e1:Hid (qe k=0/\qi k=0):=⟨by simp[qe,k9,ae,af],by simp[qi,k9,ae,af]⟩;have n9:(k==9)=false:=(by simp;omega);have a2:(k==10)=false:=(by simp;omega);have a3:(k==11)=false:=(by simp;omega);clear k9 ae af;go_wp2;go_meet
  case rel=>exact⟨by rw[e1.out.1],by rw[e1.out.2],rfl⟩
 case rest=>
  obtain⟨rfl,rfl,hwc⟩:=hcut;subst wc;obtain⟨K,G⟩:∃K,Hid (eX k=K):=⟨_,rfl⟩;obtain⟨lo,ab⟩:∃K,Hid (qe k=K):=⟨_,rfl⟩;obtain⟨hi,aa⟩:∃K,Hid (qi k=K):=⟨_,rfl⟩;rw[ab.out,aa.out];rw[G.out] at l;have a1:True:=trivial;by_cases ag:0<=K
  .rw[kZ<|by omega,lh ag] at l;by_cases N:(n:Int)=K
   .have am:((n:Int) != K)=false:=(by simp[N]);have an:Hid ((n:Int)=K):=N;clear N;by_cases ay:f<lo
    .go_wp2_with (go_at_call 164;with_reducible refine jR l λb a=>?_
                  have s2:w.1.size<(w.alloc<|.cells (mA k f ng aq nu.length ac cq de.length cc m sq n sc) 33).1.size:=(by simp);have U:b.cell? ⟨w.1.size,0,none⟩=some (.int .i64 k):=fg a s2 (by simp);have x1:b.cell? ⟨w.1.size,1,none⟩=some (.int .i64 f):=fg a s2 (by simp);have x2:b.cell? ⟨w.1.size,2,none⟩=some (.bool ng):=fg a s2 (by simp);have V:b.cell? ⟨w.1.size,3,none⟩=some (.slice aq nu.length ac):=fg a s2 (by simp);have x4:b.cell? ⟨w.1.size,4,none⟩=some (.slice cq de.length cc):=fg a s2 (by simp);have x5:b.cell? ⟨w.1.size,5,none⟩=some (.string m):=fg a s2 (by simp);have x6:b.cell? ⟨w.1.size,6,none⟩=some (.slice sq n sc):=fg a s2 (by simp);have d:Hid (Below w.1.size w b):=cV H.out a;have P:=a.size
                  clear a)
     go_ret;exact⟨by rw[<-j.out];unfold bX;rw[ab.out,kQ (by omega:¬lo<=f)];simp,d.out⟩
    by_cases az:f > hi
    .go_wp2_with (go_at_call 164;with_reducible refine jR l λb a=>?_
                  have s2:w.1.size<(w.alloc<|.cells (mA k f ng aq nu.length ac cq de.length cc m sq n sc) 33).1.size:=(by simp);have U:b.cell? ⟨w.1.size,0,none⟩=some (.int .i64 k):=fg a s2 (by simp);have x1:b.cell? ⟨w.1.size,1,none⟩=some (.int .i64 f):=fg a s2 (by simp);have x2:b.cell? ⟨w.1.size,2,none⟩=some (.bool ng):=fg a s2 (by simp);have V:b.cell? ⟨w.1.size,3,none⟩=some (.slice aq nu.length ac):=fg a s2 (by simp);have x4:b.cell? ⟨w.1.size,4,none⟩=some (.slice cq de.length cc):=fg a s2 (by simp);have x5:b.cell? ⟨w.1.size,5,none⟩=some (.string m):=fg a s2 (by simp);have x6:b.cell? ⟨w.1.size,6,none⟩=some (.slice sq n sc):=fg a s2 (by simp);have d:Hid (Below w.1.size w b):=cV H.out a;have P:=a.size
                  clear a)
     go_ret;exact⟨by rw[<-j.out];unfold bX;rw[aa.out,kQ (by omega:¬f<=hi)];simp,d.out⟩
    have hA:Hid ((decide (eX k=n)&&(decide (qe k<=f)&&decide (f<=qi k)))=true):=(by show _=true;rw[G.out,ab.out,aa.out,lh (an.out.symm:K=n),lh (by omega:lo<=f),lh (by omega:f<=hi)];rfl);clear an ab aa G
    go_upto_region 12 with(go_at_call 164;with_reducible refine jR l λb a=>?_
                           have s2:w.1.size<(w.alloc<|.cells (mA k f ng aq nu.length ac cq de.length cc m sq n sc) 33).1.size:=(by simp);have U:b.cell? ⟨w.1.size,0,none⟩=some (.int .i64 k):=fg a s2 (by simp);have x1:b.cell? ⟨w.1.size,1,none⟩=some (.int .i64 f):=fg a s2 (by simp);have x2:b.cell? ⟨w.1.size,2,none⟩=some (.bool ng):=fg a s2 (by simp);have V:b.cell? ⟨w.1.size,3,none⟩=some (.slice aq nu.length ac):=fg a s2 (by simp);have x4:b.cell? ⟨w.1.size,4,none⟩=some (.slice cq de.length cc):=fg a s2 (by simp);have x5:b.cell? ⟨w.1.size,5,none⟩=some (.string m):=fg a s2 (by simp);have x6:b.cell? ⟨w.1.size,6,none⟩=some (.slice sq n sc):=fg a s2 (by simp);have d:Hid (Below w.1.size w b):=cV H.out a;have P:=a.size
                           clear a)
    clear l ay az am ag;by_cases k2:k=2
    .subst k2;have ad:=Nb m b
     cases O:dV m with
     | false=>rw[O] at ad;go_wp2_with (go_at_call 32;with_reducible refine jR ad λh i=>?_);go_ret;exact⟨by rw[<-j.out];unfold bX;rw[O];simp,cV d.out i⟩
     | true=>
      rw[O] at ad;have ga:Hid (dV m=true):=O;clear O
      go_upto_region 14 with(go_at_call 32;with_reducible refine jR ad λh i=>?_
                             have s3:w.1.size<b.1.size:=kw s2 P
                             have y0:=fg i s3 U)
      have y3:=fg i s3 V;have cj:Hid (Below w.1.size w h):=cV d.out i;have aj:cN 165 #[.slice aq nu.length ac] h _:=M.out _ cj.out;have T:=Eu qa (bE nu).length ca h;rw[ap.out] at T
      go_wp2_with (first
       | (go_at_call 165;with_reducible refine jR aj λF al=>?_;subst F)
       | (go_at_call 166;with_reducible refine jR T λF al=>?_;subst F))
      go_ret;exact⟨by rw[<-j.out];unfold bX;rw[hA.out,ga.out];simp,cj.out⟩
    have n2:(k==2)=false:=(by simp;omega);have a4:(k != 2)=true:=(by simp;omega);have av:Hid (k≠2):=k2;clear k2
    cases he:(m.toList==[]) with
    | false=>have hm:¬m.size=0:=λaw=>(by rw[AI,lh aw] at he;cases he);go_wp2;go_ret;exact⟨by rw[<-j.out];unfold bX;rw[kQ hm,kZ av.out];simp,d.out⟩
    | true=>
     have hm:Hid (m.size=0):=pX (p:=m.size=0) (by rw[<-AI];exact he);by_cases k1:k=1
     .subst k1;have fq:=ak b d.out;obtain⟨L,hL⟩:∃L,Hid (large (val nu) (val de)=L):=⟨_,rfl⟩;rw[hL.out] at fq;clear ak
      cases L with
      | true=>
       go_wp2_with (go_at_call 167;with_reducible refine fq.mono ?_;rintro e h ⟨fv,g',n',d',rfl,o,_,i⟩
                    obtain⟨fa,fb,C,x,rfl,r,W,X,t,Y,Z,z7,z8⟩:=o;obtain⟨E,B,rfl⟩:=r.form;obtain⟨D,A,rfl⟩:=t.form;have Q:Hid (Below w.1.size w<|h.alloc<|.cells (qA g' E C.length B D x.length A) 147):=(cV d.out i).trans<|(cU h _).mono<|kJ d.out.size i.size
                    clear i r W X t Y Z z7 z8)
       go_ret;exact⟨by rw[<-j.out];unfold bX;rw[hL.out];simp,Q.out⟩
      | false=>
       obtain⟨S,hS⟩:∃S,Hid (yq ng (val nu) (val de)=S):=⟨_,rfl⟩;by_cases q:0<=S
       .have ax:(S:Int)>=0:=q;have q:Hid (0<=S):=q
        go_wp2_with (first
         | (go_at_call 167;with_reducible refine fq.mono ?_;rintro e h ⟨fv,g',n',d',rfl,o,J,i⟩
            obtain⟨rfl,rfl,rfl⟩:=J rfl;have ai:=o;obtain⟨fa,fb,C,x,rfl,r,W,X,t,Y,Z,z7,z8⟩:=ai;obtain⟨E,B,rfl⟩:=r.form;obtain⟨D,A,rfl⟩:=t.form;have y:Below h.1.size h (h.alloc<|.cells #[.bool<|cI ng (val nu)<|bB<|val de,.slice E C.length B,.slice D x.length A] 147):=cU h _;have I:=Ha<|o.below y;rw[ao.out,hS.out] at I;have Q:Hid (Below w.1.size w<|h.alloc<|.cells #[.bool<|cI ng (val nu)<|bB<|val de,.slice E C.length B,.slice D x.length A] 147):=(cV d.out i).trans<|y.mono<|kJ d.out.size i.size
            clear i y o r W X t Y Z z7 z8 J)
         | (go_at_call 139;with_reducible refine jR I λw4 ah=>?_))
        go_ret;exact⟨by rw[<-j.out];unfold bX;rw[hA.out,hL.out,hS.out,lh q.out,lh hm.out];rfl,cV Q.out ah⟩
       have ax:¬(S:Int)>=0:=q;have q:Hid (¬0<=S):=q
       go_wp2_with (first
        | (go_at_call 167;with_reducible refine fq.mono ?_;rintro e h ⟨fv,g',n',d',rfl,o,J,i⟩
           obtain⟨rfl,rfl,rfl⟩:=J rfl;have ai:=o;obtain⟨fa,fb,C,x,rfl,r,W,X,t,Y,Z,z7,z8⟩:=ai;obtain⟨E,B,rfl⟩:=r.form;obtain⟨D,A,rfl⟩:=t.form;have y:Below h.1.size h (h.alloc<|.cells #[.bool<|cI ng (val nu)<|bB<|val de,.slice E C.length B,.slice D x.length A] 147):=cU h _;have I:=Ha<|o.below y;rw[ao.out,hS.out] at I;have Q:Hid (Below w.1.size w<|h.alloc<|.cells #[.bool<|cI ng (val nu)<|bB<|val de,.slice E C.length B,.slice D x.length A] 147):=(cV d.out i).trans<|y.mono<|kJ d.out.size i.size
           clear i y o r W X t Y Z z7 z8 J)
        | (go_at_call 139;with_reducible refine jR I λw4 ah=>?_))
       go_ret;exact⟨by rw[<-j.out];unfold bX;rw[hS.out,kQ (by have:=q.out;omega:¬0<=S)];simp,cV Q.out ah⟩
     have n1:(k != 1)=true:=(by simp;omega);have a0:Hid (k≠1):=k1;clear k1;have aj:cN 165 #[.slice aq nu.length ac] b _:=M.out _ d.out;have T:=Eu qa (bE nu).length ca b;rw[ap.out] at T
     go_wp2_with (first
      | (go_at_call 165;with_reducible refine jR aj λF al=>?_;subst F)
      | (go_at_call 166;with_reducible refine jR T λF al=>?_;subst F))
     go_ret;exact⟨by rw[<-j.out];unfold bX;rw[hA.out,kZ a0.out,kZ av.out,lh hm.out];simp,d.out⟩
   have am:((n:Int) != K)=true:=by simp[N]
   go_wp2_with (go_at_call 164;with_reducible refine jR l λb a=>?_
                have s2:w.1.size<(w.alloc<|.cells (mA k f ng aq nu.length ac cq de.length cc m sq n sc) 33).1.size:=(by simp);have U:b.cell? ⟨w.1.size,0,none⟩=some (.int .i64 k):=fg a s2 (by simp);have x1:b.cell? ⟨w.1.size,1,none⟩=some (.int .i64 f):=fg a s2 (by simp);have x2:b.cell? ⟨w.1.size,2,none⟩=some (.bool ng):=fg a s2 (by simp);have V:b.cell? ⟨w.1.size,3,none⟩=some (.slice aq nu.length ac):=fg a s2 (by simp);have x4:b.cell? ⟨w.1.size,4,none⟩=some (.slice cq de.length cc):=fg a s2 (by simp);have x5:b.cell? ⟨w.1.size,5,none⟩=some (.string m):=fg a s2 (by simp);have x6:b.cell? ⟨w.1.size,6,none⟩=some (.slice sq n sc):=fg a s2 (by simp);have d:Hid (Below w.1.size w b):=cV H.out a;have P:=a.size
                clear a)
   go_ret;exact⟨by rw[<-j.out];unfold bX;rw[G.out,kQ λe=>N e.symm];simp,d.out⟩
  rw[kU<|by omega,kQ ag] at l
  go_wp2_with (go_at_call 164;with_reducible refine jR l λb a=>?_
               have s2:w.1.size<(w.alloc<|.cells (mA k f ng aq nu.length ac cq de.length cc m sq n sc) 33).1.size:=(by simp);have U:b.cell? ⟨w.1.size,0,none⟩=some (.int .i64 k):=fg a s2 (by simp);have x1:b.cell? ⟨w.1.size,1,none⟩=some (.int .i64 f):=fg a s2 (by simp);have x2:b.cell? ⟨w.1.size,2,none⟩=some (.bool ng):=fg a s2 (by simp);have V:b.cell? ⟨w.1.size,3,none⟩=some (.slice aq nu.length ac):=fg a s2 (by simp);have x4:b.cell? ⟨w.1.size,4,none⟩=some (.slice cq de.length cc):=fg a s2 (by simp);have x5:b.cell? ⟨w.1.size,5,none⟩=some (.string m):=fg a s2 (by simp);have x6:b.cell? ⟨w.1.size,6,none⟩=some (.slice sq n sc):=fg a s2 (by simp);have d:Hid (Below w.1.size w b):=cV H.out a;have P:=a.size
               clear a)
  go_ret;exact⟨by rw[<-j.out];unfold bX;rw[G.out,kQ (by omega:¬K=n)];simp,d.out⟩
