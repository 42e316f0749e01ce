import Derived.Test.YthcfmhgihcjloaaGreatDoorAc
import Derived.Test.YthcfmhgihcjloaaGreatDoorPk34
namespace Go.Proofs.YthcfmhgihcjloaaGreatDoor
open Go Go.Proofs.YthcfmhgihcjloaaGreatDoor.Gx Go.ChangeShapes Go.WideShapes Go.ChangeAt Go.RowKit
theorem H':Tryz.prog.funcs[3]?=some Tryz.f3:=by kernel_rfl
theorem DM:Tryz.f3.params=#[22,22]:=by kernel_rfl
theorem wb {w:World} (h:laidMetH Tryz.prog Rows.libraryMergesUptoRow.laid w):Lib.TabIs Tryz.prog w "math/bits.deBruijn32tab" .u8 oL:=
 Lib.tabIs_of_head wm vt HH EE EH HJ h
set_option maxRecDepth 100000 in
theorem Oq (H:Type) (enc:TypeId × Value->H) (W:World) (base:Nat) (args:Array Value) (b k:List (DataW H)) (s:List MemPlace)
  (i:∀(j:Nat) t v,Tryz.f3.params[j]?=some t->args[j]?=some v->Value.okWide Tryz.prog W .any base t v)
  (n:DataW.Whole enc Tryz.prog Tryz.f3.params.toList Rows.libraryMergesSpec.vars false W args.toList b k s) (I:Rows.uptoSmall H (b++k)=true) (m:laidMetH Tryz.prog Rows.libraryMergesUptoRow.laid W):
  cN 3 args W λe h=>∃v,e=.returned v/\Rows.libraryMergesSpec.post enc Tryz.prog Tryz.f3 false true false false W args v h:=by
 have A:=n;obtain⟨p,q,w,z,rfl,X,aa⟩:=n;have l:DataW.TrodAll enc Tryz.prog W 0 (λ_=>true) true Tryz.f3.params.toList args.toList b p:=w;rw[DM] at l;obtain⟨f,ab,a,S,P,q0,R,rfl,rfl,h0,r0⟩:=trodAll_cons l;obtain⟨g,ac,d1,T,p1,q1,rfl,rfl,rfl,h1,Q⟩:=trodAll_cons r0;obtain⟨rfl,rfl,rfl⟩:=trodAll_nil Q;obtain rfl:args=#[f,g]:=by cases args;simp_all
 obtain⟨rfl,rfl⟩:=trodVars_none z;have J:Rows.uptoBulk a+(Rows.uptoBulk d1+0)<=1048576:=pX I;have K:Value.okWide Tryz.prog W .any base 22 f:=i 0 22 f (by rw[DM];rfl) rfl;have L:Value.okWide Tryz.prog W .any base 22 g:=i 1 22 g (by rw[DM];rfl) rfl;obtain⟨U,C⟩:=h0;obtain⟨f1,D⟩:=h1;obtain⟨q9,r,c9,es,u,M,y,F⟩:=Oc (KB H) (x:=(a,P)) (kJ (Nat.le_add_right _ _) J) C;obtain⟨q8,o,c8,V,e1,O,N,E⟩:=Oc (KB H) (x:=(d1,p1)) (by show Rows.uptoBulk d1<=_;omega) D;obtain rfl:=Od K u;obtain rfl:=Od L e1;have G:r+o<=1048576:=by have Z:r<=Rows.uptoBulk a:=F;have Y:o<=Rows.uptoBulk d1:=E;omega
 refine(Ur c9 c8 G M y O N (EI<|wb m) λw1 d=>OC<|Oh (wb m) d).mono λe h B=>?_;obtain⟨rfl,d⟩:=B;refine⟨_,rfl,PP KA ?_ rfl ⟨rfl,rfl,rfl⟩ (j:=4) (by kernel_rfl) EG A d⟩;intro t ht;rw[DM] at ht;have:t=22:=by simpa using ht
 subst this;exact⟨EL,by decide +kernel⟩
def oK:Array Value:=#[.slice none 0 0,.slice none 0 0]
theorem we (os:Os):laidMet Tryz.prog Rows.libraryMergesUptoRow.laid ((i9 os).forCall (λ_ _=>0) ⟨#[],oK,[]⟩).memory:=
 laidMet_of_run' 8 (by kernel_rfl) (by kernel_rfl)
theorem Cq (os:Os) {H:Type} (enc:TypeId × Value->H):∃a,DataW.whole enc Tryz.prog ((i9 os).forCall (λ_ _=>0) ⟨#[],oK,[]⟩).memory Tryz.f3.params.toList Rows.libraryMergesSpec.vars false oK.toList 8=some ([.nil,.nil],[],a):=
 ⟨[],by kernel_rfl⟩
set_option maxRecDepth 100000 in
theorem zK (os:Os) (j:os.Started) (H:Type) (enc:TypeId × Value->H) (F:Stop.Interp):
  ReturnsInHanded {} Tryz.checked os 3 .any ((Rows.OpenSpec.upto Rows.libraryMergesSpec).preRow enc Tryz.prog Tryz.f3 Rows.libraryMergesUptoRow.domain false Rows.libraryMergesUptoRow.laid) (((Rows.OpenSpec.upto Rows.libraryMergesSpec).at F).post enc Tryz.prog Tryz.f3 false true false false):=by
 obtain⟨l,i⟩:=Cq os enc
 refine returnsInHanded_of_row (C:=Tryz.checked) (s:=Rows.OpenSpec.upto Rows.libraryMergesSpec) own j (by kernel_rfl) H'
  (witness_row_at (enc:=enc) (C:=Tryz.checked) false (i9 os) oK rfl (by kernel_rfl) (by kernel_rfl) (by kernel_rfl)
    (OpenSpec.preRow_of_cond 8 i (by kernel_rfl) (λk a=>by cases a;kernel_rfl) (by kernel_rfl)<|we os)) ?_
 intro W base args e f d b h _ a _ g _ _;exact Oq H enc W base args e f d b h (a _ rfl) g
theorem Ot:Tryz.f3.params.toList++(Rows.OpenSpec.upto Rows.libraryMergesSpec).bare.plain.varTypes Tryz.prog=[22,22]:=by kernel_rfl
theorem Ia:Tryz.f3.resultTypes=#[4]:=by kernel_rfl
theorem Ib:Tryz.f3.params.all (Tryz.prog.readableRec ·)=true:=by rw[DM];simp[EL]
theorem Ic:([22,22]:List Nat).any (Tryz.prog.mapsRec ·)=false:=by simp[H0]
theorem Id:([22,22]:List Nat).any (Tryz.prog.ifacesRec ·)=false:=by simp[H5]
theorem Ie:([22,22]:List Nat).any (Tryz.prog.loopsFrom ·)=true:=by simp[H6]
theorem If:([22,22]++(#[4]:Array Nat).toList:List Nat).any (Tryz.prog.wideKeysFrom ·)=false:=by simp[H7,KE]
theorem Ig:([22,22]++(#[4]:Array Nat).toList:List Nat).any (Tryz.prog.veiledRec ·)=false:=by simp[H8,Oi]
theorem Ih:(#[4]:Array Nat).toList.any (Tryz.prog.ifacesRec ·)=false:=by simp[KC]
theorem Ii:(#[4]:Array Nat).toList.any (Tryz.prog.loopsFrom ·)=false:=by simp[KD]
theorem zL:joinedFacts Tryz.prog 3 Tryz.f3 (Rows.OpenSpec.upto Rows.libraryMergesSpec).bare Rows.libraryMergesUptoRow=true:=by unfold joinedFacts;rw[HW,EJ,HY,HZ,KA,ED,Ib,Oj,Ol,Ot,Ic,Id,Ie,Ia,If,Ig,H9,Ih,Ii,Om,On,Oo];kernel_rfl
set_option maxRecDepth 100000 in
theorem EM:Rows.LibraryMergesUptoSaid:=
 OpenClaim.holds_of_cond 3 Tryz.f3 rfl rfl rfl rfl rfl rfl rfl ⟨rfl,rfl,rfl,rfl,rfl⟩ rfl rfl rfl rfl rfl (by kernel_rfl) H' zL
  (pX<|by kernel_rfl) (by unfold Func.isWrapper;first | (rw[kU<|by decide +kernel];kernel_rfl) | (rw[kZ<|by decide +kernel];exact⟨rfl,rfl⟩))
  (λos a H enc _ F=>by rw[OpenClaim.pre_eq_preRow];exact zK os a H enc F)
