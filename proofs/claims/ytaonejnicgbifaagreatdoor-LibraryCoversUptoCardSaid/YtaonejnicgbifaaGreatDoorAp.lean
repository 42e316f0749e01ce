import Derived.Test.YtaonejnicgbifaaGreatDoorAc
import Derived.Test.YtaonejnicgbifaaGreatDoorQk36
namespace Go.Proofs.YtaonejnicgbifaaGreatDoor
open Go Go.Proofs.YtaonejnicgbifaaGreatDoor.Gx Go.ChangeShapes Go.WideShapes Go.ChangeAt Go.RowKit
theorem fn3:Tryz.prog.funcs[3]?=some Tryz.f3:=by kernel_rfl
theorem ps3:Tryz.f3.params=#[22,24,34]:=by kernel_rfl
theorem tabOf3 {w:World} (h:laidMetH Tryz.prog Rows.libraryCoversUptoRow.laid w):Lib.TabIs Tryz.prog w "math/bits.deBruijn32tab" .u8 zs32:=
 Lib.tabIs_of_head gTab gTabType uTab uByte cell8 cTab h
set_option maxRecDepth 100000 in
theorem zlr (H:Type) (enc:TypeId × Value->H) (W:World) (base:Nat) (args:Array Value) (ds gs:List (DataW H)) (before:List MemPlace)
  (bW:∀(j:Nat) t v,Tryz.f3.params[j]?=some t->args[j]?=some v->Value.okWide Tryz.prog W .any base t v)
  (hW:DataW.Whole enc Tryz.prog Tryz.f3.params.toList Rows.libraryCoversSpec.vars false W args.toList ds gs before) (hs:Rows.uptoSmall H (ds++gs)=true) (hL:laidMetH Tryz.prog Rows.libraryCoversUptoRow.laid W):
  Calls Tryz.prog 3 args W fun e W'=>∃v,e=.returned v/\Rows.libraryCoversSpec.post enc Tryz.prog Tryz.f3 false true false false W args v W':=by
 have hW':=hW
 obtain⟨p,q,hA0,hV,rfl,hfz,hnd⟩:=hW
 have hA:DataW.TrodAll enc Tryz.prog W 0 (fun _=>true) true Tryz.f3.params.toList args.toList ds p:=hA0
 rw[ps3] at hA
 obtain⟨v0,vs0,d0,ds0,p0,q0,bA,rfl,rfl,h0,r0⟩:=trodAll_cons hA
 obtain⟨v1,vs1,d1,ds1,fp1,q1,rfl,rfl,rfl,h1,fr1⟩:=trodAll_cons r0
 obtain⟨v2,vs2,d2,ds2,fp2,q2,rfl,rfl,rfl,h2,r2⟩:=trodAll_cons fr1
 obtain⟨rfl,rfl,rfl⟩:=trodAll_nil r2
 obtain rfl:args=#[v0,v1,v2]:=by cases args;simp_all
 obtain⟨rfl,rfl⟩:=trodVars_none hV
 have hs':Rows.uptoBulk d0+(Rows.uptoBulk d1+(Rows.uptoBulk d2+0))<=1048576:=of_decide_eq_true hs
 obtain⟨q9,n9,c9,L,Cs,k0,C,D,eU,j1,hCl,hC⟩:=args_of (bulk_bk H) (x0:=(d0,p0)) (x1:=(d1,fp1)) (x2:=(d2,fp2)) (bW 0 22 v0 (by rw[ps3];rfl) rfl) (Nat.le_trans (Nat.le_add_right _ _) hs') (by show Rows.uptoBulk d2<=_;omega) h0 h1 h2
 clear bW
 rw[eU]
 refine(zfr c9 j1 hCl k0 hC (tb_of (tabOf3 hL)) fun w1 hb=>zho (zlj (tabOf3 hL) hb)).mono fun e W' he=>?_
 obtain⟨rfl,hb⟩:=he
 rw[eU] at hW'
 refine⟨_,rfl,post_true zlh ?_ rfl ⟨rfl,rfl,rfl⟩ (tb:=4) (by kernel_rfl) uBool hW' hb⟩
 intro t ht
 rw[ps3] at ht
 have:t=22\/t=24\/t=34:=by simpa using ht
 rcases this with rfl | rfl | rfl
 ·exact⟨qr22,by decide +kernel⟩
 ·exact⟨qr24,by decide +kernel⟩
 ·exact⟨qr34,by decide +kernel⟩
def wargs3:Array Value:=#[.slice none 0 0,.agg #[.string ⟨#[]⟩,.int .i64 0],.agg #[.int .i64 0,.int .i64 0,.bool false,.slice none 0 0,.slice none 0 0,.string ⟨#[]⟩,.slice none 0 0,.bool false,.slice none 0 0,.slice none 0 0]]
theorem laidMet3 (os:Os):laidMet Tryz.prog Rows.libraryCoversUptoRow.laid ((laidWorld os).forCall (fun _ _=>0) ⟨#[],wargs3,[]⟩).memory:=
 laidMet_of_run' 8 (by kernel_rfl) (by kernel_rfl)
theorem reads3 (os:Os) {H:Type} (enc:TypeId × Value->H):∃places,DataW.whole enc Tryz.prog ((laidWorld os).forCall (fun _ _=>0) ⟨#[],wargs3,[]⟩).memory Tryz.f3.params.toList Rows.libraryCoversSpec.vars false wargs3.toList 8=some ([.nil,.agg [.lit (.string []),.lit (.int .i64 0)],.agg [.agg [.lit (.int .i64 0),.lit (.int .i64 0),.agg [.lit (.bool false),.nil,.nil],.lit (.string []),.nil],.lit (.bool false),.nil,.nil]],[],places):=
 ⟨[],by kernel_rfl⟩
set_option maxRecDepth 100000 in
theorem lifted3 (os:Os) (started:os.Started) (H:Type) (enc:TypeId × Value->H) (F:Stop.Interp):
  ReturnsInHanded {} Tryz.checked os 3 .any ((Rows.OpenSpec.upto Rows.libraryCoversSpec).preRow enc Tryz.prog Tryz.f3 Rows.libraryCoversUptoRow.domain false Rows.libraryCoversUptoRow.laid) (((Rows.OpenSpec.upto Rows.libraryCoversSpec).at F).post enc Tryz.prog Tryz.f3 false true false false):=by
 obtain⟨places,hx⟩:=reads3 os enc
 refine returnsInHanded_of_row (C:=Tryz.checked) (s:=Rows.OpenSpec.upto Rows.libraryCoversSpec) own started (by kernel_rfl) fn3
  (witness_row_at (enc:=enc) (C:=Tryz.checked) false (laidWorld os) wargs3 rfl (by kernel_rfl) (by kernel_rfl) (by kernel_rfl)
    (OpenSpec.preRow_of_cond 8 hx (by kernel_rfl) (fun k hk=>by cases hk;kernel_rfl) (by kernel_rfl) (laidMet3 os))) ?_
 intro W base args ds gs before bW hW _ hk _ hL _ _
 exact zlr H enc W base args ds gs before bW hW (hk _ rfl) hL
theorem ts3:Tryz.f3.params.toList++(Rows.OpenSpec.upto Rows.libraryCoversSpec).bare.plain.varTypes Tryz.prog=[22,24,34]:=by kernel_rfl
theorem rst3:Tryz.f3.resultTypes=#[4]:=by kernel_rfl
theorem b1_3:Tryz.f3.params.all (Tryz.prog.readableRec ·)=true:=by rw[ps3];simp[qr22,qr24,qr34]
theorem b2_3:([22,24,34]:List Nat).any (Tryz.prog.mapsRec ·)=false:=by simp[qm22,qm24,qm34]
theorem b3_3:([22,24,34]:List Nat).any (Tryz.prog.ifacesRec ·)=false:=by simp[qi22,qi24,qi34]
theorem b4_3:([22,24,34]:List Nat).any (Tryz.prog.loopsFrom ·)=true:=by simp[ql22,ql34]
theorem b5_3:([22,24,34]++(#[4]:Array Nat).toList:List Nat).any (Tryz.prog.wideKeysFrom ·)=false:=by simp[qw22,qw24,qw34,fr5]
theorem b6_3:([22,24,34]++(#[4]:Array Nat).toList:List Nat).any (Tryz.prog.veiledRec ·)=false:=by simp[qv22,qv24,qv34,fr6]
theorem b8_3:(#[4]:Array Nat).toList.any (Tryz.prog.ifacesRec ·)=false:=by simp[fr3]
theorem b9_3:(#[4]:Array Nat).toList.any (Tryz.prog.loopsFrom ·)=false:=by simp[fr4]
theorem closed3:joinedFacts Tryz.prog 3 Tryz.f3 (Rows.OpenSpec.upto Rows.libraryCoversSpec).bare Rows.libraryCoversUptoRow=true:=by
 unfold joinedFacts
 rw[inp3,unf3,rec3,var3,zlh,rowed,b1_3,fp1,fp2,ts3,b2_3,b3_3,b4_3,rst3,b5_3,b6_3,frs4,b8_3,b9_3,fp4,fp5,fp6]
 kernel_rfl
set_option maxRecDepth 100000 in
theorem said3:Rows.LibraryCoversUptoSaid:=
 OpenClaim.holds_of_cond 3 Tryz.f3 rfl rfl rfl rfl rfl rfl rfl ⟨rfl,rfl,rfl,rfl,rfl⟩ rfl rfl rfl rfl rfl (by kernel_rfl) fn3 closed3
  (of_decide_eq_true (by kernel_rfl)) (by unfold Func.isWrapper;first | (rw[if_pos (by decide +kernel)];kernel_rfl) | (rw[if_neg (by decide +kernel)];exact⟨rfl,rfl⟩))
  (fun os started H enc _ F=>by rw[OpenClaim.pre_eq_preRow];exact lifted3 os started H enc F)
end Go.Proofs.YtaonejnicgbifaaGreatDoor
