import Derived.Test.YtnnhofmknilopaaGreatDoorAc
import Derived.Test.YtnnhofmknilopaaGreatDoorPk33
namespace Go.Proofs.YtnnhofmknilopaaGreatDoor
open Go Go.Proofs.YtnnhofmknilopaaGreatDoor.Gx Go.ChangeShapes Go.WideShapes Go.ChangeAt Go.RowKit
theorem q1s:Tryz.prog.readableRec 32=true:=q1
theorem fn3:Tryz.prog.funcs[3]?=some Tryz.f3:=by kernel_rfl
theorem ps3:Tryz.f3.params=#[32]:=by kernel_rfl
theorem uTabOf {w:World} (h:laidMetH Tryz.prog Rows.checkPrintsUptoRow.laid w):Lib.TabIs Tryz.prog w "math/bits.deBruijn32tab" .u8 zs32:=
 Lib.tabIs_of_head gTab gTabType uTab uByte cell8 cTab h
theorem uPowOf {w:World} (h:laidMetH Tryz.prog Rows.checkPrintsUptoRow.laid w):Ti w:=
 Lib.tabIs_of_head (zs:=Lib.pow10Tab) gPow gPowType uPow uWord cell64 cPow (zlk h)
set_option maxRecDepth 100000 in
theorem zlt (H:Type) (enc:TypeId × Value->H) (W:World) (args:Array Value) (ds gs:List (DataW H)) (before:List MemPlace)
  (hW:DataW.Whole enc Tryz.prog Tryz.f3.params.toList Rows.checkPrintsSpec.vars false W args.toList ds gs before) (hs:Rows.uptoSmall H (ds++gs)=true) (hL:laidMetH Tryz.prog Rows.checkPrintsUptoRow.laid W):
  Calls Tryz.prog 3 args W fun e W'=>∃v,e=.returned v/\Rows.checkPrintsSpec.post enc Tryz.prog Tryz.f3 false true false false W args v W':=by
 have hW':=hW
 obtain⟨p,q,hA0,hV,rfl,hfz,hnd⟩:=hW
 have hA:DataW.TrodAll enc Tryz.prog W 0 (fun _=>true) true Tryz.f3.params.toList args.toList ds p:=hA0
 rw[ps3] at hA
 obtain⟨v0,vs0,d0,ds0,p0,q0,br,rfl,rfl,h0,r0⟩:=trodAll_cons hA
 obtain⟨rfl,rfl,rfl⟩:=trodAll_nil r0
 obtain rfl:args=#[v0]:=by cases args;simp_all
 obtain⟨rfl,rfl⟩:=trodVars_none hV
 have hs':Rows.uptoBulk d0+0<=1048576:=of_decide_eq_true hs
 obtain⟨X,D,rfl,hX,hwf⟩:=step_of (by omega) h0
 refine(zgd hX hwf (tb_of (uTabOf hL)) (uPowOf hL) fun w1 hb=>zih (zlj (uTabOf hL) hb)).mono fun e W' he=>?_
 obtain⟨rfl,hb⟩:=he
 refine⟨_,rfl,post_true zlh ?_ rfl ⟨rfl,rfl,rfl⟩ (tb:=4) (by kernel_rfl) uBool hW' hb⟩
 intro t ht
 rw[ps3] at ht
 have:t=32:=by simpa using ht
 subst this
 exact⟨q1s,by decide +kernel⟩
def uWargs:Array Value:=#[.agg #[.int .i64 0,.string ⟨#[]⟩,.string ⟨#[]⟩,.bool false,.slice none 0 0,.slice none 0 0,.int .i64 0,.int .i64 0,.int .i64 0,.int .i64 0,.int .i64 0,.bool false,.slice none 0 0,.slice none 0 0,.string ⟨#[]⟩,.slice none 0 0,.slice none 0 0,.string ⟨#[]⟩,.int .i64 0,.slice none 0 0,.slice none 0 0]]
theorem uLaidMet (os:Os):laidMet Tryz.prog Rows.checkPrintsUptoRow.laid ((laidWorld os).forCall (fun _ _=>0) ⟨#[],uWargs,[]⟩).memory:=
 laidMet_of_run' 8 (by kernel_rfl) (by kernel_rfl)
theorem uReads (os:Os) {H:Type} (enc:TypeId × Value->H):∃places,DataW.whole enc Tryz.prog ((laidWorld os).forCall (fun _ _=>0) ⟨#[],uWargs,[]⟩).memory Tryz.f3.params.toList Rows.checkPrintsSpec.vars false uWargs.toList 8=some ([.agg [.lit (.int .i64 0),.lit (.string []),.lit (.string []),.agg [.lit (.bool false),.nil,.nil],.lit (.int .i64 0),.lit (.int .i64 0),.lit (.int .i64 0),.agg [.lit (.int .i64 0),.lit (.int .i64 0),.agg [.lit (.bool false),.nil,.nil],.lit (.string []),.nil],.nil,.lit (.string []),.lit (.int .i64 0),.nil,.nil]],[],places):=
 ⟨[],by kernel_rfl⟩
set_option maxRecDepth 100000 in
theorem uLifted (os:Os) (started:os.Started) (H:Type) (enc:TypeId × Value->H) (F:Stop.Interp):
  ReturnsInHanded {} Tryz.checked os 3 .any ((Rows.OpenSpec.upto Rows.checkPrintsSpec).preRow enc Tryz.prog Tryz.f3 Rows.checkPrintsUptoRow.domain false Rows.checkPrintsUptoRow.laid) (((Rows.OpenSpec.upto Rows.checkPrintsSpec).at F).post enc Tryz.prog Tryz.f3 false true false false):=by
 obtain⟨places,hx⟩:=uReads os enc
 refine returnsInHanded_of_row (C:=Tryz.checked) (s:=Rows.OpenSpec.upto Rows.checkPrintsSpec) own started (by kernel_rfl) fn3
  (witness_row_at (enc:=enc) (C:=Tryz.checked) false (laidWorld os) uWargs rfl (by kernel_rfl) (by kernel_rfl) (by kernel_rfl)
    (OpenSpec.preRow_of_cond 8 hx (by kernel_rfl) (fun k hk=>by cases hk;kernel_rfl) (by kernel_rfl) (uLaidMet os))) ?_
 intro W _ args ds gs before _ hW _ hk _ hL _ _
 exact zlt H enc W args ds gs before hW (hk _ rfl) hL
theorem ts3:Tryz.f3.params.toList++(Rows.OpenSpec.upto Rows.checkPrintsSpec).bare.plain.varTypes Tryz.prog=[32]:=by kernel_rfl
theorem rs3:Tryz.f3.resultTypes=#[4]:=by kernel_rfl
theorem b1:Tryz.f3.params.all (Tryz.prog.readableRec ·)=true:=by rw[ps3];simp[q1s]
theorem b2:([32]:List Nat).any (Tryz.prog.mapsRec ·)=false:=by simp[q2]
theorem b3:([32]:List Nat).any (Tryz.prog.ifacesRec ·)=false:=by simp[q3]
theorem b4:([32]:List Nat).any (Tryz.prog.loopsFrom ·)=true:=by simp[q4]
theorem b5:([32]++(#[4]:Array Nat).toList:List Nat).any (Tryz.prog.wideKeysFrom ·)=false:=by simp[q5,r5]
theorem b6:([32]++(#[4]:Array Nat).toList:List Nat).any (Tryz.prog.veiledRec ·)=false:=by simp[q6,r6]
theorem a7:(#[4]:Array Nat).all (fun t=>Tryz.prog.readableRec t&&decide (t<Tryz.prog.types.size))=true:=by
 simp[r1]
theorem a8:(#[4]:Array Nat).toList.any (Tryz.prog.ifacesRec ·)=false:=by simp[r3]
theorem a9:(#[4]:Array Nat).toList.any (Tryz.prog.loopsFrom ·)=false:=by simp[r4]
theorem uClosed:joinedFacts Tryz.prog 3 Tryz.f3 (Rows.OpenSpec.upto Rows.checkPrintsSpec).bare Rows.checkPrintsUptoRow=true:=by
 unfold joinedFacts
 rw[inp3,unf3,rec3,var3,zlh,rowed,b1,p1,p2,ts3,b2,b3,b4,rs3,b5,b6,a7,a8,a9,p4,p5]
 kernel_rfl
set_option maxRecDepth 100000 in
theorem uSaid:Rows.CheckPrintsUptoSaid:=
 OpenClaim.holds_of_cond 3 Tryz.f3 rfl rfl rfl rfl rfl rfl rfl ⟨rfl,rfl,rfl,rfl,rfl⟩ rfl rfl rfl rfl rfl (by kernel_rfl) fn3 uClosed
  (of_decide_eq_true (by kernel_rfl)) (by unfold Func.isWrapper;first | (rw[if_pos (by decide +kernel)];kernel_rfl) | (rw[if_neg (by decide +kernel)];exact⟨rfl,rfl⟩))
  (fun os started H enc _ F=>by rw[OpenClaim.pre_eq_preRow];exact uLifted os started H enc F)
end Go.Proofs.YtnnhofmknilopaaGreatDoor
