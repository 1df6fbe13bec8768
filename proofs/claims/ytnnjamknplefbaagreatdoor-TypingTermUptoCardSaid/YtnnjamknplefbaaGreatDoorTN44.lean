/- A part of the proof. -/
import Derived.Test.YtnnjamknplefbaaGreatDoorTN43
import Derived.Deep.DeepWitnessRowRef
set_option linter.all false
open List renaming mem_cons->zf0z
set_option linter.all false
namespace Go.Proofs.YtnnjamknplefbaaGreatDoor.typingTerm
open Go.ChangeShapes Go.WideShapes Go.ChangeAt Go.RowKit Go.Abs Go.Abs.Q
set_option linter.unusedVariables false
set_option maxRecDepth 100000 in
theorem contract(H:Type)(enc:TypeId×Value->H)(W:World)(base:Nat)(args:Array Value)(ds gs:List (DataW H))(T7:List MemPlace)
  (A0H:∀(j:Nat) t v,Tryz.f3.params[j]?=some t->args[j]?=some v->Value.okWide Tryz.prog W .any base t v)
  (hW:DataW.Whole enc Tryz.prog Tryz.f3.params.toList Rows.typingTermSpec.vars false W args.toList ds gs T7) (hk:Rows.uptoSmall H (ds++gs)=true) (hL:laidMetH Tryz.prog Rows.typingTermUptoRow.laid W) :
  Calls Tryz.prog 3 args W λe W'=>∃v,e=.returned v/\Rows.typingTermSpec.post enc Tryz.prog Tryz.f3 false true false false W args v W':=by
 have hW':=hW;obtain⟨p,q,hA0,hV,rfl,hfz,hnd⟩:=hW;have hA:DataW.TrodAll enc Tryz.prog W 0 (λ_=>true) true Tryz.f3.params.toList args.toList ds p:=hA0;rw[Tryz.params3]at hA A0H;obtain⟨v0,vs0,d0,ds0,p0,q0,hargs,rfl,rfl,h0,r0⟩:=trodAll_cons hA;obtain⟨v1,vs1,d1,ds1,p1,q1,rfl,rfl,rfl,h1,r1⟩:=trodAll_cons r0;obtain⟨rfl,rfl,rfl⟩:=trodAll_nil r1;obtain rfl:args=#[v0,v1]:=by cases args;simp_all
 obtain⟨rfl,rfl⟩:=trodVars_none hV;have hb:Rows.uptoBulkAll [d0,d1]<=1048576:=by simpa[Rows.uptoSmall]using hk
 obtain⟨us0,rfl,-⟩:=okWide_struct Tryz.underlying25 (A0H 0 25 v0 rfl rfl);obtain⟨us1,rfl,-⟩:=okWide_struct Tryz.underlying28 (A0H 1 28 v1 rfl rfl);obtain⟨f0,h0⟩:=h0;obtain⟨f1,h1⟩:=h1;obtain⟨g,-,b0,cv0⟩:=gf (w:=W) f0 enc _ _ h0;obtain⟨t,-,b1,cv1⟩:=aQ (w:=W) f1 enc _ _ h1;dsimp only at b0 b1;simp only[Rows.uptoBulkAll]at hb;have B:=A1n (g:=g) a_;refine xk QrS laidOut Tryz.underlying4 rfl (λt ht=>?_) rfl ⟨rfl,rfl,rfl⟩ hW' (gM hL (by kernel_rfl) (by unfold Rows.typingTermUptoRow;simp)) (by simp only[DV];exact⟨_,_,rfl,yJ cv0,_,_,rfl,(by have q:=yJ (us:=us1) cv1;cases t;exact q),rfl⟩) (aY g B t a_);rw[Tryz.params3]at ht;rcases zf0z.1 ht with rfl|ht
 .exact⟨by kernel_rfl,of_decide_eq_true (by kernel_rfl)⟩
 rcases zf0z.1 ht with rfl|ht
 .exact⟨by kernel_rfl,of_decide_eq_true (by kernel_rfl)⟩
 cases ht
def uW:Array Value:=#[.agg #[.slice none 0 0,.slice none 0 0],.agg #[.int .i64 0,.string ⟨#[]⟩,.int .i64 0,.slice none 0 0]]
theorem A0O(os:Os):laidMet Tryz.prog Rows.typingTermUptoRow.laid ((XK os).forCall (λ_ _=>0) ⟨#[],uW,[]⟩).memory :=
 laidMet_of_run' 8 (by kernel_rfl) (by kernel_rfl)
theorem reads(os:Os){H:Type}(enc:TypeId×Value->H):∃places,DataW.whole enc Tryz.prog ((XK os).forCall (λ_ _=>0) ⟨#[],uW,[]⟩).memory Tryz.f3.params.toList Rows.typingTermSpec.vars false uW.toList 8=some ([.agg [.nil,.nil],.agg [.lit (.int .i64 0),.lit (.string []),.lit (.int .i64 0),.nil]],[],places) :=
 ⟨[],by kernel_rfl⟩
set_option maxRecDepth 100000 in
theorem lifted(os:Os)(started:os.Started)(H:Type)(enc:TypeId×Value->H)(F:Stop.Interp) :
  ReturnsInHanded {} Tryz.checked os 3 .any ((Rows.OpenSpec.upto Rows.typingTermSpec).preRow enc Tryz.prog Tryz.f3 Rows.typingTermUptoRow.domain false Rows.typingTermUptoRow.laid) (((Rows.OpenSpec.upto Rows.typingTermSpec).at F).post enc Tryz.prog Tryz.f3 false true false false):=by
 obtain⟨places,hx⟩:=reads os enc;refine returnsInHanded_of_row (C:=Tryz.checked) (s:=Rows.OpenSpec.upto Rows.typingTermSpec) own started (by kernel_rfl) Tryz.func3
  (witness_row_atRef (enc:=enc) (C:=Tryz.checked) false (XK os) uW rfl (by kernel_rfl) (by kernel_rfl) (by kernel_rfl)
   (OpenSpec.preRow_of_cond 8 hx (by kernel_rfl) (λk hk=>by cases hk;kernel_rfl) (by kernel_rfl) (A0O os))) ?_
 intro W base args ds gs T7 A0H hW _ hcond _ hL _ _;exact contract H enc W base args ds gs T7 A0H hW (hcond _ rfl) hL
end Go.Proofs.YtnnjamknplefbaaGreatDoor.typingTerm
