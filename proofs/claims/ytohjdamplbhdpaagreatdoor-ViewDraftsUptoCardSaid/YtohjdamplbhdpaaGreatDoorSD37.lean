/- A part of the proof. -/
import Derived.Test.YtohjdamplbhdpaaGreatDoorSD36
set_option linter.all false
namespace Go.Proofs.YtohjdamplbhdpaaGreatDoor.viewDrafts
open Go.ChangeShapes Go.WideShapes Go.ChangeAt Go.RowKit Go.Abs Go.Abs.Q
set_option linter.unusedVariables false
set_option maxRecDepth 100000 in
theorem contract (H:Type) (enc:TypeId×Value->H) (W:World) (base:Nat) (args:Array Value) (ds gs:List (DataW H)) (Y1:List MemPlace)
  (jp:∀(j:Nat) t v,Tryz.f6.params[j]?=some t->args[j]?=some v->Value.okWide Tryz.prog W .any base t v)
  (hW:DataW.Whole enc Tryz.prog Tryz.f6.params.toList Rows.viewDraftsSpec.vars false W args.toList ds gs Y1) (hk:Rows.uptoSmall H (ds++gs)=true) :
  Calls Tryz.prog 6 args W λe W'=>∃v,e=.returned v/\Rows.viewDraftsSpec.post enc Tryz.prog Tryz.f6 false true false false W args v W':=by
 have hW':=hW;obtain⟨p,q,hA0,hV,rfl,vX,eX⟩:=hW;have hA:DataW.TrodAll enc Tryz.prog W 0 (λ_=>true) true Tryz.f6.params.toList args.toList ds p:=hA0;rw[Tryz.params6]at hA jp;obtain⟨v0,vs0,d0,ds0,p0,q0,hargs,rfl,rfl,h0,r0⟩:=trodAll_cons hA;obtain⟨rfl,rfl,rfl⟩:=trodAll_nil r0;obtain rfl:args=#[v0]:=by cases args;simp_all
 obtain⟨rfl,rfl⟩:=trodVars_none hV;have hb:Rows.uptoBulkAll [d0]<=1048576:=by simpa[Rows.uptoSmall]using hk
 obtain⟨us0,rfl,-⟩:=okWide_struct Tryz.underlying51 (jp 0 51 v0 rfl rfl);obtain⟨f0,h0⟩:=h0;obtain⟨d,gd,b0,cv0⟩:=dR (w:=W) f0 enc _ _ h0;dsimp only at b0;simp only[Rows.uptoBulkAll]at hb;have D:=mN gd (by omega);refine eR QS laidOut Tryz.underlying4 rfl (λt ht=>?_) rfl ⟨rfl,rfl,rfl⟩ hW' (by simp only[BS];exact⟨_,_,rfl,lm cv0,rfl⟩) (TP d D);rw[Tryz.params6]at ht;rcases List.mem_cons.1 ht with rfl|ht
 .exact⟨by kernel_rfl,of_decide_eq_true (by kernel_rfl)⟩
 cases ht
def ba:Array Value:=#[.agg #[.bool false,.slice none 0 0,.slice none 0 0,.slice none 0 0]]
theorem gC (os:Os):laidMet Tryz.prog Rows.viewDraftsUptoRow.laid ((Pe os).forCall (λ_ _=>0) ⟨#[],ba,[]⟩).memory :=
 laidMet_of_run' 8 (by kernel_rfl) (by kernel_rfl)
theorem reads (os:Os) {H:Type} (enc:TypeId×Value->H):∃places,DataW.whole enc Tryz.prog ((Pe os).forCall (λ_ _=>0) ⟨#[],ba,[]⟩).memory Tryz.f6.params.toList Rows.viewDraftsSpec.vars false ba.toList 8=some ([.agg [.lit (.bool false),.nil,.nil,.nil]],[],places) :=
 ⟨[],by kernel_rfl⟩
set_option maxRecDepth 100000 in
theorem lifted (os:Os) (started:os.Started) (H:Type) (enc:TypeId×Value->H) (F:Stop.Interp) :
  ReturnsInHanded {} Tryz.checked os 6 .any ((Rows.OpenSpec.upto Rows.viewDraftsSpec).preRow enc Tryz.prog Tryz.f6 Rows.viewDraftsUptoRow.domain false Rows.viewDraftsUptoRow.laid) (((Rows.OpenSpec.upto Rows.viewDraftsSpec).at F).post enc Tryz.prog Tryz.f6 false true false false):=by
 obtain⟨places,hx⟩:=reads os enc;refine returnsInHanded_of_row (C:=Tryz.checked) (s:=Rows.OpenSpec.upto Rows.viewDraftsSpec) own started (by kernel_rfl) Tryz.func6
  (witness_row_at (enc:=enc) (C:=Tryz.checked) false (Pe os) ba rfl (by kernel_rfl) (by kernel_rfl) (by kernel_rfl)
   (OpenSpec.preRow_of_cond 8 hx (by kernel_rfl) (λk hk=>by cases hk;kernel_rfl) (by kernel_rfl) (gC os))) ?_
 intro W base args ds gs Y1 jp hW _ rO _ _ _ _;exact contract H enc W base args ds gs Y1 jp hW (rO _ rfl)
end Go.Proofs.YtohjdamplbhdpaaGreatDoor.viewDrafts
