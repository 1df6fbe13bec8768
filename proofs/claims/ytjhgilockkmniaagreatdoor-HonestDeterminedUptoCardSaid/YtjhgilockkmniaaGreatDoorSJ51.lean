/- A part of the proof. -/
import Derived.Test.YtjhgilockkmniaaGreatDoorSJ36
import Derived.Test.YtjhgilockkmniaaGreatDoorSJ50
import Derived.Deep.DeepWitnessRowRef
set_option linter.all false
namespace Go.Proofs.YtjhgilockkmniaaGreatDoor.honestDetermined
open Go.ChangeShapes Go.WideShapes Go.ChangeAt Go.RowKit Go.Abs Go.Abs.Q
set_option linter.unusedVariables false
set_option maxRecDepth 100000 in
theorem contract (H:Type) (enc:TypeId×Value->H) (W:World) (base:Nat) (args:Array Value) (ds gs:List (DataW H)) (P8:List MemPlace)
  (fz:∀(j:Nat) t v,Tryz.f3.params[j]?=some t->args[j]?=some v->Value.okWide Tryz.prog W .any base t v)
  (hW:DataW.Whole enc Tryz.prog Tryz.f3.params.toList Rows.honestDeterminedSpec.vars false W args.toList ds gs P8) (hk:Rows.uptoSmall H (ds++gs)=true) (hL:laidMetH Tryz.prog Rows.honestDeterminedUptoRow.laid W) :
  Calls Tryz.prog 3 args W λe W'=>∃v,e=.returned v/\Rows.honestDeterminedSpec.post enc Tryz.prog Tryz.f3 false true false false W args v W':=by
 have hW':=hW;obtain⟨p,q,hA0,hV,rfl,sx,sy⟩:=hW;have hA:DataW.TrodAll enc Tryz.prog W 0 (λ_=>true) true Tryz.f3.params.toList args.toList ds p:=hA0;rw[Tryz.params3]at hA fz;obtain⟨v0,vs0,d0,ds0,p0,q0,hargs,rfl,rfl,h0,r0⟩:=trodAll_cons hA;obtain⟨rfl,rfl,rfl⟩:=trodAll_nil r0;obtain rfl:args=#[v0]:=by cases args;simp_all
 obtain⟨rfl,rfl⟩:=trodVars_none hV;have hb:Rows.uptoBulkAll [d0]<=1048576:=by simpa[Rows.uptoSmall]using hk
 obtain⟨us0,rfl,-⟩:=okWide_struct Tryz.underlying27 (fz 0 27 v0 rfl rfl);obtain⟨f0,h0⟩:=h0;obtain⟨n,-,b0,cv0⟩:=ZZ (w:=W) f0 enc _ _ h0;dsimp only at b0;simp only[Rows.uptoBulkAll]at hb;have hn:cr n<=1048576:=by omega
 obtain⟨F,S,hS⟩:=ct hn;refine aI uk laidOut Tryz.underlying4 rfl (λt ht=>?_) rfl ⟨rfl,rfl,rfl⟩ hW' (Rk hL (by kernel_rfl) (by unfold Rows.honestDeterminedUptoRow;simp)) (by simp only[W5];exact⟨_,_,rfl,iz cv0,rfl⟩) (KZ n F S hS iG);rw[Tryz.params3]at ht;rcases List.mem_cons.1 ht with rfl|ht
 .exact⟨by kernel_rfl,of_decide_eq_true (by kernel_rfl)⟩
 cases ht
def YK:Array Value:=#[.agg #[.string ⟨#[]⟩,.slice none 0 0,.slice none 0 0,.slice none 0 0,.slice none 0 0,.slice none 0 0]]
theorem cc (os:Os):laidMet Tryz.prog Rows.honestDeterminedUptoRow.laid ((MP os).forCall (λ_ _=>0) ⟨#[],YK,[]⟩).memory :=
 laidMet_of_run' 8 (by kernel_rfl) (by kernel_rfl)
theorem reads (os:Os) {H:Type} (enc:TypeId×Value->H):∃places,DataW.whole enc Tryz.prog ((MP os).forCall (λ_ _=>0) ⟨#[],YK,[]⟩).memory Tryz.f3.params.toList Rows.honestDeterminedSpec.vars false YK.toList 8=some ([.agg [.lit (.string []),.nil,.nil,.nil,.nil,.nil]],[],places) :=
 ⟨[],by kernel_rfl⟩
set_option maxRecDepth 100000 in
theorem lifted (os:Os) (started:os.Started) (H:Type) (enc:TypeId×Value->H) (F:Stop.Interp) :
  ReturnsInHanded {} Tryz.checked os 3 .any ((Rows.OpenSpec.upto Rows.honestDeterminedSpec).preRow enc Tryz.prog Tryz.f3 Rows.honestDeterminedUptoRow.domain false Rows.honestDeterminedUptoRow.laid) (((Rows.OpenSpec.upto Rows.honestDeterminedSpec).at F).post enc Tryz.prog Tryz.f3 false true false false):=by
 obtain⟨places,hx⟩:=reads os enc;refine returnsInHanded_of_row (C:=Tryz.checked) (s:=Rows.OpenSpec.upto Rows.honestDeterminedSpec) own started (by kernel_rfl) Tryz.func3
  (witness_row_atRef (enc:=enc) (C:=Tryz.checked) false (MP os) YK rfl (by kernel_rfl) (by kernel_rfl) (by kernel_rfl)
   (OpenSpec.preRow_of_cond 8 hx (by kernel_rfl) (λk hk=>by cases hk;kernel_rfl) (by kernel_rfl) (cc os))) ?_
 intro W base args ds gs P8 fz hW _ ig _ hL _ _;exact contract H enc W base args ds gs P8 fz hW (ig _ rfl) hL
end Go.Proofs.YtjhgilockkmniaaGreatDoor.honestDetermined
