/- A part of the proof. -/
import Derived.Test.YtohjdamplbhdpaaGreatDoorSE23
set_option linter.all false
namespace Go.Proofs.YtohjdamplbhdpaaGreatDoor.viewExecutable
open Go.ChangeShapes Go.WideShapes Go.ChangeAt Go.RowKit Go.Abs Go.Abs.Q
set_option linter.unusedVariables false
set_option maxRecDepth 100000 in
theorem contract (H:Type) (enc:TypeId×Value->H) (W:World) (base:Nat) (args:Array Value) (ds gs:List (DataW H)) (w9:List MemPlace)
  (vL:∀(j:Nat) t v,Tryz.f3.params[j]?=some t->args[j]?=some v->Value.okWide Tryz.prog W .any base t v)
  (hW:DataW.Whole enc Tryz.prog Tryz.f3.params.toList Rows.viewExecutableSpec.vars false W args.toList ds gs w9) (hk:Rows.uptoSmall H (ds++gs)=true) :
  Calls Tryz.prog 3 args W λe W'=>∃v,e=.returned v/\Rows.viewExecutableSpec.post enc Tryz.prog Tryz.f3 false true false false W args v W':=by
 have hW':=hW;obtain⟨p,q,hA0,hV,rfl,uN,hnd⟩:=hW;have hA:DataW.TrodAll enc Tryz.prog W 0 (λ_=>true) true Tryz.f3.params.toList args.toList ds p:=hA0;rw[Tryz.params3]at hA vL;obtain⟨v0,vs0,d0,ds0,p0,q0,hargs,rfl,rfl,h0,r0⟩:=trodAll_cons hA;obtain⟨rfl,rfl,rfl⟩:=trodAll_nil r0;obtain rfl:args=#[v0]:=by cases args;simp_all
 obtain⟨rfl,rfl⟩:=trodVars_none hV;have hb:Rows.uptoBulkAll [d0]<=1048576:=by simpa[Rows.uptoSmall]using hk
 obtain⟨us0,rfl,-⟩:=okWide_struct Tryz.underlying27 (vL 0 27 v0 rfl rfl);obtain⟨f0,h0⟩:=h0;obtain⟨n,-,b0,cv0⟩:=oM (w:=W) f0 enc _ _ h0;dsimp only at b0;simp only[Rows.uptoBulkAll]at hb;have hn:sL n<=1048576:=by omega
 obtain⟨F,S,hS⟩:=sM hn;refine qM QS laidOut Tryz.underlying4 rfl (λt ht=>?_) rfl ⟨rfl,rfl,rfl⟩ hW' (by simp only[Dq];exact⟨_,_,rfl,xG cv0,rfl⟩) (Ue n F S hS);rw[Tryz.params3]at ht;rcases List.mem_cons.1 ht with rfl|ht
 .exact⟨by kernel_rfl,of_decide_eq_true (by kernel_rfl)⟩
 cases ht
def mB:Array Value:=#[.agg #[.string ⟨#[]⟩,.slice none 0 0,.slice none 0 0,.slice none 0 0,.slice none 0 0,.slice none 0 0]]
theorem rW (os:Os):laidMet Tryz.prog Rows.viewExecutableUptoRow.laid ((VT os).forCall (λ_ _=>0) ⟨#[],mB,[]⟩).memory :=
 laidMet_of_run' 8 (by kernel_rfl) (by kernel_rfl)
theorem reads (os:Os) {H:Type} (enc:TypeId×Value->H):∃places,DataW.whole enc Tryz.prog ((VT os).forCall (λ_ _=>0) ⟨#[],mB,[]⟩).memory Tryz.f3.params.toList Rows.viewExecutableSpec.vars false mB.toList 8=some ([.agg [.lit (.string []),.nil,.nil,.nil,.nil,.nil]],[],places) :=
 ⟨[],by kernel_rfl⟩
set_option maxRecDepth 100000 in
theorem lifted (os:Os) (started:os.Started) (H:Type) (enc:TypeId×Value->H) (F:Stop.Interp) :
  ReturnsInHanded {} Tryz.checked os 3 .any ((Rows.OpenSpec.upto Rows.viewExecutableSpec).preRow enc Tryz.prog Tryz.f3 Rows.viewExecutableUptoRow.domain false Rows.viewExecutableUptoRow.laid) (((Rows.OpenSpec.upto Rows.viewExecutableSpec).at F).post enc Tryz.prog Tryz.f3 false true false false):=by
 obtain⟨places,hx⟩:=reads os enc;refine returnsInHanded_of_row (C:=Tryz.checked) (s:=Rows.OpenSpec.upto Rows.viewExecutableSpec) own started (by kernel_rfl) Tryz.func3
  (witness_row_at (enc:=enc) (C:=Tryz.checked) false (VT os) mB rfl (by kernel_rfl) (by kernel_rfl) (by kernel_rfl)
   (OpenSpec.preRow_of_cond 8 hx (by kernel_rfl) (λk hk=>by cases hk;kernel_rfl) (by kernel_rfl) (rW os))) ?_
 intro W base args ds gs w9 vL hW _ wi _ _ _ _;exact contract H enc W base args ds gs w9 vL hW (wi _ rfl)
end Go.Proofs.YtohjdamplbhdpaaGreatDoor.viewExecutable
