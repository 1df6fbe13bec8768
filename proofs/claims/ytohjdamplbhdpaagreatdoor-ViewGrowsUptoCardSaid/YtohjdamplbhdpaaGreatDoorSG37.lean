/- A part of the proof. -/
import Derived.Test.YtohjdamplbhdpaaGreatDoorSG36
set_option linter.all false
open List renaming mem_cons->xk
namespace Go.Proofs.YtohjdamplbhdpaaGreatDoor.viewGrows
open Go.ChangeShapes Go.WideShapes Go.ChangeAt Go.RowKit Go.Abs Go.Abs.Q
set_option linter.unusedVariables false
set_option maxRecDepth 100000 in
theorem contract (H:Type) (enc:TypeId×Value->H) (W:World) (base:Nat) (args:Array Value) (ds gs:List (DataW H)) (Y2:List MemPlace)
  (gJ:∀(j:Nat) t v,Tryz.f7.params[j]?=some t->args[j]?=some v->Value.okWide Tryz.prog W .any base t v)
  (hW:DataW.Whole enc Tryz.prog Tryz.f7.params.toList Rows.viewGrowsSpec.vars false W args.toList ds gs Y2) (hk:Rows.uptoSmall H (ds++gs)=true) :
  Calls Tryz.prog 7 args W λe W'=>∃v,e=.returned v/\Rows.viewGrowsSpec.post enc Tryz.prog Tryz.f7 false true false false W args v W':=by
 have hW':=hW;obtain⟨p,q,hA0,hV,rfl,vw,fC⟩:=hW;have hA:DataW.TrodAll enc Tryz.prog W 0 (λ_=>true) true Tryz.f7.params.toList args.toList ds p:=hA0;rw[Tryz.params7]at hA gJ;obtain⟨v0,vs0,d0,ds0,p0,q0,hargs,rfl,rfl,h0,r0⟩:=trodAll_cons hA;obtain⟨v1,vs1,d1,ds1,p1,q1,rfl,rfl,rfl,h1,r1⟩:=trodAll_cons r0;obtain⟨rfl,rfl,rfl⟩:=trodAll_nil r1;obtain rfl:args=#[v0,v1]:=by cases args;simp_all
 obtain⟨rfl,rfl⟩:=trodVars_none hV;have hb:Rows.uptoBulkAll [d0,d1]<=1048576:=by simpa[Rows.uptoSmall]using hk
 obtain⟨us0,rfl,-⟩:=okWide_struct Tryz.underlying51 (gJ 0 51 v0 rfl rfl);obtain⟨us1,rfl,-⟩:=okWide_struct Tryz.underlying42 (gJ 1 42 v1 rfl rfl);obtain⟨f0,h0⟩:=h0;obtain⟨f1,h1⟩:=h1;obtain⟨d,gd,b0,cv0⟩:=dt (w:=W) f0 enc _ _ h0;obtain⟨g,-,b1,cv1⟩:=iC (w:=W) f1 enc _ _ h1;dsimp only at b0 b1;simp only[Rows.uptoBulkAll]at hb;have D:=mb gd (by omega);refine eu QS laidOut Tryz.underlying4 rfl (λt ht=>?_) rfl ⟨rfl,rfl,rfl⟩ hW' (by simp only[BT];exact⟨_,_,rfl,fG cv0,_,_,rfl,fG cv1,rfl⟩) (Vl d D g.1 g.2);rw[Tryz.params7]at ht;rcases xk.1 ht with rfl|ht
 .exact⟨by kernel_rfl,of_decide_eq_true (by kernel_rfl)⟩
 rcases xk.1 ht with rfl|ht
 .exact⟨by kernel_rfl,of_decide_eq_true (by kernel_rfl)⟩
 cases ht
def bw:Array Value:=#[.agg #[.bool false,.slice none 0 0,.slice none 0 0,.slice none 0 0],.agg #[.int .i64 0,.int .i64 0]]
theorem gT (os:Os):laidMet Tryz.prog Rows.viewGrowsUptoRow.laid ((Pm os).forCall (λ_ _=>0) ⟨#[],bw,[]⟩).memory :=
 laidMet_of_run' 8 (by kernel_rfl) (by kernel_rfl)
theorem reads (os:Os) {H:Type} (enc:TypeId×Value->H):∃places,DataW.whole enc Tryz.prog ((Pm os).forCall (λ_ _=>0) ⟨#[],bw,[]⟩).memory Tryz.f7.params.toList Rows.viewGrowsSpec.vars false bw.toList 8=some ([.agg [.lit (.bool false),.nil,.nil,.nil],.agg [.lit (.int .i64 0),.lit (.int .i64 0)]],[],places) :=
 ⟨[],by kernel_rfl⟩
set_option maxRecDepth 100000 in
theorem lifted (os:Os) (started:os.Started) (H:Type) (enc:TypeId×Value->H) (F:Stop.Interp) :
  ReturnsInHanded {} Tryz.checked os 7 .any ((Rows.OpenSpec.upto Rows.viewGrowsSpec).preRow enc Tryz.prog Tryz.f7 Rows.viewGrowsUptoRow.domain false Rows.viewGrowsUptoRow.laid) (((Rows.OpenSpec.upto Rows.viewGrowsSpec).at F).post enc Tryz.prog Tryz.f7 false true false false):=by
 obtain⟨places,hx⟩:=reads os enc;refine returnsInHanded_of_row (C:=Tryz.checked) (s:=Rows.OpenSpec.upto Rows.viewGrowsSpec) own started (by kernel_rfl) Tryz.func7
  (witness_row_at (enc:=enc) (C:=Tryz.checked) false (Pm os) bw rfl (by kernel_rfl) (by kernel_rfl) (by kernel_rfl)
   (OpenSpec.preRow_of_cond 8 hx (by kernel_rfl) (λk hk=>by cases hk;kernel_rfl) (by kernel_rfl) (gT os))) ?_
 intro W base args ds gs Y2 gJ hW _ rZ _ _ _ _;exact contract H enc W base args ds gs Y2 gJ hW (rZ _ rfl)
end Go.Proofs.YtohjdamplbhdpaaGreatDoor.viewGrows
