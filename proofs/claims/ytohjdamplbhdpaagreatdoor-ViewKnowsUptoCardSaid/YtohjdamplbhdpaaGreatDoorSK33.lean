/- A part of the proof. -/
import Derived.Test.YtohjdamplbhdpaaGreatDoorSK32
set_option linter.all false
open List renaming mem_cons->A0A
namespace Go.Proofs.YtohjdamplbhdpaaGreatDoor.viewKnows
open Go.ChangeShapes Go.WideShapes Go.ChangeAt Go.RowKit Go.Abs Go.Abs.Q
set_option linter.unusedVariables false
set_option maxRecDepth 100000 in
theorem contract (H:Type) (enc:TypeId×Value->H) (W:World) (base:Nat) (args:Array Value) (ds gs:List (DataW H)) (j7:List MemPlace)
  (kZ:∀(j:Nat) t v,Tryz.f9.params[j]?=some t->args[j]?=some v->Value.okWide Tryz.prog W .any base t v)
  (hW:DataW.Whole enc Tryz.prog Tryz.f9.params.toList Rows.viewKnowsSpec.vars false W args.toList ds gs j7) (hk:Rows.uptoSmall H (ds++gs)=true) :
  Calls Tryz.prog 9 args W λe W'=>∃v,e=.returned v/\Rows.viewKnowsSpec.post enc Tryz.prog Tryz.f9 false true false false W args v W':=by
 have hW':=hW;obtain⟨p,q,hA0,hV,rfl,yW,zy⟩:=hW;have hA:DataW.TrodAll enc Tryz.prog W 0 (λ_=>true) true Tryz.f9.params.toList args.toList ds p:=hA0;rw[Tryz.params9]at hA kZ;obtain⟨v0,vs0,d0,ds0,p0,q0,hargs,rfl,rfl,h0,r0⟩:=trodAll_cons hA;obtain⟨v1,vs1,d1,ds1,p1,q1,rfl,rfl,rfl,h1,r1⟩:=trodAll_cons r0;obtain⟨rfl,rfl,rfl⟩:=trodAll_nil r1;obtain rfl:args=#[v0,v1]:=by cases args;simp_all
 obtain⟨rfl,rfl⟩:=trodVars_none hV;have hb:Rows.uptoBulkAll [d0,d1]<=1048576:=by simpa[Rows.uptoSmall]using hk
 obtain⟨us0,rfl,-⟩:=okWide_struct Tryz.underlying27 (kZ 0 27 v0 rfl rfl);obtain⟨us1,rfl,-⟩:=okWide_struct Tryz.underlying42 (kZ 1 42 v1 rfl rfl);obtain⟨f0,h0⟩:=h0;obtain⟨f1,h1⟩:=h1;obtain⟨n,-,b0,cv0⟩:=iT (w:=W) f0 enc _ _ h0;obtain⟨g,-,b1,cv1⟩:=lW (w:=W) f1 enc _ _ h1;dsimp only at b0 b1;simp only[Rows.uptoBulkAll]at hb;have hn:lR n<=1048576:=by omega
 obtain⟨F,S,hS⟩:=lS hn;refine jZ QS laidOut Tryz.underlying4 rfl (λt ht=>?_) rfl ⟨rfl,rfl,rfl⟩ hW' (by simp only[Cg];exact⟨_,_,rfl,jj cv0,_,_,rfl,jj cv1,rfl⟩) (YO n F S hS g.1 g.2);rw[Tryz.params9]at ht;rcases A0A.1 ht with rfl|ht
 .exact⟨by kernel_rfl,of_decide_eq_true (by kernel_rfl)⟩
 rcases A0A.1 ht with rfl|ht
 .exact⟨by kernel_rfl,of_decide_eq_true (by kernel_rfl)⟩
 cases ht
def fq:Array Value:=#[.agg #[.string ⟨#[]⟩,.slice none 0 0,.slice none 0 0,.slice none 0 0,.slice none 0 0,.slice none 0 0],.agg #[.int .i64 0,.int .i64 0]]
theorem kv (os:Os):laidMet Tryz.prog Rows.viewKnowsUptoRow.laid ((ST os).forCall (λ_ _=>0) ⟨#[],fq,[]⟩).memory :=
 laidMet_of_run' 8 (by kernel_rfl) (by kernel_rfl)
theorem reads (os:Os) {H:Type} (enc:TypeId×Value->H):∃places,DataW.whole enc Tryz.prog ((ST os).forCall (λ_ _=>0) ⟨#[],fq,[]⟩).memory Tryz.f9.params.toList Rows.viewKnowsSpec.vars false fq.toList 8=some ([.agg [.lit (.string []),.nil,.nil,.nil,.nil,.nil],.agg [.lit (.int .i64 0),.lit (.int .i64 0)]],[],places) :=
 ⟨[],by kernel_rfl⟩
set_option maxRecDepth 100000 in
theorem lifted (os:Os) (started:os.Started) (H:Type) (enc:TypeId×Value->H) (F:Stop.Interp) :
  ReturnsInHanded {} Tryz.checked os 9 .any ((Rows.OpenSpec.upto Rows.viewKnowsSpec).preRow enc Tryz.prog Tryz.f9 Rows.viewKnowsUptoRow.domain false Rows.viewKnowsUptoRow.laid) (((Rows.OpenSpec.upto Rows.viewKnowsSpec).at F).post enc Tryz.prog Tryz.f9 false true false false):=by
 obtain⟨places,hx⟩:=reads os enc;refine returnsInHanded_of_row (C:=Tryz.checked) (s:=Rows.OpenSpec.upto Rows.viewKnowsSpec) own started (by kernel_rfl) Tryz.func9
  (witness_row_at (enc:=enc) (C:=Tryz.checked) false (ST os) fq rfl (by kernel_rfl) (by kernel_rfl) (by kernel_rfl)
   (OpenSpec.preRow_of_cond 8 hx (by kernel_rfl) (λk hk=>by cases hk;kernel_rfl) (by kernel_rfl) (kv os))) ?_
 intro W base args ds gs j7 kZ hW _ qP _ _ _ _;exact contract H enc W base args ds gs j7 kZ hW (qP _ rfl)
end Go.Proofs.YtohjdamplbhdpaaGreatDoor.viewKnows
