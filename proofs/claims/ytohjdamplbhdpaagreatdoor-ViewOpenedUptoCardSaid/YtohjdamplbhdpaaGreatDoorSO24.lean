/- A part of the proof. -/
import Derived.Test.YtohjdamplbhdpaaGreatDoorSO23
set_option linter.all false
open List renaming mem_cons->A0Q
namespace Go.Proofs.YtohjdamplbhdpaaGreatDoor.viewOpened
open Go.ChangeShapes Go.WideShapes Go.ChangeAt Go.RowKit Go.Abs Go.Abs.Q
set_option linter.unusedVariables false
set_option maxRecDepth 100000 in
theorem contract (H:Type) (enc:TypeId×Value->H) (W:World) (base:Nat) (args:Array Value) (ds gs:List (DataW H)) (w6:List MemPlace)
  (mi:∀(j:Nat) t v,Tryz.f8.params[j]?=some t->args[j]?=some v->Value.okWide Tryz.prog W .any base t v)
  (hW:DataW.Whole enc Tryz.prog Tryz.f8.params.toList Rows.viewOpenedSpec.vars false W args.toList ds gs w6) (hk:Rows.uptoSmall H (ds++gs)=true) :
  Calls Tryz.prog 8 args W λe W'=>∃v,e=.returned v/\Rows.viewOpenedSpec.post enc Tryz.prog Tryz.f8 false true false false W args v W':=by
 have hW':=hW;obtain⟨p,q,hA0,hV,rfl,uE,hnd⟩:=hW;have hA:DataW.TrodAll enc Tryz.prog W 0 (λ_=>true) true Tryz.f8.params.toList args.toList ds p:=hA0;rw[Tryz.params8]at hA mi;obtain⟨v0,vs0,d0,ds0,p0,q0,hargs,rfl,rfl,h0,r0⟩:=trodAll_cons hA;obtain⟨v1,vs1,d1,ds1,p1,q1,rfl,rfl,rfl,h1,r1⟩:=trodAll_cons r0;obtain⟨v2,vs2,d2,ds2,p2,q2,rfl,rfl,rfl,h2,r2⟩:=trodAll_cons r1;obtain⟨rfl,rfl,rfl⟩:=trodAll_nil r2;obtain rfl:args=#[v0,v1,v2]:=by cases args;simp_all
 obtain⟨rfl,rfl⟩:=trodVars_none hV;have hb:Rows.uptoBulkAll [d0,d1,d2]<=1048576:=by simpa[Rows.uptoSmall]using hk
 obtain⟨us0,rfl,-⟩:=okWide_struct Tryz.underlying27 (mi 0 27 v0 rfl rfl);obtain⟨us1,rfl,-⟩:=okWide_struct Tryz.underlying42 (mi 1 42 v1 rfl rfl);obtain⟨us2,rfl,-⟩:=okWide_struct Tryz.underlying32 (mi 2 32 v2 rfl rfl);obtain⟨f0,h0⟩:=h0;obtain⟨f1,h1⟩:=h1;obtain⟨f2,h2⟩:=h2;obtain⟨n,-,b0,cv0⟩:=nq (w:=W) f0 enc _ _ h0;obtain⟨g,-,b1,cv1⟩:=sB (w:=W) f1 enc _ _ h1;obtain⟨t,-,b2,cv2⟩:=Xk (w:=W) f2 enc _ _ h2;dsimp only at b0 b1 b2;simp only[Rows.uptoBulkAll]at hb;have hn:ry n<=1048576:=by omega
 obtain⟨F,S,hS⟩:=rz hn;have ht:t.size<=1048576:=by omega
 obtain⟨tk,tn,ts,tm,tks⟩:=t;refine qA QS laidOut Tryz.underlying4 rfl (λt ht=>?_) rfl ⟨rfl,rfl,rfl⟩ hW' (by simp only[Dg];exact⟨_,_,rfl,gv cv0,_,_,rfl,gv cv1,_,_,rfl,gv cv2,rfl⟩) (Yy n F S hS g.1 g.2 (.mk tk tn ts tm tks) ht);rw[Tryz.params8]at ht;rcases A0Q.1 ht with rfl|ht
 .exact⟨by kernel_rfl,of_decide_eq_true (by kernel_rfl)⟩
 rcases A0Q.1 ht with rfl|ht
 .exact⟨by kernel_rfl,of_decide_eq_true (by kernel_rfl)⟩
 rcases A0Q.1 ht with rfl|ht
 .exact⟨by kernel_rfl,of_decide_eq_true (by kernel_rfl)⟩
 cases ht
def lr:Array Value:=#[.agg #[.string ⟨#[]⟩,.slice none 0 0,.slice none 0 0,.slice none 0 0,.slice none 0 0,.slice none 0 0],.agg #[.int .i64 0,.int .i64 0],.agg #[.int .i64 0,.string ⟨#[]⟩,.int .i64 0,.slice none 0 0]]
theorem rM (os:Os):laidMet Tryz.prog Rows.viewOpenedUptoRow.laid ((VE os).forCall (λ_ _=>0) ⟨#[],lr,[]⟩).memory :=
 laidMet_of_run' 8 (by kernel_rfl) (by kernel_rfl)
theorem reads (os:Os) {H:Type} (enc:TypeId×Value->H):∃places,DataW.whole enc Tryz.prog ((VE os).forCall (λ_ _=>0) ⟨#[],lr,[]⟩).memory Tryz.f8.params.toList Rows.viewOpenedSpec.vars false lr.toList 8=some ([.agg [.lit (.string []),.nil,.nil,.nil,.nil,.nil],.agg [.lit (.int .i64 0),.lit (.int .i64 0)],.agg [.lit (.int .i64 0),.lit (.string []),.lit (.int .i64 0),.nil]],[],places) :=
 ⟨[],by kernel_rfl⟩
set_option maxRecDepth 100000 in
theorem lifted (os:Os) (started:os.Started) (H:Type) (enc:TypeId×Value->H) (F:Stop.Interp) :
  ReturnsInHanded {} Tryz.checked os 8 .any ((Rows.OpenSpec.upto Rows.viewOpenedSpec).preRow enc Tryz.prog Tryz.f8 Rows.viewOpenedUptoRow.domain false Rows.viewOpenedUptoRow.laid) (((Rows.OpenSpec.upto Rows.viewOpenedSpec).at F).post enc Tryz.prog Tryz.f8 false true false false):=by
 obtain⟨places,hx⟩:=reads os enc;refine returnsInHanded_of_row (C:=Tryz.checked) (s:=Rows.OpenSpec.upto Rows.viewOpenedSpec) own started (by kernel_rfl) Tryz.func8
  (witness_row_at (enc:=enc) (C:=Tryz.checked) false (VE os) lr rfl (by kernel_rfl) (by kernel_rfl) (by kernel_rfl)
   (OpenSpec.preRow_of_cond 8 hx (by kernel_rfl) (λk hk=>by cases hk;kernel_rfl) (by kernel_rfl) (rM os))) ?_
 intro W base args ds gs w6 mi hW _ wW _ _ _ _;exact contract H enc W base args ds gs w6 mi hW (wW _ rfl)
end Go.Proofs.YtohjdamplbhdpaaGreatDoor.viewOpened
