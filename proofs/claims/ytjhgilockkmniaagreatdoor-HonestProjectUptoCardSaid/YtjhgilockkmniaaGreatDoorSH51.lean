/- A part of the proof. -/
import Derived.Test.YtjhgilockkmniaaGreatDoorSH36
import Derived.Test.YtjhgilockkmniaaGreatDoorSH50
import Derived.Deep.DeepWitnessRowRef
set_option linter.all false
open List renaming mem_cons->zf0z
namespace Go.Proofs.YtjhgilockkmniaaGreatDoor.honestProject
open Go.ChangeShapes Go.WideShapes Go.ChangeAt Go.RowKit Go.Abs Go.Abs.Q
set_option linter.unusedVariables false
set_option maxRecDepth 100000 in
theorem contract (H:Type) (enc:TypeId×Value->H) (W:World) (base:Nat) (args:Array Value) (ds gs:List (DataW H)) (O8:List MemPlace)
  (bW:∀(j:Nat) t v,Tryz.f4.params[j]?=some t->args[j]?=some v->Value.okWide Tryz.prog W .any base t v)
  (hW:DataW.Whole enc Tryz.prog Tryz.f4.params.toList Rows.honestProjectSpec.vars false W args.toList ds gs O8) (hk:Rows.uptoSmall H (ds++gs)=true) (hL:laidMetH Tryz.prog Rows.honestProjectUptoRow.laid W) :
  Calls Tryz.prog 4 args W λe W'=>∃v,e=.returned v/\Rows.honestProjectSpec.post enc Tryz.prog Tryz.f4 false true false false W args v W':=by
 have hW':=hW;obtain⟨p,q,hA0,hV,rfl,rp,rq⟩:=hW;have hA:DataW.TrodAll enc Tryz.prog W 0 (λ_=>true) true Tryz.f4.params.toList args.toList ds p:=hA0;rw[Tryz.params4]at hA bW;obtain⟨v0,vs0,d0,ds0,p0,q0,hargs,rfl,rfl,h0,r0⟩:=trodAll_cons hA;obtain⟨v1,vs1,d1,ds1,p1,q1,rfl,rfl,rfl,h1,r1⟩:=trodAll_cons r0;obtain⟨rfl,rfl,rfl⟩:=trodAll_nil r1;obtain rfl:args=#[v0,v1]:=by cases args;simp_all
 obtain⟨rfl,rfl⟩:=trodVars_none hV;have hb:Rows.uptoBulkAll [d0,d1]<=1048576:=by simpa[Rows.uptoSmall]using hk
 obtain⟨us0,rfl,-⟩:=okWide_struct Tryz.underlying27 (bW 0 27 v0 rfl rfl);obtain⟨n1,rfl⟩:=okWide_int Tryz.underlying3 (bW 1 3 v1 rfl rfl);obtain⟨f0,h0⟩:=h0;obtain⟨f1,h1⟩:=h1;obtain⟨n,-,b0,cv0⟩:=ZA (w:=W) f0 enc _ _ h0;obtain⟨g,-,b1,cv1⟩:=FQ (w:=W) Tryz.underlying3 f1 enc _ _ h1;dsimp only at b0 b1;simp only[Rows.uptoBulkAll]at hb;have hn:bv n<=1048576:=by omega
 obtain⟨F,S,hS⟩:=bw hn;refine Zj tp laidOut Tryz.underlying4 rfl (λt ht=>?_) rfl ⟨rfl,rfl,rfl⟩ hW' (RQ hL (by kernel_rfl) (by unfold Rows.honestProjectUptoRow;simp)) (by simp only[U3];exact⟨_,_,rfl,iI cv0,_,_,rfl,iK cv1,rfl⟩) (ML n F S hS g gM);rw[Tryz.params4]at ht;rcases zf0z.1 ht with rfl|ht
 .exact⟨by kernel_rfl,of_decide_eq_true (by kernel_rfl)⟩
 rcases zf0z.1 ht with rfl|ht
 .exact⟨by kernel_rfl,of_decide_eq_true (by kernel_rfl)⟩
 cases ht
def Xh:Array Value:=#[.agg #[.string ⟨#[]⟩,.slice none 0 0,.slice none 0 0,.slice none 0 0,.slice none 0 0,.slice none 0 0],.int .i64 0]
theorem bh (os:Os):laidMet Tryz.prog Rows.honestProjectUptoRow.laid ((MI os).forCall (λ_ _=>0) ⟨#[],Xh,[]⟩).memory :=
 laidMet_of_run' 8 (by kernel_rfl) (by kernel_rfl)
theorem reads (os:Os) {H:Type} (enc:TypeId×Value->H):∃places,DataW.whole enc Tryz.prog ((MI os).forCall (λ_ _=>0) ⟨#[],Xh,[]⟩).memory Tryz.f4.params.toList Rows.honestProjectSpec.vars false Xh.toList 8=some ([.agg [.lit (.string []),.nil,.nil,.nil,.nil,.nil],.lit (.int .i64 0)],[],places) :=
 ⟨[],by kernel_rfl⟩
set_option maxRecDepth 100000 in
theorem lifted (os:Os) (started:os.Started) (H:Type) (enc:TypeId×Value->H) (F:Stop.Interp) :
  ReturnsInHanded {} Tryz.checked os 4 .any ((Rows.OpenSpec.upto Rows.honestProjectSpec).preRow enc Tryz.prog Tryz.f4 Rows.honestProjectUptoRow.domain false Rows.honestProjectUptoRow.laid) (((Rows.OpenSpec.upto Rows.honestProjectSpec).at F).post enc Tryz.prog Tryz.f4 false true false false):=by
 obtain⟨places,hx⟩:=reads os enc;refine returnsInHanded_of_row (C:=Tryz.checked) (s:=Rows.OpenSpec.upto Rows.honestProjectSpec) own started (by kernel_rfl) Tryz.func4
  (witness_row_atRef (enc:=enc) (C:=Tryz.checked) false (MI os) Xh rfl (by kernel_rfl) (by kernel_rfl) (by kernel_rfl)
   (OpenSpec.preRow_of_cond 8 hx (by kernel_rfl) (λk hk=>by cases hk;kernel_rfl) (by kernel_rfl) (bh os))) ?_
 intro W base args ds gs O8 bW hW _ gw _ hL _ _;exact contract H enc W base args ds gs O8 bW hW (gw _ rfl) hL
end Go.Proofs.YtjhgilockkmniaaGreatDoor.honestProject
