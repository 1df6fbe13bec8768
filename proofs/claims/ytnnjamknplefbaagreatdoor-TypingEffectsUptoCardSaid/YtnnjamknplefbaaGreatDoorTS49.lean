/- A part of the proof. -/
import Derived.Test.YtnnjamknplefbaaGreatDoorTS48
import Derived.Deep.DeepWitnessRowRef
set_option linter.all false
open List renaming mem_cons->zf0z
set_option linter.all false
namespace Go.Proofs.YtnnjamknplefbaaGreatDoor.typingEffects
open Go.ChangeShapes Go.WideShapes Go.ChangeAt Go.RowKit Go.Abs Go.Abs.Q
set_option linter.unusedVariables false
set_option maxRecDepth 100000 in
theorem contract(H:Type)(enc:TypeId×Value->H)(W:World)(base:Nat)(args:Array Value)(ds gs:List (DataW H))(S7:List MemPlace)
  (lD:∀(j:Nat) t v,Tryz.f4.params[j]?=some t->args[j]?=some v->Value.okWide Tryz.prog W .any base t v)
  (hW:DataW.Whole enc Tryz.prog Tryz.f4.params.toList Rows.typingEffectsSpec.vars false W args.toList ds gs S7) (hk:Rows.uptoSmall H (ds++gs)=true) (hL:laidMetH Tryz.prog Rows.typingEffectsUptoRow.laid W) :
  Calls Tryz.prog 4 args W λe W'=>∃v,e=.returned v/\Rows.typingEffectsSpec.post enc Tryz.prog Tryz.f4 false true false false W args v W':=by
 have hW':=hW;obtain⟨p,q,hA0,hV,rfl,hfz,hnd⟩:=hW;have hA:DataW.TrodAll enc Tryz.prog W 0 (λ_=>true) true Tryz.f4.params.toList args.toList ds p:=hA0;rw[Tryz.params4]at hA lD;obtain⟨v0,vs0,d0,ds0,p0,q0,hargs,rfl,rfl,h0,r0⟩:=trodAll_cons hA;obtain⟨v1,vs1,d1,ds1,p1,q1,rfl,rfl,rfl,h1,r1⟩:=trodAll_cons r0;obtain⟨v2,vs2,d2,ds2,p2,q2,rfl,rfl,rfl,h2,r2⟩:=trodAll_cons r1;obtain⟨rfl,rfl,rfl⟩:=trodAll_nil r2;obtain rfl:args=#[v0,v1,v2]:=by cases args;simp_all
 obtain⟨rfl,rfl⟩:=trodVars_none hV;have hb:Rows.uptoBulkAll [d0,d1,d2]<=1048576:=by simpa[Rows.uptoSmall]using hk
 obtain⟨us0,rfl,-⟩:=okWide_struct Tryz.underlying25 (lD 0 25 v0 rfl rfl);obtain⟨us1,rfl,-⟩:=okWide_struct Tryz.underlying28 (lD 1 28 v1 rfl rfl);obtain⟨us2,rfl,-⟩:=okWide_struct Tryz.underlying46 (lD 2 46 v2 rfl rfl);obtain⟨f0,h0⟩:=h0;obtain⟨f1,h1⟩:=h1;obtain⟨f2,h2⟩:=h2;obtain⟨g,-,b0,cv0⟩:=Xh (w:=W) f0 enc _ _ h0;obtain⟨t,-,b1,cv1⟩:=Si (w:=W) f1 enc _ _ h1;obtain⟨f,-,b2,cv2⟩:=Sg (w:=W) f2 enc _ _ h2;dsimp only at b0 b1 b2;simp only[Rows.uptoBulkAll]at hb;have B:=tK (g:=g) (by omega);have hf:Tm.sizes f.terms<=1048576:=by unfold mv at b2;omega
 refine mc QrS laidOut Tryz.underlying4 rfl (λt ht=>?_) rfl ⟨rfl,rfl,rfl⟩ hW' (XQ hL (by kernel_rfl) (by unfold Rows.typingEffectsUptoRow;simp)) (by simp only[Aj];exact⟨_,_,rfl,dD cv0,_,_,rfl,(by have q:=dD (us:=us1) cv1;cases t;exact q),_,_,rfl,dD cv2,rfl⟩) (OT g B t (by omega) f hf);rw[Tryz.params4]at ht;rcases zf0z.1 ht with rfl|ht
 .exact⟨by kernel_rfl,of_decide_eq_true (by kernel_rfl)⟩
 rcases zf0z.1 ht with rfl|ht
 .exact⟨by kernel_rfl,of_decide_eq_true (by kernel_rfl)⟩
 rcases zf0z.1 ht with rfl|ht
 .exact⟨by kernel_rfl,of_decide_eq_true (by kernel_rfl)⟩
 cases ht
def jX:Array Value:=#[.agg #[.slice none 0 0,.slice none 0 0],.agg #[.int .i64 0,.string ⟨#[]⟩,.int .i64 0,.slice none 0 0],.agg #[.int .i64 0,.int .i64 0,.slice none 0 0]]
theorem qm(os:Os):laidMet Tryz.prog Rows.typingEffectsUptoRow.laid ((Pc os).forCall (λ_ _=>0) ⟨#[],jX,[]⟩).memory :=
 laidMet_of_run' 8 (by kernel_rfl) (by kernel_rfl)
theorem reads(os:Os){H:Type}(enc:TypeId×Value->H):∃places,DataW.whole enc Tryz.prog ((Pc os).forCall (λ_ _=>0) ⟨#[],jX,[]⟩).memory Tryz.f4.params.toList Rows.typingEffectsSpec.vars false jX.toList 8=some ([.agg [.nil,.nil],.agg [.lit (.int .i64 0),.lit (.string []),.lit (.int .i64 0),.nil],.agg [.lit (.int .i64 0),.lit (.int .i64 0),.nil]],[],places) :=
 ⟨[],by kernel_rfl⟩
set_option maxRecDepth 100000 in
theorem lifted(os:Os)(started:os.Started)(H:Type)(enc:TypeId×Value->H)(F:Stop.Interp) :
  ReturnsInHanded {} Tryz.checked os 4 .any ((Rows.OpenSpec.upto Rows.typingEffectsSpec).preRow enc Tryz.prog Tryz.f4 Rows.typingEffectsUptoRow.domain false Rows.typingEffectsUptoRow.laid) (((Rows.OpenSpec.upto Rows.typingEffectsSpec).at F).post enc Tryz.prog Tryz.f4 false true false false):=by
 obtain⟨places,hx⟩:=reads os enc;refine returnsInHanded_of_row (C:=Tryz.checked) (s:=Rows.OpenSpec.upto Rows.typingEffectsSpec) own started (by kernel_rfl) Tryz.func4
  (witness_row_atRef (enc:=enc) (C:=Tryz.checked) false (Pc os) jX rfl (by kernel_rfl) (by kernel_rfl) (by kernel_rfl)
   (OpenSpec.preRow_of_cond 8 hx (by kernel_rfl) (λk hk=>by cases hk;kernel_rfl) (by kernel_rfl) (qm os))) ?_
 intro W base args ds gs S7 lD hW _ hcond _ hL _ _;exact contract H enc W base args ds gs S7 lD hW (hcond _ rfl) hL
end Go.Proofs.YtnnjamknplefbaaGreatDoor.typingEffects
