/- A part of the proof. -/
import Derived.Test.YtohjdamplbhdpaaGreatDoorSO26
set_option linter.all false
namespace Go.Proofs.YtohjdamplbhdpaaGreatDoor.viewOpened
open Go.ChangeShapes Go.WideShapes Go.ChangeAt Go.RowKit Go.Abs Go.Abs.Q
theorem plain (f:FuncId) (fn:Func) (hf:Tryz.pinned.checked.prog.funcNamed "sealring/sealringlaw24.ViewOpened"=some f) (hfn:Tryz.pinned.checked.prog.funcs[f]?=some fn) :
  false=Tryz.pinned.checked.prog.looks []/\∀(j:Nat) t,fn.params[j]?=some t->Tryz.pinned.checked.prog.wantsStandIn t=false:=by
 obtain rfl:f=8:=Option.some.inj ((show Tryz.prog.funcNamed "sealring/sealringlaw24.ViewOpened"=some 8 by kernel_rfl).symm.trans hf) |>.symm;obtain rfl:fn=Tryz.f8:=(Option.some.inj (Tryz.func8.symm.trans hfn)).symm;refine⟨by kernel_rfl,λj t ht=>?_⟩;rw[Tryz.params8]at ht;have ht':=Array.mem_of_getElem? ht;simp only[List.mem_toArray,List.mem_cons,List.mem_nil_iff,or_false]at ht';rcases ht' with rfl|rfl|rfl
 .exact(show Tryz.prog.wantsStandIn 27=false by kernel_rfl)
 .exact(show Tryz.prog.wantsStandIn 42=false by kernel_rfl)
 .exact(show Tryz.prog.wantsStandIn 32=false by kernel_rfl)
theorem card (over:Rows.ViewOpenedUptoSaid):Rows.ViewOpenedUptoCardSaid :=
 Claim7.holds_tied_plain_at .later [] _ _ _ _ over (λ_ h=>by cases h) (by as_aux_lemma=>kernel_rfl) (λ_ h=>by cases h) viewOpenedUpto_row_tie rfl ⟨rfl,rfl⟩ (by as_aux_lemma=>kernel_rfl) rfl plain (vA _ rfl)
end Go.Proofs.YtohjdamplbhdpaaGreatDoor.viewOpened
