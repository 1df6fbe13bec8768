/- A part of the proof. -/
import Derived.Test.YtohjdamplbhdpaaGreatDoorSD39
set_option linter.all false
namespace Go.Proofs.YtohjdamplbhdpaaGreatDoor.viewDrafts
open Go.ChangeShapes Go.WideShapes Go.ChangeAt Go.RowKit Go.Abs Go.Abs.Q
theorem plain (f:FuncId) (fn:Func) (hf:Tryz.pinned.checked.prog.funcNamed "sealring/sealringlaw24.ViewDrafts"=some f) (hfn:Tryz.pinned.checked.prog.funcs[f]?=some fn) :
  false=Tryz.pinned.checked.prog.looks []/\∀(j:Nat) t,fn.params[j]?=some t->Tryz.pinned.checked.prog.wantsStandIn t=false:=by
 obtain rfl:f=6:=Option.some.inj ((show Tryz.prog.funcNamed "sealring/sealringlaw24.ViewDrafts"=some 6 by kernel_rfl).symm.trans hf) |>.symm;obtain rfl:fn=Tryz.f6:=(Option.some.inj (Tryz.func6.symm.trans hfn)).symm;refine⟨by kernel_rfl,λj t ht=>?_⟩;rw[Tryz.params6]at ht;have ht':=Array.mem_of_getElem? ht;simp only[List.mem_toArray,List.mem_cons,List.mem_nil_iff,or_false]at ht';subst ht';exact(show Tryz.prog.wantsStandIn 51=false by kernel_rfl)
theorem vI (over:Rows.ViewDraftsUptoSaid):Rows.ViewDraftsUptoCardSaid :=
 Claim7.holds_tied_plain_at .later [] _ _ _ _ over (λ_ h=>by cases h) (by as_aux_lemma=>kernel_rfl) (λ_ h=>by cases h) viewDraftsUpto_row_tie rfl ⟨rfl,rfl⟩ (by as_aux_lemma=>kernel_rfl) rfl plain (jo _ rfl)
end Go.Proofs.YtohjdamplbhdpaaGreatDoor.viewDrafts
