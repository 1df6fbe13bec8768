/- A part of the proof. -/
import Derived.Test.YtohjdamplbhdpaaGreatDoorSG39
set_option linter.all false
namespace Go.Proofs.YtohjdamplbhdpaaGreatDoor.viewGrows
open Go.ChangeShapes Go.WideShapes Go.ChangeAt Go.RowKit Go.Abs Go.Abs.Q
theorem plain (f:FuncId) (fn:Func) (hf:Tryz.pinned.checked.prog.funcNamed "sealring/sealringlaw24.ViewGrows"=some f) (hfn:Tryz.pinned.checked.prog.funcs[f]?=some fn) :
  false=Tryz.pinned.checked.prog.looks []/\∀(j:Nat) t,fn.params[j]?=some t->Tryz.pinned.checked.prog.wantsStandIn t=false:=by
 obtain rfl:f=7:=Option.some.inj ((show Tryz.prog.funcNamed "sealring/sealringlaw24.ViewGrows"=some 7 by kernel_rfl).symm.trans hf) |>.symm;obtain rfl:fn=Tryz.f7:=(Option.some.inj (Tryz.func7.symm.trans hfn)).symm;refine⟨by kernel_rfl,λj t ht=>?_⟩;rw[Tryz.params7]at ht;have ht':=Array.mem_of_getElem? ht;simp only[List.mem_toArray,List.mem_cons,List.mem_nil_iff,or_false]at ht';rcases ht' with rfl|rfl
 .exact(show Tryz.prog.wantsStandIn 51=false by kernel_rfl)
 .exact(show Tryz.prog.wantsStandIn 42=false by kernel_rfl)
theorem vV (over:Rows.ViewGrowsUptoSaid):Rows.ViewGrowsUptoCardSaid :=
 Claim7.holds_tied_plain_at .later [] _ _ _ _ over (λ_ h=>by cases h) (by as_aux_lemma=>kernel_rfl) (λ_ h=>by cases h) viewGrowsUpto_row_tie rfl ⟨rfl,rfl⟩ (by as_aux_lemma=>kernel_rfl) rfl plain (kH _ rfl)
end Go.Proofs.YtohjdamplbhdpaaGreatDoor.viewGrows
