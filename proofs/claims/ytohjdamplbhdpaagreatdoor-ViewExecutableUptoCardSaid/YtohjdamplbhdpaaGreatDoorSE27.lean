/- A part of the proof. -/
import Derived.Test.YtohjdamplbhdpaaGreatDoorSE26
set_option linter.all false
namespace Go.Proofs.YtohjdamplbhdpaaGreatDoor.viewExecutable
open Go.ChangeShapes Go.WideShapes Go.ChangeAt Go.RowKit Go.Abs Go.Abs.Q
theorem plain (f:FuncId) (fn:Func) (hf:Tryz.pinned.checked.prog.funcNamed "sealring/sealringlaw24.ViewExecutable"=some f) (hfn:Tryz.pinned.checked.prog.funcs[f]?=some fn) :
  false=Tryz.pinned.checked.prog.looks []/\∀(j:Nat) t,fn.params[j]?=some t->Tryz.pinned.checked.prog.wantsStandIn t=false:=by
 obtain rfl:f=3:=Option.some.inj ((show Tryz.prog.funcNamed "sealring/sealringlaw24.ViewExecutable"=some 3 by kernel_rfl).symm.trans hf) |>.symm;obtain rfl:fn=Tryz.f3:=(Option.some.inj (Tryz.func3.symm.trans hfn)).symm;refine⟨by kernel_rfl,λj t ht=>?_⟩;rw[Tryz.params3]at ht;have ht':=Array.mem_of_getElem? ht;simp only[List.mem_toArray,List.mem_cons,List.mem_nil_iff,or_false]at ht';subst ht';exact(show Tryz.prog.wantsStandIn 27=false by kernel_rfl)
theorem card (over:Rows.ViewExecutableUptoSaid):Rows.ViewExecutableUptoCardSaid :=
 Claim7.holds_tied_plain_at .later [] _ _ _ _ over (λ_ h=>by cases h) (by as_aux_lemma=>kernel_rfl) (λ_ h=>by cases h) viewExecutableUpto_row_tie rfl ⟨rfl,rfl⟩ (by as_aux_lemma=>kernel_rfl) rfl plain (vK _ rfl)
end Go.Proofs.YtohjdamplbhdpaaGreatDoor.viewExecutable
