/- TypingTerm returns true, for every input of bulk at most 1048576; its arguments read afterwards as they read before: the card. Conditions: none beyond the statement's own. -/
import Derived.Test.YtnnjamknplefbaaGreatDoorTN44
import Derived.Test.YtnnjamknplefbaaGreatDoorTN45
import Derived.Test.YtnnjamknplefbaaGreatDoorTN46
set_option linter.all false
namespace Go.Proofs.YtnnjamknplefbaaGreatDoor.typingTerm
open Go.ChangeShapes Go.WideShapes Go.ChangeAt Go.RowKit Go.Abs Go.Abs.Q
set_option linter.unusedVariables false
theorem over:Rows.TypingTermUptoSaid :=
 OpenClaim.holds_of_cond 3 Tryz.f3 rfl rfl rfl rfl rfl rfl rfl ⟨rfl,rfl,rfl,rfl,rfl⟩ rfl rfl rfl rfl rfl (by as_aux_lemma=>kernel_rfl) Tryz.func3 closed
  (of_decide_eq_true (by as_aux_lemma=>kernel_rfl)) (by unfold Func.isWrapper;first|(rw[if_pos (by decide +kernel)];kernel_rfl)|(rw[if_neg (by decide +kernel)];exact⟨rfl,rfl⟩))
  (λos started H enc _ F=>by rw[OpenClaim.pre_eq_preRow];exact lifted os started H enc F)
theorem proved:Rows.TypingTermUptoCardSaid:=card over
end Go.Proofs.YtnnjamknplefbaaGreatDoor.typingTerm
