/- A part of the proof. -/
import Derived.Test.YtnnjamknplefbaaGreatDoorTN26
set_option linter.all false
namespace Go.Proofs.YtnnjamknplefbaaGreatDoor.typingTerm
open Go.ChangeShapes Go.WideShapes Go.ChangeAt Go.RowKit
set_option maxHeartbeats 100000000 in
theorem closed:joinedFacts Tryz.pinned.checked.prog 3 Tryz.f3 (Rows.OpenSpec.upto Rows.typingTermSpec).bare Rows.typingTermUptoRow=true:=by
 unfold joinedFacts;simp only[Bool.and_eq_true]
 repeat' apply And.intro
 all_goals (as_aux_lemma=>kernel_rfl)
end Go.Proofs.YtnnjamknplefbaaGreatDoor.typingTerm
