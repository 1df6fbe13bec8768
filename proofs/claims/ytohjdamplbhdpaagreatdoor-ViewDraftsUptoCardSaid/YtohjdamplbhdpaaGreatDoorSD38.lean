/- A part of the proof. -/
import Derived.Test.YtohjdamplbhdpaaGreatDoorSD28
set_option linter.all false
namespace Go.Proofs.YtohjdamplbhdpaaGreatDoor.viewDrafts
open Go.ChangeShapes Go.WideShapes Go.ChangeAt Go.RowKit
set_option maxHeartbeats 100000000 in
theorem closed:joinedFacts Tryz.pinned.checked.prog 6 Tryz.f6 (Rows.OpenSpec.upto Rows.viewDraftsSpec).bare Rows.viewDraftsUptoRow=true:=by
 unfold joinedFacts;simp only[Bool.and_eq_true]
 repeat' apply And.intro
 all_goals (as_aux_lemma=>kernel_rfl)
end Go.Proofs.YtohjdamplbhdpaaGreatDoor.viewDrafts
