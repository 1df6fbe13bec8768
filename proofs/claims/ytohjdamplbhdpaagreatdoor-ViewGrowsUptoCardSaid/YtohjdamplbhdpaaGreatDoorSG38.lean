/- A part of the proof. -/
import Derived.Test.YtohjdamplbhdpaaGreatDoorSG28
set_option linter.all false
namespace Go.Proofs.YtohjdamplbhdpaaGreatDoor.viewGrows
open Go.ChangeShapes Go.WideShapes Go.ChangeAt Go.RowKit
set_option maxHeartbeats 100000000 in
theorem closed:joinedFacts Tryz.pinned.checked.prog 7 Tryz.f7 (Rows.OpenSpec.upto Rows.viewGrowsSpec).bare Rows.viewGrowsUptoRow=true:=by
 unfold joinedFacts;simp only[Bool.and_eq_true]
 repeat' apply And.intro
 all_goals (as_aux_lemma=>kernel_rfl)
end Go.Proofs.YtohjdamplbhdpaaGreatDoor.viewGrows
