/- A part of the proof. -/
import Derived.Test.YtnnjamknplefbaaGreatDoorTS33
set_option linter.all false
set_option linter.all false
namespace Go.Proofs.YtnnjamknplefbaaGreatDoor.typingEffects
open Go.ChangeShapes Go.WideShapes Go.ChangeAt Go.RowKit
set_option maxHeartbeats 100000000 in
theorem closed:joinedFacts Tryz.pinned.checked.prog 4 Tryz.f4 (Rows.OpenSpec.upto Rows.typingEffectsSpec).bare Rows.typingEffectsUptoRow=true:=by
 unfold joinedFacts;simp only[Bool.and_eq_true]
 repeat' apply And.intro
 all_goals (as_aux_lemma=>kernel_rfl)
end Go.Proofs.YtnnjamknplefbaaGreatDoor.typingEffects
