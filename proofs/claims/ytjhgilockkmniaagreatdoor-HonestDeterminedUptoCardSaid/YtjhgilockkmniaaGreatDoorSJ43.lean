/- A part of the proof. -/
import Derived.Test.YtjhgilockkmniaaGreatDoorSJ41
import Derived.Test.YtjhgilockkmniaaGreatDoorSJ42
import Derived.KernelRfl
set_option linter.all false
set_option maxRecDepth 100000
namespace Go.Abs.Q
def d5:Told:=⟨197,[(.vs false 4 [(.agg [(I 3),(S [115,107]),(I 0),(.vs true 4 [(.agg [(I 2),(S [66]),(I 1),(.vs true 0 [])])])]),(.agg [(I 3),(S [112,107]),(I 0),(.vs true 4 [(.agg [(I 3),(S [115,107]),(I 0),(.vs true 4 [(.agg [(I 2),(S [65]),(I 1),(.vs true 0 [])])])])])]),(.agg [(I 3),(S [112,107]),(I 0),(.vs true 4 [(.agg [(I 3),(S [115,107]),(I 0),(.vs true 4 [(.agg [(I 2),(S [66]),(I 1),(.vs true 0 [])])])])])]),(.agg [(I 3),(S [115,104,107]),(I 0),(.vs true 4 [(.agg [(I 2),(S [66]),(I 1),(.vs true 0 [])]),(.agg [(I 2),(S [65]),(I 1),(.vs true 0 [])])])]),(.agg [(I 3),(S [115,104,107]),(I 0),(.vs true 4 [(.agg [(I 2),(S [65]),(I 1),(.vs true 0 [])]),(.agg [(I 2),(S [66]),(I 1),(.vs true 0 [])])])]),(.agg [(I 2),(S [110]),(I 2),(.vs true 0 [])])]),(.agg [(I 3),(S [104,97,115,104]),(I 0),(.vs false 4 [(.agg [(I 2),(S [110]),(I 2),(.vs true 0 [])])])])],(.tup [(.bool true),(I 0)])⟩
theorem ku:pc Qf d5.f d5.args=some d5.r:=by
 refine CZ (K:=HJ [d4,d3] Jg) (AX ?_ Hm) 3000 ?_
 .simp only[List.mem_cons,List.not_mem_nil,or_false];rintro x (rfl|rfl)
  .exact kr
  .exact kn
 .kernel_rfl
end Go.Abs.Q
