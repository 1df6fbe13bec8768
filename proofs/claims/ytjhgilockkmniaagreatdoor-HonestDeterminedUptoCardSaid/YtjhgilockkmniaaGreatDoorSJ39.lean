/- A part of the proof. -/
import Derived.Test.YtjhgilockkmniaaGreatDoorSJ37
import Derived.Test.YtjhgilockkmniaaGreatDoorSJ38
import Derived.KernelRfl
set_option linter.all false
set_option maxRecDepth 100000
namespace Go.Abs.Q
def d9:Told:=⟨197,[(.vs false 4 [(.agg [(I 3),(S [115,107]),(I 0),(.vs false 4 [(.agg [(I 2),(S [65]),(I 1),(.vs true 0 [])])])]),(.agg [(I 3),(S [112,107]),(I 0),(.vs false 4 [(.agg [(I 3),(S [115,107]),(I 0),(.vs false 4 [(.agg [(I 2),(S [65]),(I 1),(.vs true 0 [])])])])])]),(.agg [(I 3),(S [112,107]),(I 0),(.vs false 4 [(.agg [(I 3),(S [115,107]),(I 0),(.vs false 4 [(.agg [(I 2),(S [66]),(I 1),(.vs true 0 [])])])])])]),(.agg [(I 3),(S [115,104,107]),(I 0),(.vs false 4 [(.agg [(I 2),(S [65]),(I 1),(.vs true 0 [])]),(.agg [(I 2),(S [66]),(I 1),(.vs true 0 [])])])]),(.agg [(I 3),(S [115,104,107]),(I 0),(.vs false 4 [(.agg [(I 2),(S [66]),(I 1),(.vs true 0 [])]),(.agg [(I 2),(S [65]),(I 1),(.vs true 0 [])])])]),(.agg [(I 2),(S [110]),(I 2),(.vs true 0 [])]),(.agg [(I 3),(S [104,97,115,104]),(I 0),(.vs false 4 [(.agg [(I 2),(S [110]),(I 2),(.vs true 0 [])])])])]),(.agg [(I 2),(S [110]),(I 2),(.vs true 0 [])])],(.tup [(.bool true),(I 0)])⟩
theorem kz:pc Qf d9.f d9.args=some d9.r:=by
 refine CZ (K:=HJ [d8,d7] Jg) (AX ?_ Hm) 3000 ?_
 .simp only[List.mem_cons,List.not_mem_nil,or_false];rintro x (rfl|rfl)
  .exact ky
  .exact kw
 .kernel_rfl
end Go.Abs.Q
