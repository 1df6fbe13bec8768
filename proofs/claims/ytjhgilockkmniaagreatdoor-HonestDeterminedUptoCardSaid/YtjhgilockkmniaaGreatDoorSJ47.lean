/- A part of the proof. -/
import Derived.Test.YtjhgilockkmniaaGreatDoorSJ40
import Derived.Test.YtjhgilockkmniaaGreatDoorSJ46
import Derived.KernelRfl
set_option linter.all false
set_option maxRecDepth 100000
namespace Go.Abs.Q
def nD:Told:=⟨78,[(.agg [(S [80]),(.vs false 1 [(S [65]),(S [66])]),(.vs false 3 [(.agg [(S [65]),(S [110]),(I 2)])]),(.vs true 0 []),(.vs false 7 [(.agg [(S [65]),(S [66]),(I 2),(S [110]),(I 0),(.vs true 0 []),(I 1)]),(.agg [(S [66]),(S [65]),(I 3),(S [104,97,115,104]),(I 0),(.vs false 4 [(.agg [(I 2),(S [110]),(I 0),(.vs true 0 [])])]),(I 1)])]),(.vs true 0 [])])],(.tup [(.vs false 4 [(.agg [(I 0),(.vs false 4 [(.agg [(I 1),(S [65]),(I 1),(.vs true 0 [])]),(.agg [(I 1),(S [66]),(I 1),(.vs true 0 [])])]),(.vs false 4 [(.agg [(I 1),(S [110]),(I 2),(.vs true 0 [])])]),(.vs false 5 [(.agg [(I 0),(S []),(I 0),(.vs true 0 []),(.vs false 11 [(.agg [(I 2),(I 1),(S [110]),(I 2),(.vs true 0 []),(I 0),(S []),(I 0),(.vs true 0 []),(I 0),(.vs true 0 [])])])]),(.agg [(I 3),(S [104,97,115,104]),(I 0),(.vs false 4 [(.agg [(I 1),(S [110]),(I 2),(.vs true 0 [])])]),(.vs true 0 [])])])]),(.agg [(I 1),(.vs false 4 [(.agg [(I 1),(S [66]),(I 1),(.vs true 0 [])]),(.agg [(I 1),(S [65]),(I 1),(.vs true 0 [])])]),(.vs true 0 []),(.vs false 5 [(.agg [(I 0),(S []),(I 0),(.vs true 0 []),(.vs true 0 [])]),(.agg [(I 1),(S [110]),(I 2),(.vs true 0 []),(.vs false 11 [(.agg [(I 2),(I 3),(S [104,97,115,104]),(I 0),(.vs false 4 [(.agg [(I 1),(S [110]),(I 2),(.vs true 0 [])])]),(I 0),(S []),(I 0),(.vs true 0 []),(I 0),(.vs true 0 [])])])])])])]),(I 0)])⟩
theorem YJ:pc Qf nD.f nD.args=some nD.r:=by
 refine CZ (K:=HJ [qt,d6] Jg) (AX ?_ Hm) 3000 ?_
 .simp only[List.mem_cons,List.not_mem_nil,or_false];rintro x (rfl|rfl)
  .exact iE
  .exact kv
 .kernel_rfl
end Go.Abs.Q
