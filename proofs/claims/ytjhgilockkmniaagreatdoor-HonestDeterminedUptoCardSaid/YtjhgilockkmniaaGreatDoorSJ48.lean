/- A part of the proof. -/
import Derived.Test.YtjhgilockkmniaaGreatDoorSJ47
import Derived.KernelRfl
set_option linter.all false
set_option maxRecDepth 100000
namespace Go.Abs.Q
def qu:Told:=⟨19,[(.agg [(S [80]),(.vs false 1 [(S [65]),(S [66])]),(.vs false 3 [(.agg [(S [65]),(S [110]),(I 2)])]),(.vs true 0 []),(.vs false 7 [(.agg [(S [65]),(S [66]),(I 2),(S [110]),(I 0),(.vs true 0 []),(I 1)]),(.agg [(S [66]),(S [65]),(I 3),(S [104,97,115,104]),(I 0),(.vs false 4 [(.agg [(I 2),(S [110]),(I 0),(.vs true 0 [])])]),(I 1)])]),(.vs true 0 [])]),(.vs true 1 [(S [97]),(S [98])])],(.tup [(.vs false 6 [(.agg [(I 1),(I 0),(I 0),(.vs false 1 [(S [97]),(S [98])]),(I 0),(.vs true 0 [])]),(.agg [(I 3),(I 0),(I 0),(.vs true 0 []),(I 0),(.vs true 4 [(.agg [(I 2),(S [110,35,48]),(I 2),(.vs true 0 [])])])]),(.agg [(I 1),(I 1),(I 1),(.vs false 1 [(S [97]),(S [98])]),(I 0),(.vs true 0 [])]),(.agg [(I 2),(I 1),(I 0),(.vs true 0 []),(I 0),(.vs true 4 [(.agg [(I 2),(S [110,35,48]),(I 2),(.vs true 0 [])])])]),(.agg [(I 3),(I 1),(I 0),(.vs true 0 []),(I 0),(.vs true 4 [(.agg [(I 3),(S [104,97,115,104]),(I 0),(.vs false 4 [(.agg [(I 2),(S [110,35,48]),(I 2),(.vs true 0 [])])])])])]),(.agg [(I 2),(I 0),(I 0),(.vs true 0 []),(I 0),(.vs true 4 [(.agg [(I 3),(S [104,97,115,104]),(I 0),(.vs false 4 [(.agg [(I 2),(S [110,35,48]),(I 2),(.vs true 0 [])])])])])])]),(I 0)])⟩
theorem iF:pc Qf qu.f qu.args=some qu.r:=by
 refine CZ (K:=HJ [nD] Jg) (AX ?_ Hm) 3000 ?_
 .simp only[List.mem_cons,List.not_mem_nil,or_false];rintro x rfl
  .exact YJ
 .kernel_rfl
end Go.Abs.Q
