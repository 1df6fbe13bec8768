/- A part of the proof. -/
import Derived.Test.YtjhgilockkmniaaGreatDoorSJ43
import Derived.Test.YtjhgilockkmniaaGreatDoorSJ44
import Derived.Test.YtjhgilockkmniaaGreatDoorSJ45
import Derived.KernelRfl
set_option linter.all false
set_option maxRecDepth 100000
namespace Go.Abs.Q
def d6:Told:=⟨149,[(.agg [(S [80]),(.vs false 1 [(S [65]),(S [66])]),(.vs false 3 [(.agg [(S [65]),(S [110]),(I 2)])]),(.vs true 0 []),(.vs false 7 [(.agg [(S [65]),(S [66]),(I 2),(S [110]),(I 0),(.vs true 0 []),(I 1)]),(.agg [(S [66]),(S [65]),(I 3),(S [104,97,115,104]),(I 0),(.vs false 4 [(.agg [(I 2),(S [110]),(I 0),(.vs true 0 [])])]),(I 1)])]),(.vs true 0 [])])],(.tup [(I 0),(.agg [(I 0),(S []),(I 0),(.vs true 0 [])]),(I 0)])⟩
theorem kv:pc Qf d6.f d6.args=some d6.r:=by
 refine CZ (K:=HJ [d5,d2,d1] Jg) (AX ?_ Hm) 3000 ?_
 .simp only[List.mem_cons,List.not_mem_nil,or_false];rintro x (rfl|rfl|rfl)
  .exact ku
  .exact kj
  .exact ki
 .kernel_rfl
end Go.Abs.Q
