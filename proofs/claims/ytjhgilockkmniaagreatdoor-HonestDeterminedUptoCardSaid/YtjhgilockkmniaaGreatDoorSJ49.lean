/- A part of the proof. -/
import Derived.Test.YtjhgilockkmniaaGreatDoorSJ34
import Derived.KernelRfl
set_option linter.all false
set_option maxRecDepth 100000
namespace Go.Abs.Q
def d0:Told:=⟨18,[(S [112,114,111,116,111,99,111,108,32,80,32,123,32,114,111,108,101,32,65,44,32,66,59,32,102,114,101,115,104,32,65,58,32,110,32,110,111,110,99,101,59,32,109,101,115,115,97,103,101,32,65,32,45,62,32,66,58,32,110,59,32,109,101,115,115,97,103,101,32,66,32,45,62,32,65,58,32,104,97,115,104,40,110,41,59,32,125])],(.tup [(.agg [(S [80]),(.vs false 1 [(S [65]),(S [66])]),(.vs false 3 [(.agg [(S [65]),(S [110]),(I 2)])]),(.vs true 0 []),(.vs false 7 [(.agg [(S [65]),(S [66]),(I 2),(S [110]),(I 0),(.vs true 0 []),(I 1)]),(.agg [(S [66]),(S [65]),(I 3),(S [104,97,115,104]),(I 0),(.vs false 4 [(.agg [(I 2),(S [110]),(I 0),(.vs true 0 [])])]),(I 1)])]),(.vs true 0 [])]),(I 0),(I 0)])⟩
theorem kh:pc Qf d0.f d0.args=some d0.r:=by
 refine CZ (K:=HJ [] Jg) (AX ?_ Hm) 3000 ?_
 .intro x hx;cases hx
 .kernel_rfl
end Go.Abs.Q
