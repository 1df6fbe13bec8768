/- A part of the proof. -/
import Derived.Test.YtjhgilockkmniaaGreatDoorSJ34
import Derived.KernelRfl
set_option linter.all false
set_option maxRecDepth 100000
namespace Go.Abs.Q
def d7:Told:=⟨294,[(.vs false 4 [(.agg [(I 3),(S [115,107]),(I 0),(.vs false 4 [(.agg [(I 2),(S [65]),(I 1),(.vs true 0 [])])])]),(.agg [(I 3),(S [112,107]),(I 0),(.vs false 4 [(.agg [(I 3),(S [115,107]),(I 0),(.vs false 4 [(.agg [(I 2),(S [65]),(I 1),(.vs true 0 [])])])])])]),(.agg [(I 3),(S [112,107]),(I 0),(.vs false 4 [(.agg [(I 3),(S [115,107]),(I 0),(.vs false 4 [(.agg [(I 2),(S [66]),(I 1),(.vs true 0 [])])])])])]),(.agg [(I 3),(S [115,104,107]),(I 0),(.vs false 4 [(.agg [(I 2),(S [65]),(I 1),(.vs true 0 [])]),(.agg [(I 2),(S [66]),(I 1),(.vs true 0 [])])])]),(.agg [(I 3),(S [115,104,107]),(I 0),(.vs false 4 [(.agg [(I 2),(S [66]),(I 1),(.vs true 0 [])]),(.agg [(I 2),(S [65]),(I 1),(.vs true 0 [])])])]),(.agg [(I 2),(S [110]),(I 2),(.vs true 0 [])]),(.agg [(I 3),(S [104,97,115,104]),(I 0),(.vs false 4 [(.agg [(I 2),(S [110]),(I 2),(.vs true 0 [])])])]),(.agg [(I 2),(S [110]),(I 2),(.vs true 0 [])])])],(I 0)⟩
theorem kw:pc Qf d7.f d7.args=some d7.r:=by
 refine CZ (K:=HJ [] Jg) (AX ?_ Hm) 3000 ?_
 .intro x hx;cases hx
 .kernel_rfl
end Go.Abs.Q
