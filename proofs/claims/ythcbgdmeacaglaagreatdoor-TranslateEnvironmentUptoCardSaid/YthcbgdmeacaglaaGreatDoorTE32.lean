/- A part of the proof. -/
import Derived.Test.YthcbgdmeacaglaaGreatDoorTE19
import Derived.KernelRfl
set_option linter.all false
set_option maxRecDepth 100000
namespace Go.Abs.Q
def d11 : Told := ⟨192, [(.agg [(S [112]), (.vs false 1 [(S [65]), (S [66])]), (.vs false 3 [(.agg [(S [65]), (S [110]), (I 2)])]), (.vs true 0 []), (.vs false 7 [(.agg [(S [65]), (S [66]), (I 3), (S [101, 110, 99]), (I 0), (.vs false 4 [(.agg [(I 2), (S [110]), (I 0), (.vs true 0 [])]), (.agg [(I 3), (S [115, 104, 107]), (I 0), (.vs false 4 [(.agg [(I 2), (S [65]), (I 0), (.vs true 0 [])]), (.agg [(I 2), (S [66]), (I 0), (.vs true 0 [])])])])]), (I 1)])]), (.vs false 5 [(.agg [(I 1), (S [65]), (S []), (.vs false 4 [(.agg [(I 2), (S [110]), (I 0), (.vs true 0 [])])]), (I 1)])])]), (I 0), (I 1)], (.tup [(.vs false 4 [(.agg [(I 3), (S [115, 107]), (I 0), (.vs false 4 [(.agg [(I 2), (S [65]), (I 1), (.vs true 0 [])])])]), (.agg [(I 3), (S [112, 107]), (I 0), (.vs false 4 [(.agg [(I 3), (S [115, 107]), (I 0), (.vs false 4 [(.agg [(I 2), (S [65]), (I 1), (.vs true 0 [])])])])])]), (.agg [(I 3), (S [112, 107]), (I 0), (.vs false 4 [(.agg [(I 3), (S [115, 107]), (I 0), (.vs false 4 [(.agg [(I 2), (S [66]), (I 1), (.vs true 0 [])])])])])]), (.agg [(I 3), (S [115, 104, 107]), (I 0), (.vs false 4 [(.agg [(I 2), (S [65]), (I 1), (.vs true 0 [])]), (.agg [(I 2), (S [66]), (I 1), (.vs true 0 [])])])]), (.agg [(I 3), (S [115, 104, 107]), (I 0), (.vs false 4 [(.agg [(I 2), (S [66]), (I 1), (.vs true 0 [])]), (.agg [(I 2), (S [65]), (I 1), (.vs true 0 [])])])]), (.agg [(I 2), (S [110]), (I 2), (.vs true 0 [])]), (.agg [(I 3), (S [101, 110, 99]), (I 0), (.vs false 4 [(.agg [(I 2), (S [110]), (I 2), (.vs true 0 [])]), (.agg [(I 3), (S [115, 104, 107]), (I 0), (.vs false 4 [(.agg [(I 2), (S [65]), (I 1), (.vs true 0 [])]), (.agg [(I 2), (S [66]), (I 1), (.vs true 0 [])])])])])])]), (I 0)])⟩
theorem told_11 : pc Qr d11.f d11.args = some d11.r := by
  refine pc_told (K := knowL [] cmpK) (knowL_ok ?_ cmpKr) 3000 ?_
  · intro x hx
    cases hx
  · kernel_rfl
end Go.Abs.Q
