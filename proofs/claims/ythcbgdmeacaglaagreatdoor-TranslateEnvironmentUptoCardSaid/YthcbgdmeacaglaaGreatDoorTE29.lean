/- A part of the proof. -/
import Derived.Test.YthcbgdmeacaglaaGreatDoorTE19
import Derived.KernelRfl
set_option linter.all false
set_option maxRecDepth 100000
namespace Go.Abs.Q
def d19 : Told := ⟨273, [(.vs false 4 [(.agg [(I 3), (S [115, 107]), (I 0), (.vs false 4 [(.agg [(I 2), (S [66]), (I 1), (.vs true 0 [])])])]), (.agg [(I 3), (S [112, 107]), (I 0), (.vs false 4 [(.agg [(I 3), (S [115, 107]), (I 0), (.vs false 4 [(.agg [(I 2), (S [65]), (I 1), (.vs true 0 [])])])])])]), (.agg [(I 3), (S [112, 107]), (I 0), (.vs false 4 [(.agg [(I 3), (S [115, 107]), (I 0), (.vs false 4 [(.agg [(I 2), (S [66]), (I 1), (.vs true 0 [])])])])])]), (.agg [(I 3), (S [115, 104, 107]), (I 0), (.vs false 4 [(.agg [(I 2), (S [66]), (I 1), (.vs true 0 [])]), (.agg [(I 2), (S [65]), (I 1), (.vs true 0 [])])])]), (.agg [(I 3), (S [115, 104, 107]), (I 0), (.vs false 4 [(.agg [(I 2), (S [65]), (I 1), (.vs true 0 [])]), (.agg [(I 2), (S [66]), (I 1), (.vs true 0 [])])])]), (.agg [(I 3), (S [101, 110, 99]), (I 0), (.vs false 4 [(.agg [(I 2), (S [110]), (I 2), (.vs true 0 [])]), (.agg [(I 3), (S [115, 104, 107]), (I 0), (.vs false 4 [(.agg [(I 2), (S [65]), (I 1), (.vs true 0 [])]), (.agg [(I 2), (S [66]), (I 1), (.vs true 0 [])])])])])]), (.agg [(I 3), (S [115, 104, 107]), (I 0), (.vs false 4 [(.agg [(I 2), (S [65]), (I 1), (.vs true 0 [])]), (.agg [(I 2), (S [66]), (I 1), (.vs true 0 [])])])])])], (I 0)⟩
theorem told_19 : pc Qr d19.f d19.args = some d19.r := by
  refine pc_told (K := knowL [] cmpK) (knowL_ok ?_ cmpKr) 3000 ?_
  · intro x hx
    cases hx
  · kernel_rfl
end Go.Abs.Q
