/- A part of the proof. -/
import Derived.Test.YthcbgdmeacaglaaGreatDoorTE19
import Derived.KernelRfl
set_option linter.all false
set_option maxRecDepth 100000
namespace Go.Abs.Q
def d36 : Told := ⟨13, [(S [97, 116, 116, 40, 101, 110, 99, 40, 110, 101, 119, 40, 110, 58, 110, 111, 110, 99, 101, 44, 32, 63, 65, 58, 97, 103, 101, 110, 116, 44, 32, 63, 66, 58, 97, 103, 101, 110, 116, 44, 32, 63, 115, 35, 41, 44, 32, 115, 104, 107, 40, 63, 65, 58, 97, 103, 101, 110, 116, 44, 32, 63, 66, 58, 97, 103, 101, 110, 116, 41, 41, 41])], (.tup [(.agg [(.vs true 0 []), (I 1), (I 0), (.vs false 4 [(.agg [(I 3), (S [101, 110, 99]), (I 0), (.vs false 4 [(.agg [(I 3), (S [110, 101, 119]), (I 0), (.vs false 4 [(.agg [(I 2), (S [110]), (I 2), (.vs true 0 [])]), (.agg [(I 1), (S [65]), (I 1), (.vs true 0 [])]), (.agg [(I 1), (S [66]), (I 1), (.vs true 0 [])]), (.agg [(I 1), (S [115, 35]), (I 0), (.vs true 0 [])])])]), (.agg [(I 3), (S [115, 104, 107]), (I 0), (.vs false 4 [(.agg [(I 1), (S [65]), (I 1), (.vs true 0 [])]), (.agg [(I 1), (S [66]), (I 1), (.vs true 0 [])])])])])])])]), (I 0)])⟩
theorem told_36 : pc Qr d36.f d36.args = some d36.r := by
  refine pc_told (K := knowL [] cmpK) (knowL_ok ?_ cmpKr) 3000 ?_
  · intro x hx
    cases hx
  · kernel_rfl
end Go.Abs.Q
