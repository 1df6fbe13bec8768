/- A part of the proof. -/
import Derived.Test.YthcbgdmeacaglaaGreatDoorTE22
import Derived.KernelRfl
set_option linter.all false
set_option maxRecDepth 100000
namespace Go.Abs.Q
def d1 : Told := ⟨10, [(S [112, 114, 111, 116, 111, 99, 111, 108, 32, 112, 32, 123, 32, 114, 111, 108, 101, 32, 65, 44, 32, 66, 59, 32, 102, 114, 101, 115, 104, 32, 65, 58, 32, 110, 32, 110, 111, 110, 99, 101, 59, 32, 109, 101, 115, 115, 97, 103, 101, 32, 65, 32, 45, 62, 32, 66, 58, 32, 101, 110, 99, 40, 110, 44, 32, 115, 104, 107, 40, 65, 44, 32, 66, 41, 41, 59, 32, 103, 111, 97, 108, 32, 115, 101, 99, 114, 101, 116, 32, 65, 58, 32, 110, 59, 32, 125])], (.tup [(.agg [(S [112]), (.vs false 1 [(S [65]), (S [66])]), (.vs false 3 [(.agg [(S [65]), (S [110]), (I 2)])]), (.vs true 0 []), (.vs false 7 [(.agg [(S [65]), (S [66]), (I 3), (S [101, 110, 99]), (I 0), (.vs false 4 [(.agg [(I 2), (S [110]), (I 0), (.vs true 0 [])]), (.agg [(I 3), (S [115, 104, 107]), (I 0), (.vs false 4 [(.agg [(I 2), (S [65]), (I 0), (.vs true 0 [])]), (.agg [(I 2), (S [66]), (I 0), (.vs true 0 [])])])])]), (I 1)])]), (.vs false 5 [(.agg [(I 1), (S [65]), (S []), (.vs true 4 [(.agg [(I 2), (S [110]), (I 0), (.vs true 0 [])])]), (I 1)])])]), (I 0), (I 0)])⟩
theorem told_1 : pc Qr d1.f d1.args = some d1.r := by
  refine pc_told (K := knowL [d0] cmpK) (knowL_ok ?_ cmpKr) 3000 ?_
  · simp only [List.mem_cons, List.not_mem_nil, or_false]
    rintro x rfl
    · exact told_0
  · kernel_rfl
end Go.Abs.Q
