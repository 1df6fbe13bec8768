/- A part of the proof. -/
import Derived.Test.YthcbgdmeacaglaaGreatDoorTE40
import Derived.Test.YthcbgdmeacaglaaGreatDoorTE41
import Derived.Test.YthcbgdmeacaglaaGreatDoorTE42
import Derived.KernelRfl
set_option linter.all false
set_option maxRecDepth 100000
namespace Go.Abs.Q
def d7 : Told := ⟨145, [(.agg [(S [112]), (.vs false 1 [(S [65]), (S [66])]), (.vs false 3 [(.agg [(S [65]), (S [110]), (I 2)])]), (.vs true 0 []), (.vs false 7 [(.agg [(S [65]), (S [66]), (I 3), (S [101, 110, 99]), (I 0), (.vs false 4 [(.agg [(I 2), (S [110]), (I 0), (.vs true 0 [])]), (.agg [(I 3), (S [115, 104, 107]), (I 0), (.vs false 4 [(.agg [(I 2), (S [65]), (I 0), (.vs true 0 [])]), (.agg [(I 2), (S [66]), (I 0), (.vs true 0 [])])])])]), (I 1)])]), (.vs false 5 [(.agg [(I 1), (S [65]), (S []), (.vs true 4 [(.agg [(I 2), (S [110]), (I 0), (.vs true 0 [])])]), (I 1)])])])], (.tup [(I 0), (.agg [(I 0), (S []), (I 0), (.vs true 0 [])]), (I 0)])⟩
theorem told_7 : pc Qr d7.f d7.args = some d7.r := by
  refine pc_told (K := knowL [d6, d3, d2] cmpK) (knowL_ok ?_ cmpKr) 3000 ?_
  · simp only [List.mem_cons, List.not_mem_nil, or_false]
    rintro x (rfl | rfl | rfl)
    · exact told_6
    · exact told_3
    · exact told_2
  · kernel_rfl
end Go.Abs.Q
