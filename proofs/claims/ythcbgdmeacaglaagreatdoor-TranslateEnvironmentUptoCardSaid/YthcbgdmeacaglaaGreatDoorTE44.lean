/- A part of the proof. -/
import Derived.Test.YthcbgdmeacaglaaGreatDoorTE24
import Derived.Test.YthcbgdmeacaglaaGreatDoorTE30
import Derived.Test.YthcbgdmeacaglaaGreatDoorTE37
import Derived.Test.YthcbgdmeacaglaaGreatDoorTE43
import Derived.KernelRfl
set_option linter.all false
set_option maxRecDepth 100000
namespace Go.Abs.Q
def d25 : Told := ⟨77, [(.agg [(S [112]), (.vs false 1 [(S [65]), (S [66])]), (.vs false 3 [(.agg [(S [65]), (S [110]), (I 2)])]), (.vs true 0 []), (.vs false 7 [(.agg [(S [65]), (S [66]), (I 3), (S [101, 110, 99]), (I 0), (.vs false 4 [(.agg [(I 2), (S [110]), (I 0), (.vs true 0 [])]), (.agg [(I 3), (S [115, 104, 107]), (I 0), (.vs false 4 [(.agg [(I 2), (S [65]), (I 0), (.vs true 0 [])]), (.agg [(I 2), (S [66]), (I 0), (.vs true 0 [])])])])]), (I 1)])]), (.vs false 5 [(.agg [(I 1), (S [65]), (S []), (.vs true 4 [(.agg [(I 2), (S [110]), (I 0), (.vs true 0 [])])]), (I 1)])])])], (.tup [(.vs false 4 [(.agg [(I 0), (.vs false 4 [(.agg [(I 1), (S [65]), (I 1), (.vs true 0 [])]), (.agg [(I 1), (S [66]), (I 1), (.vs true 0 [])])]), (.vs false 4 [(.agg [(I 1), (S [110]), (I 2), (.vs true 0 [])])]), (.vs false 5 [(.agg [(I 0), (S []), (I 0), (.vs true 0 []), (.vs false 11 [(.agg [(I 2), (I 3), (S [101, 110, 99]), (I 0), (.vs false 4 [(.agg [(I 1), (S [110]), (I 2), (.vs true 0 [])]), (.agg [(I 3), (S [115, 104, 107]), (I 0), (.vs false 4 [(.agg [(I 1), (S [65]), (I 1), (.vs true 0 [])]), (.agg [(I 1), (S [66]), (I 1), (.vs true 0 [])])])])]), (I 0), (S []), (I 0), (.vs true 0 []), (I 0), (.vs true 0 [])]), (.agg [(I 4), (I 0), (S []), (I 0), (.vs true 0 []), (I 0), (S []), (I 0), (.vs true 0 []), (I 0), (.vs false 4 [(.agg [(I 1), (S [110]), (I 2), (.vs true 0 [])])])])])])])]), (.agg [(I 1), (.vs false 4 [(.agg [(I 1), (S [66]), (I 1), (.vs true 0 [])]), (.agg [(I 1), (S [65]), (I 1), (.vs true 0 [])])]), (.vs true 0 []), (.vs false 5 [(.agg [(I 0), (S []), (I 0), (.vs true 0 []), (.vs true 0 [])]), (.agg [(I 3), (S [101, 110, 99]), (I 0), (.vs false 4 [(.agg [(I 1), (S [110]), (I 2), (.vs true 0 [])]), (.agg [(I 3), (S [115, 104, 107]), (I 0), (.vs false 4 [(.agg [(I 1), (S [65]), (I 1), (.vs true 0 [])]), (.agg [(I 1), (S [66]), (I 1), (.vs true 0 [])])])])]), (.vs true 0 [])])])])]), (I 0)])⟩
theorem told_25 : pc Qr d25.f d25.args = some d25.r := by
  refine pc_told (K := knowL [d24, d23, d17, d7, d11, d10, d15, d13, d12] cmpK) (knowL_ok ?_ cmpKr) 3000 ?_
  · simp only [List.mem_cons, List.not_mem_nil, or_false]
    rintro x (rfl | rfl | rfl | rfl | rfl | rfl | rfl | rfl | rfl)
    · exact told_24
    · exact told_23
    · exact told_17
    · exact told_7
    · exact told_11
    · exact con_10
    · exact told_15
    · exact told_13
    · exact told_12
  · kernel_rfl
end Go.Abs.Q
