/- A part of the proof. -/
import Derived.Test.YthcbgdmeacaglaaGreatDoorTE20
import Derived.Test.YthcbgdmeacaglaaGreatDoorTE31
import Derived.Test.YthcbgdmeacaglaaGreatDoorTE32
import Derived.Test.YthcbgdmeacaglaaGreatDoorTE34
import Derived.Test.YthcbgdmeacaglaaGreatDoorTE35
import Derived.Test.YthcbgdmeacaglaaGreatDoorTE36
import Derived.KernelRfl
set_option linter.all false
set_option maxRecDepth 100000
namespace Go.Abs.Q
def d17 : Told := ⟨115, [(.agg [(S [112]), (.vs false 1 [(S [65]), (S [66])]), (.vs false 3 [(.agg [(S [65]), (S [110]), (I 2)])]), (.vs true 0 []), (.vs false 7 [(.agg [(S [65]), (S [66]), (I 3), (S [101, 110, 99]), (I 0), (.vs false 4 [(.agg [(I 2), (S [110]), (I 2), (.vs true 0 [])]), (.agg [(I 3), (S [115, 104, 107]), (I 0), (.vs false 4 [(.agg [(I 2), (S [65]), (I 1), (.vs true 0 [])]), (.agg [(I 2), (S [66]), (I 1), (.vs true 0 [])])])])]), (I 1)])]), (.vs false 5 [(.agg [(I 1), (S [65]), (S []), (.vs false 4 [(.agg [(I 2), (S [110]), (I 2), (.vs true 0 [])])]), (I 1)])])]), (I 0)], (.agg [(I 0), (.vs false 4 [(.agg [(I 1), (S [65]), (I 1), (.vs true 0 [])]), (.agg [(I 1), (S [66]), (I 1), (.vs true 0 [])])]), (.vs false 4 [(.agg [(I 1), (S [110]), (I 2), (.vs true 0 [])])]), (.vs false 5 [(.agg [(I 0), (S []), (I 0), (.vs true 0 []), (.vs false 11 [(.agg [(I 2), (I 3), (S [101, 110, 99]), (I 0), (.vs false 4 [(.agg [(I 1), (S [110]), (I 2), (.vs true 0 [])]), (.agg [(I 3), (S [115, 104, 107]), (I 0), (.vs false 4 [(.agg [(I 1), (S [65]), (I 1), (.vs true 0 [])]), (.agg [(I 1), (S [66]), (I 1), (.vs true 0 [])])])])]), (I 0), (S []), (I 0), (.vs true 0 []), (I 0), (.vs true 0 [])]), (.agg [(I 4), (I 0), (S []), (I 0), (.vs true 0 []), (I 0), (S []), (I 0), (.vs true 0 []), (I 0), (.vs false 4 [(.agg [(I 1), (S [110]), (I 2), (.vs true 0 [])])])])])])])])⟩
theorem told_17 : pc Qr d17.f d17.args = some d17.r := by
  refine pc_told (K := knowL [d16, d10, d11, d15, d13, d12] cmpK) (knowL_ok ?_ cmpKr) 3000 ?_
  · simp only [List.mem_cons, List.not_mem_nil, or_false]
    rintro x (rfl | rfl | rfl | rfl | rfl | rfl)
    · exact told_16
    · exact con_10
    · exact told_11
    · exact told_15
    · exact told_13
    · exact told_12
  · kernel_rfl
end Go.Abs.Q
