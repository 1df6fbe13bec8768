/- A part of the proof. -/
import Derived.Test.YthcbgdmeacaglaaGreatDoorTE20
import Derived.Test.YthcbgdmeacaglaaGreatDoorTE25
import Derived.Test.YthcbgdmeacaglaaGreatDoorTE27
import Derived.Test.YthcbgdmeacaglaaGreatDoorTE28
import Derived.Test.YthcbgdmeacaglaaGreatDoorTE29
import Derived.KernelRfl
set_option linter.all false
set_option maxRecDepth 100000
namespace Go.Abs.Q
def d23 : Told := ⟨115, [(.agg [(S [112]), (.vs false 1 [(S [65]), (S [66])]), (.vs false 3 [(.agg [(S [65]), (S [110]), (I 2)])]), (.vs true 0 []), (.vs false 7 [(.agg [(S [65]), (S [66]), (I 3), (S [101, 110, 99]), (I 0), (.vs false 4 [(.agg [(I 2), (S [110]), (I 2), (.vs true 0 [])]), (.agg [(I 3), (S [115, 104, 107]), (I 0), (.vs false 4 [(.agg [(I 2), (S [65]), (I 1), (.vs true 0 [])]), (.agg [(I 2), (S [66]), (I 1), (.vs true 0 [])])])])]), (I 1)])]), (.vs false 5 [(.agg [(I 1), (S [65]), (S []), (.vs false 4 [(.agg [(I 2), (S [110]), (I 2), (.vs true 0 [])])]), (I 1)])])]), (I 1)], (.agg [(I 1), (.vs false 4 [(.agg [(I 1), (S [66]), (I 1), (.vs true 0 [])]), (.agg [(I 1), (S [65]), (I 1), (.vs true 0 [])])]), (.vs true 0 []), (.vs false 5 [(.agg [(I 0), (S []), (I 0), (.vs true 0 []), (.vs true 0 [])]), (.agg [(I 3), (S [101, 110, 99]), (I 0), (.vs false 4 [(.agg [(I 1), (S [110]), (I 2), (.vs true 0 [])]), (.agg [(I 3), (S [115, 104, 107]), (I 0), (.vs false 4 [(.agg [(I 1), (S [65]), (I 1), (.vs true 0 [])]), (.agg [(I 1), (S [66]), (I 1), (.vs true 0 [])])])])]), (.vs true 0 [])])])])⟩
theorem told_23 : pc Qr d23.f d23.args = some d23.r := by
  refine pc_told (K := knowL [d18, d10, d22, d20, d19] cmpK) (knowL_ok ?_ cmpKr) 3000 ?_
  · simp only [List.mem_cons, List.not_mem_nil, or_false]
    rintro x (rfl | rfl | rfl | rfl | rfl)
    · exact told_18
    · exact con_10
    · exact told_22
    · exact told_20
    · exact told_19
  · kernel_rfl
end Go.Abs.Q
