/- A part of the proof. -/
import Derived.Test.YthcbgdmeacaglaaGreatDoorTE21
import Derived.Test.YthcbgdmeacaglaaGreatDoorTE23
import Derived.Test.YthcbgdmeacaglaaGreatDoorTE44
import Derived.KernelRfl
set_option linter.all false
set_option maxRecDepth 100000
namespace Go.Abs.Q
def d37 : Told := ⟨4, [], (.bool true)⟩
theorem told_37 : pc Qr d37.f d37.args = some d37.r := by
  refine pc_told (K := knowL [d36, d1, d25, d35] cmpK) (knowL_ok ?_ cmpKr) 3000 ?_
  · simp only [List.mem_cons, List.not_mem_nil, or_false]
    rintro x (rfl | rfl | rfl | rfl)
    · exact told_36
    · exact told_1
    · exact told_25
    · exact con_35
  · kernel_rfl
end Go.Abs.Q
