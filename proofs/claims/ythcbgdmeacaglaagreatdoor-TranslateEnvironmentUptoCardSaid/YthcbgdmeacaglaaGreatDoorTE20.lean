/- A part of the proof. -/
import Derived.Test.YthcbgdmeacaglaaGreatDoorTE19
import Derived.KernelRfl
set_option linter.all false
set_option maxRecDepth 100000
namespace Go.Abs.Q
def d8 : Told := ⟨197, [(.agg [(I 3), (S [101, 110, 99]), (I 0), (.vs false 4 [(.agg [(I 2), (S [110]), (I 2), (.vs true 0 [])]), (.agg [(I 3), (S [115, 104, 107]), (I 0), (.vs false 4 [(.agg [(I 2), (S [65]), (I 1), (.vs true 0 [])]), (.agg [(I 2), (S [66]), (I 1), (.vs true 0 [])])])])])])], (.agg [(I 3), (S [101, 110, 99]), (I 0), (.vs false 4 [(.agg [(I 2), (S [110]), (I 0), (.vs true 0 [])]), (.agg [(I 3), (S [115, 104, 107]), (I 0), (.vs false 4 [(.agg [(I 2), (S [65]), (I 0), (.vs true 0 [])]), (.agg [(I 2), (S [66]), (I 0), (.vs true 0 [])])])])])])⟩
theorem told_8 : pc Qf d8.f d8.args = some d8.r := by
  refine pc_told (K := knowL [] cmpK) (knowL_ok ?_ cmpKf) 3000 ?_
  · intro x hx
    cases hx
  · kernel_rfl
def d9 : Told := ⟨197, [(.agg [(I 2), (S [110]), (I 2), (.vs true 0 [])])], (.agg [(I 2), (S [110]), (I 0), (.vs true 0 [])])⟩
theorem told_9 : pc Qf d9.f d9.args = some d9.r := by
  refine pc_told (K := knowL [] cmpK) (knowL_ok ?_ cmpKf) 3000 ?_
  · intro x hx
    cases hx
  · kernel_rfl
def d10 : Told := ⟨151, [(.agg [(S [112]), (.vs false 1 [(S [65]), (S [66])]), (.vs false 3 [(.agg [(S [65]), (S [110]), (I 2)])]), (.vs true 0 []), (.vs false 7 [(.agg [(S [65]), (S [66]), (I 3), (S [101, 110, 99]), (I 0), (.vs false 4 [(.agg [(I 2), (S [110]), (I 2), (.vs true 0 [])]), (.agg [(I 3), (S [115, 104, 107]), (I 0), (.vs false 4 [(.agg [(I 2), (S [65]), (I 1), (.vs true 0 [])]), (.agg [(I 2), (S [66]), (I 1), (.vs true 0 [])])])])]), (I 1)])]), (.vs false 5 [(.agg [(I 1), (S [65]), (S []), (.vs false 4 [(.agg [(I 2), (S [110]), (I 2), (.vs true 0 [])])]), (I 1)])])])], (.agg [(S [112]), (.vs false 1 [(S [65]), (S [66])]), (.vs false 3 [(.agg [(S [65]), (S [110]), (I 2)])]), (.vs true 0 []), (.vs false 7 [(.agg [(S [65]), (S [66]), (I 3), (S [101, 110, 99]), (I 0), (.vs false 4 [(.agg [(I 2), (S [110]), (I 0), (.vs true 0 [])]), (.agg [(I 3), (S [115, 104, 107]), (I 0), (.vs false 4 [(.agg [(I 2), (S [65]), (I 0), (.vs true 0 [])]), (.agg [(I 2), (S [66]), (I 0), (.vs true 0 [])])])])]), (I 1)])]), (.vs false 5 [(.agg [(I 1), (S [65]), (S []), (.vs false 4 [(.agg [(I 2), (S [110]), (I 0), (.vs true 0 [])])]), (I 1)])])])⟩
theorem told_10 : pc W d10.f d10.args = some d10.r := by
  refine pc_told (K := knowL [d9, d8] noK) (knowL_ok ?_ noK_ok) 3000 ?_
  · simp only [List.mem_cons, List.not_mem_nil, or_false]
    rintro x (rfl | rfl)
    · exact ofQf rfl told_9
    · exact ofQf rfl told_8
  · kernel_rfl
theorem con_10 : pc Qr d10.f d10.args = some d10.r := conR rfl told_10
def d26 : Told := ⟨56, [(.vs false 1 [(S [105])]), (S [97])], (.bool false)⟩
theorem told_26 : pc Qf d26.f d26.args = some d26.r := by
  refine pc_told (K := knowL [] cmpK) (knowL_ok ?_ cmpKf) 3000 ?_
  · intro x hx
    cases hx
  · kernel_rfl
def d27 : Told := ⟨56, [(.vs true 0 []), (S [97])], (.bool false)⟩
theorem told_27 : pc Qf d27.f d27.args = some d27.r := by
  refine pc_told (K := knowL [] cmpK) (knowL_ok ?_ cmpKf) 3000 ?_
  · intro x hx
    cases hx
  · kernel_rfl
def d28 : Told := ⟨56, [(.vs false 1 [(S [105])]), (S [98])], (.bool false)⟩
theorem told_28 : pc Qf d28.f d28.args = some d28.r := by
  refine pc_told (K := knowL [] cmpK) (knowL_ok ?_ cmpKf) 3000 ?_
  · intro x hx
    cases hx
  · kernel_rfl
def d29 : Told := ⟨56, [(.vs true 0 []), (S [98])], (.bool false)⟩
theorem told_29 : pc Qf d29.f d29.args = some d29.r := by
  refine pc_told (K := knowL [] cmpK) (knowL_ok ?_ cmpKf) 3000 ?_
  · intro x hx
    cases hx
  · kernel_rfl
def d30 : Told := ⟨56, [(.vs false 1 [(S [105])]), (S [105])], (.bool true)⟩
theorem told_30 : pc Qf d30.f d30.args = some d30.r := by
  refine pc_told (K := knowL [] cmpK) (knowL_ok ?_ cmpKf) 3000 ?_
  · intro x hx
    cases hx
  · kernel_rfl
def d31 : Told := ⟨56, [(.vs false 1 [(S [97])]), (S [97])], (.bool true)⟩
theorem told_31 : pc Qf d31.f d31.args = some d31.r := by
  refine pc_told (K := knowL [] cmpK) (knowL_ok ?_ cmpKf) 3000 ?_
  · intro x hx
    cases hx
  · kernel_rfl
def d32 : Told := ⟨56, [(.vs false 1 [(S [97])]), (S [98])], (.bool false)⟩
theorem told_32 : pc Qf d32.f d32.args = some d32.r := by
  refine pc_told (K := knowL [] cmpK) (knowL_ok ?_ cmpKf) 3000 ?_
  · intro x hx
    cases hx
  · kernel_rfl
def d33 : Told := ⟨56, [(.vs false 1 [(S [98])]), (S [97])], (.bool false)⟩
theorem told_33 : pc Qf d33.f d33.args = some d33.r := by
  refine pc_told (K := knowL [] cmpK) (knowL_ok ?_ cmpKf) 3000 ?_
  · intro x hx
    cases hx
  · kernel_rfl
def d34 : Told := ⟨56, [(.vs false 1 [(S [98])]), (S [98])], (.bool true)⟩
theorem told_34 : pc Qf d34.f d34.args = some d34.r := by
  refine pc_told (K := knowL [] cmpK) (knowL_ok ?_ cmpKf) 3000 ?_
  · intro x hx
    cases hx
  · kernel_rfl
def d35 : Told := ⟨42, [(.agg [(.vs false 1 [(S [97]), (S [98]), (S [105])]), (.vs false 1 [(S [105])])]), (I 2)], (.vs false 1 [(.vs false 1 [(S [97]), (S [98])]), (.vs false 1 [(S [98]), (S [97])])])⟩
theorem told_35 : pc W d35.f d35.args = some d35.r := by
  refine pc_told (K := knowL [d34, d33, d32, d31, d30, d29, d28, d27, d26] noK) (knowL_ok ?_ noK_ok) 3000 ?_
  · simp only [List.mem_cons, List.not_mem_nil, or_false]
    rintro x (rfl | rfl | rfl | rfl | rfl | rfl | rfl | rfl | rfl)
    · exact ofQf rfl told_34
    · exact ofQf rfl told_33
    · exact ofQf rfl told_32
    · exact ofQf rfl told_31
    · exact ofQf rfl told_30
    · exact ofQf rfl told_29
    · exact ofQf rfl told_28
    · exact ofQf rfl told_27
    · exact ofQf rfl told_26
  · kernel_rfl
theorem con_35 : pc Qr d35.f d35.args = some d35.r := conR rfl told_35
end Go.Abs.Q
