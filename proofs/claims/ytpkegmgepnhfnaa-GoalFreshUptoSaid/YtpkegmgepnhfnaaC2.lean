/- The resolved functions are the program's. -/
import Derived.Test.YtpkegmgepnhfnaaC1
import Derived.Test.YtpkegmgepnhfnaaRows
import Derived.KernelRfl
namespace Go.Abs.Q
open Go.Proofs
theorem res_law27_GoalAgree : resFunc Try.prog ctxF n_law27_GoalAgree = some x_law27_GoalAgree := by kernel_rfl
theorem res_law27_GoalInject : resFunc Try.prog ctxF n_law27_GoalInject = some x_law27_GoalInject := by kernel_rfl
theorem res_law27_GoalAssigned : resFunc Try.prog ctxF n_law27_GoalAssigned = some x_law27_GoalAssigned := by kernel_rfl
theorem res_law27_GoalFewer : resFunc Try.prog ctxF n_law27_GoalFewer = some x_law27_GoalFewer := by kernel_rfl
theorem res_law27_GoalFresh : resFunc Try.prog ctxF n_law27_GoalFresh = some x_law27_GoalFresh := by kernel_rfl
theorem res_law27_GoalHonest : resFunc Try.prog ctxF n_law27_GoalHonest = some x_law27_GoalHonest := by kernel_rfl
theorem res_law27_awake : resFunc Try.prog ctxF n_law27_awake = some x_law27_awake := by kernel_rfl
theorem res_ref27_Few : resFunc Try.prog ctxF n_ref27_Few = some x_ref27_Few := by kernel_rfl
theorem res_goal_Agree : resFunc Try.prog ctxF n_goal_Agree = some x_goal_Agree := by kernel_rfl
theorem res_ref27_Agree : resFunc Try.prog ctxF n_ref27_Agree = some x_ref27_Agree := by kernel_rfl
theorem res_goal_Inject : resFunc Try.prog ctxF n_goal_Inject = some x_goal_Inject := by kernel_rfl
theorem res_ref27_Possible : resFunc Try.prog ctxF n_ref27_Possible = some x_ref27_Possible := by kernel_rfl
theorem res_ref27_CheckInject : resFunc Try.prog ctxF n_ref27_CheckInject = some x_ref27_CheckInject := by kernel_rfl
theorem res_goal_CheckInject : resFunc Try.prog ctxF n_goal_CheckInject = some x_goal_CheckInject := by kernel_rfl
theorem res_goal_Fresh : resFunc Try.prog ctxF n_goal_Fresh = some x_goal_Fresh := by kernel_rfl
theorem res_slices_Clone_int : resFunc Try.prog ctxF n_slices_Clone_int = some x_slices_Clone_int := by kernel_rfl
theorem res_ref27_Fresh : resFunc Try.prog ctxF n_ref27_Fresh = some x_ref27_Fresh := by kernel_rfl
theorem res_ref15_Few : resFunc Try.prog ctxF n_ref15_Few = some x_ref15_Few := by kernel_rfl
theorem res_goal_Honest : resFunc Try.prog ctxF n_goal_Honest = some x_goal_Honest := by kernel_rfl
theorem res_ref27_Honest : resFunc Try.prog ctxF n_ref27_Honest = some x_ref27_Honest := by kernel_rfl
theorem res_law27_moment : resFunc Try.prog ctxF n_law27_moment = some x_law27_moment := by kernel_rfl
theorem res_ref01_Few : resFunc Try.prog ctxF n_ref01_Few = some x_ref01_Few := by kernel_rfl
theorem res_goal_fits : resFunc Try.prog ctxF n_goal_fits = some x_goal_fits := by kernel_rfl
theorem res_ref27_Fits : resFunc Try.prog ctxF n_ref27_Fits = some x_ref27_Fits := by kernel_rfl
theorem res_goal_kind : resFunc Try.prog ctxF n_goal_kind = some x_goal_kind := by kernel_rfl
theorem res_goal_assigner_assign : resFunc Try.prog ctxF n_goal_assigner_assign = some x_goal_assigner_assign := by kernel_rfl
theorem res_ref27_kind : resFunc Try.prog ctxF n_ref27_kind = some x_ref27_kind := by kernel_rfl
theorem res_ref27_assign : resFunc Try.prog ctxF n_ref27_assign = some x_ref27_assign := by kernel_rfl
theorem res_slices_Contains_int : resFunc Try.prog ctxF n_slices_Contains_int = some x_slices_Contains_int := by kernel_rfl
theorem res_goal_equal : resFunc Try.prog ctxF n_goal_equal = some x_goal_equal := by kernel_rfl
theorem res_ref27_Equal : resFunc Try.prog ctxF n_ref27_Equal = some x_ref27_Equal := by kernel_rfl
theorem res_slices_ContainsFunc_string : resFunc Try.prog ctxF n_slices_ContainsFunc_string = some x_slices_ContainsFunc_string := by kernel_rfl
theorem res_goal_Honest_1 : resFunc Try.prog ctxF n_goal_Honest_1 = some x_goal_Honest_1 := by kernel_rfl
theorem res_cast_Honest : resFunc Try.prog ctxF n_cast_Honest = some x_cast_Honest := by kernel_rfl
theorem res_ref15_Honest : resFunc Try.prog ctxF n_ref15_Honest = some x_ref15_Honest := by kernel_rfl
theorem res_ref01_Atom : resFunc Try.prog ctxF n_ref01_Atom = some x_ref01_Atom := by kernel_rfl
theorem res_ref01_budget : resFunc Try.prog ctxF n_ref01_budget = some x_ref01_budget := by kernel_rfl
theorem res_slices_Index_int : resFunc Try.prog ctxF n_slices_Index_int = some x_slices_Index_int := by kernel_rfl
theorem res_slices_EqualFunc_Term : resFunc Try.prog ctxF n_slices_EqualFunc_Term = some x_slices_EqualFunc_Term := by kernel_rfl
theorem res_goal_equal_1 : resFunc Try.prog ctxF n_goal_equal_1 = some x_goal_equal_1 := by kernel_rfl
theorem res_term_Compare : resFunc Try.prog ctxF n_term_Compare = some x_term_Compare := by kernel_rfl
theorem res_ref01_Lists : resFunc Try.prog ctxF n_ref01_Lists = some x_ref01_Lists := by kernel_rfl
theorem res_slices_IndexFunc_string : resFunc Try.prog ctxF n_slices_IndexFunc_string = some x_slices_IndexFunc_string := by kernel_rfl
theorem res_cast_Valid : resFunc Try.prog ctxF n_cast_Valid = some x_cast_Valid := by kernel_rfl
theorem res_slices_Contains_string : resFunc Try.prog ctxF n_slices_Contains_string = some x_slices_Contains_string := by kernel_rfl
theorem res_ref15_Valid : resFunc Try.prog ctxF n_ref15_Valid = some x_ref15_Valid := by kernel_rfl
theorem res_ref15_find : resFunc Try.prog ctxF n_ref15_find = some x_ref15_find := by kernel_rfl
theorem res_term_sign : resFunc Try.prog ctxF n_term_sign = some x_term_sign := by kernel_rfl
theorem res_term_Size : resFunc Try.prog ctxF n_term_Size = some x_term_Size := by kernel_rfl
theorem res_strings_Compare : resFunc Try.prog ctxF n_strings_Compare = some x_strings_Compare := by kernel_rfl
theorem res_ref01_Same : resFunc Try.prog ctxF n_ref01_Same = some x_ref01_Same := by kernel_rfl
theorem res_term_Valid : resFunc Try.prog ctxF n_term_Valid = some x_term_Valid := by kernel_rfl
theorem res_cast_agent : resFunc Try.prog ctxF n_cast_agent = some x_cast_agent := by kernel_rfl
theorem res_strings_Contains : resFunc Try.prog ctxF n_strings_Contains = some x_strings_Contains := by kernel_rfl
theorem res_slices_Index_string : resFunc Try.prog ctxF n_slices_Index_string = some x_slices_Index_string := by kernel_rfl
theorem res_ref01_IsName : resFunc Try.prog ctxF n_ref01_IsName = some x_ref01_IsName := by kernel_rfl
theorem res_ref15_hash : resFunc Try.prog ctxF n_ref15_hash = some x_ref15_hash := by kernel_rfl
theorem res_ref01_Compare : resFunc Try.prog ctxF n_ref01_Compare = some x_ref01_Compare := by kernel_rfl
theorem res_term_check : resFunc Try.prog ctxF n_term_check = some x_term_check := by kernel_rfl
theorem res_strings_Index : resFunc Try.prog ctxF n_strings_Index = some x_strings_Index := by kernel_rfl
theorem res_ref01_letter : resFunc Try.prog ctxF n_ref01_letter = some x_ref01_letter := by kernel_rfl
theorem res_ref01_digit : resFunc Try.prog ctxF n_ref01_digit = some x_ref01_digit := by kernel_rfl
theorem res_ref01_number : resFunc Try.prog ctxF n_ref01_number = some x_ref01_number := by kernel_rfl
theorem res_ref01_Size : resFunc Try.prog ctxF n_ref01_Size = some x_ref01_Size := by kernel_rfl
theorem res_term_isName : resFunc Try.prog ctxF n_term_isName = some x_term_isName := by kernel_rfl
theorem res_term_part : resFunc Try.prog ctxF n_term_part = some x_term_part := by kernel_rfl
theorem res_bytealg_Cutover : resFunc Try.prog ctxF n_bytealg_Cutover = some x_bytealg_Cutover := by kernel_rfl
theorem res_bytealg_IndexRabinKarp_string : resFunc Try.prog ctxF n_bytealg_IndexRabinKarp_string = some x_bytealg_IndexRabinKarp_string := by kernel_rfl
theorem res_bytealg_hashStr_string : resFunc Try.prog ctxF n_bytealg_hashStr_string = some x_bytealg_hashStr_string := by kernel_rfl
end Go.Abs.Q
