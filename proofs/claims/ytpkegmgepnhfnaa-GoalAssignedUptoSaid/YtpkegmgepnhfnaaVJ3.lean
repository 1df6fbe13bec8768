/- Contracts: two equal claims of different sessions. -/
import Derived.Test.YtpkegmgepnhfnaaVJ2
import Derived.Test.YtpkegmgepnhfnaaRows
import Derived.KernelRfl
/- The resolved functions, printed by a program of mine. -/
namespace Go.Abs.Q
def bs (l : List Nat) : ByteArray := ⟨(l.map UInt8.ofNat).toArray⟩
def n_main_main : FuncId := 0
def n_gosem_cut : FuncId := 1
def n_gosem_cut_init : FuncId := 2
def n_law27_GoalAgree : FuncId := 3
def n_law27_GoalInject : FuncId := 4
def n_law27_GoalAssigned : FuncId := 5
def n_law27_GoalFewer : FuncId := 6
def n_law27_GoalFresh : FuncId := 7
def n_law27_GoalHonest : FuncId := 8
def n_law27_awake : FuncId := 9
def n_ref27_Few : FuncId := 10
def n_goal_Agree : FuncId := 11
def n_ref27_Agree : FuncId := 12
def n_goal_Inject : FuncId := 13
def n_ref27_Possible : FuncId := 14
def n_ref27_CheckInject : FuncId := 15
def n_goal_CheckInject : FuncId := 16
def n_goal_Fresh : FuncId := 17
def n_slices_Clone_int : FuncId := 18
def n_ref27_Fresh : FuncId := 19
def n_ref15_Few : FuncId := 20
def n_goal_Honest : FuncId := 21
def n_ref27_Honest : FuncId := 22
def n_law27_moment : FuncId := 23
def n_ref01_Few : FuncId := 24
def n_goal_fits : FuncId := 25
def n_ref27_Fits : FuncId := 26
def n_goal_kind : FuncId := 27
def n_goal_assigner_assign : FuncId := 28
def n_ref27_kind : FuncId := 29
def n_ref27_assign : FuncId := 30
def n_slices_Contains_int : FuncId := 31
def n_goal_equal : FuncId := 32
def n_ref27_Equal : FuncId := 33
def n_slices_ContainsFunc_string : FuncId := 34
def n_goal_Honest_1 : FuncId := 35
def n_cast_Honest : FuncId := 36
def n_ref15_Honest : FuncId := 37
def n_ref01_Atom : FuncId := 38
def n_ref01_budget : FuncId := 39
def n_slices_Index_int : FuncId := 40
def n_slices_EqualFunc_Term : FuncId := 41
def n_goal_equal_1 : FuncId := 42
def n_term_Compare : FuncId := 43
def n_ref01_Lists : FuncId := 44
def n_slices_IndexFunc_string : FuncId := 45
def n_cast_Valid : FuncId := 46
def n_slices_Contains_string : FuncId := 47
def n_ref15_Valid : FuncId := 48
def n_ref15_find : FuncId := 49
def n_term_sign : FuncId := 50
def n_term_Size : FuncId := 51
def n_strings_Compare : FuncId := 52
def n_ref01_Same : FuncId := 53
def n_term_Valid : FuncId := 54
def n_cast_agent : FuncId := 55
def n_strings_Contains : FuncId := 56
def n_slices_Index_string : FuncId := 57
def n_ref01_IsName : FuncId := 58
def n_ref15_hash : FuncId := 59
def n_bytealg_CompareString : FuncId := 60
def n_ref01_Compare : FuncId := 61
def n_term_check : FuncId := 62
def n_strings_Index : FuncId := 63
def n_ref01_letter : FuncId := 64
def n_ref01_digit : FuncId := 65
def n_bytealg_abigen_runtime_cmpstring : FuncId := 66
def n_ref01_number : FuncId := 67
def n_ref01_Size : FuncId := 68
def n_term_isName : FuncId := 69
def n_stringslite_Index : FuncId := 70
def n_term_part : FuncId := 71
def n_stringslite_IndexByte : FuncId := 72
def n_bytealg_IndexString : FuncId := 73
def n_bytealg_Cutover : FuncId := 74
def n_bytealg_IndexRabinKarp_string : FuncId := 75
def n_bytealg_IndexByteString : FuncId := 76
def n_bytealg_hashStr_string : FuncId := 77
def rawF (f : FuncId) : Bool := f == n_goal_assigner_assign || f == n_ref27_assign || f == n_slices_ContainsFunc_string || f == n_slices_IndexFunc_string
def mutF : FuncId → Bool := fun _ => false
def ctxF (f : FuncId) : Ctx := ⟨rawF, mutF f⟩
theorem raw_main_main : rawF n_main_main = false := rfl
theorem raw_gosem_cut : rawF n_gosem_cut = false := rfl
theorem raw_gosem_cut_init : rawF n_gosem_cut_init = false := rfl
theorem raw_law27_GoalAgree : rawF n_law27_GoalAgree = false := rfl
theorem raw_law27_GoalInject : rawF n_law27_GoalInject = false := rfl
theorem raw_law27_GoalAssigned : rawF n_law27_GoalAssigned = false := rfl
theorem raw_law27_GoalFewer : rawF n_law27_GoalFewer = false := rfl
theorem raw_law27_GoalFresh : rawF n_law27_GoalFresh = false := rfl
theorem raw_law27_GoalHonest : rawF n_law27_GoalHonest = false := rfl
theorem raw_law27_awake : rawF n_law27_awake = false := rfl
theorem raw_ref27_Few : rawF n_ref27_Few = false := rfl
theorem raw_goal_Agree : rawF n_goal_Agree = false := rfl
theorem raw_ref27_Agree : rawF n_ref27_Agree = false := rfl
theorem raw_goal_Inject : rawF n_goal_Inject = false := rfl
theorem raw_ref27_Possible : rawF n_ref27_Possible = false := rfl
theorem raw_ref27_CheckInject : rawF n_ref27_CheckInject = false := rfl
theorem raw_goal_CheckInject : rawF n_goal_CheckInject = false := rfl
theorem raw_goal_Fresh : rawF n_goal_Fresh = false := rfl
theorem raw_slices_Clone_int : rawF n_slices_Clone_int = false := rfl
theorem raw_ref27_Fresh : rawF n_ref27_Fresh = false := rfl
theorem raw_ref15_Few : rawF n_ref15_Few = false := rfl
theorem raw_goal_Honest : rawF n_goal_Honest = false := rfl
theorem raw_ref27_Honest : rawF n_ref27_Honest = false := rfl
theorem raw_law27_moment : rawF n_law27_moment = false := rfl
theorem raw_ref01_Few : rawF n_ref01_Few = false := rfl
theorem raw_goal_fits : rawF n_goal_fits = false := rfl
theorem raw_ref27_Fits : rawF n_ref27_Fits = false := rfl
theorem raw_goal_kind : rawF n_goal_kind = false := rfl
theorem raw_goal_assigner_assign : rawF n_goal_assigner_assign = true := rfl
theorem raw_ref27_kind : rawF n_ref27_kind = false := rfl
theorem raw_ref27_assign : rawF n_ref27_assign = true := rfl
theorem raw_slices_Contains_int : rawF n_slices_Contains_int = false := rfl
theorem raw_goal_equal : rawF n_goal_equal = false := rfl
theorem raw_ref27_Equal : rawF n_ref27_Equal = false := rfl
theorem raw_slices_ContainsFunc_string : rawF n_slices_ContainsFunc_string = true := rfl
theorem raw_goal_Honest_1 : rawF n_goal_Honest_1 = false := rfl
theorem raw_cast_Honest : rawF n_cast_Honest = false := rfl
theorem raw_ref15_Honest : rawF n_ref15_Honest = false := rfl
theorem raw_ref01_Atom : rawF n_ref01_Atom = false := rfl
theorem raw_ref01_budget : rawF n_ref01_budget = false := rfl
theorem raw_slices_Index_int : rawF n_slices_Index_int = false := rfl
theorem raw_slices_EqualFunc_Term : rawF n_slices_EqualFunc_Term = false := rfl
theorem raw_goal_equal_1 : rawF n_goal_equal_1 = false := rfl
theorem raw_term_Compare : rawF n_term_Compare = false := rfl
theorem raw_ref01_Lists : rawF n_ref01_Lists = false := rfl
theorem raw_slices_IndexFunc_string : rawF n_slices_IndexFunc_string = true := rfl
theorem raw_cast_Valid : rawF n_cast_Valid = false := rfl
theorem raw_slices_Contains_string : rawF n_slices_Contains_string = false := rfl
theorem raw_ref15_Valid : rawF n_ref15_Valid = false := rfl
theorem raw_ref15_find : rawF n_ref15_find = false := rfl
theorem raw_term_sign : rawF n_term_sign = false := rfl
theorem raw_term_Size : rawF n_term_Size = false := rfl
theorem raw_strings_Compare : rawF n_strings_Compare = false := rfl
theorem raw_ref01_Same : rawF n_ref01_Same = false := rfl
theorem raw_term_Valid : rawF n_term_Valid = false := rfl
theorem raw_cast_agent : rawF n_cast_agent = false := rfl
theorem raw_strings_Contains : rawF n_strings_Contains = false := rfl
theorem raw_slices_Index_string : rawF n_slices_Index_string = false := rfl
theorem raw_ref01_IsName : rawF n_ref01_IsName = false := rfl
theorem raw_ref15_hash : rawF n_ref15_hash = false := rfl
theorem raw_bytealg_CompareString : rawF n_bytealg_CompareString = false := rfl
theorem raw_ref01_Compare : rawF n_ref01_Compare = false := rfl
theorem raw_term_check : rawF n_term_check = false := rfl
theorem raw_strings_Index : rawF n_strings_Index = false := rfl
theorem raw_ref01_letter : rawF n_ref01_letter = false := rfl
theorem raw_ref01_digit : rawF n_ref01_digit = false := rfl
theorem raw_bytealg_abigen_runtime_cmpstring : rawF n_bytealg_abigen_runtime_cmpstring = false := rfl
theorem raw_ref01_number : rawF n_ref01_number = false := rfl
theorem raw_ref01_Size : rawF n_ref01_Size = false := rfl
theorem raw_term_isName : rawF n_term_isName = false := rfl
theorem raw_stringslite_Index : rawF n_stringslite_Index = false := rfl
theorem raw_term_part : rawF n_term_part = false := rfl
theorem raw_stringslite_IndexByte : rawF n_stringslite_IndexByte = false := rfl
theorem raw_bytealg_IndexString : rawF n_bytealg_IndexString = false := rfl
theorem raw_bytealg_Cutover : rawF n_bytealg_Cutover = false := rfl
theorem raw_bytealg_IndexRabinKarp_string : rawF n_bytealg_IndexRabinKarp_string = false := rfl
theorem raw_bytealg_IndexByteString : rawF n_bytealg_IndexByteString = false := rfl
theorem raw_bytealg_hashStr_string : rawF n_bytealg_hashStr_string = false := rfl
def x_law27_GoalAgree : RFunc := ⟨37, [(.tmp 4)], (.seq (.region false [⟨(some 4), (.mov (.c (.bool false))), none⟩]) (.seq (.seq (.region false [⟨(some 9), (.call n_law27_awake []), none⟩, ⟨(some 10), (.un .not (.t 9)), none⟩, ⟨(some 11), (.mov (.t 10)), none⟩, ⟨(some 12), (.mov (.t 0)), (some (11, false))⟩, ⟨(some 13), (.call n_ref27_Few [(.t 12)]), (some (11, false))⟩, ⟨(some 14), (.un .not (.t 13)), (some (11, false))⟩, ⟨(some 15), (.pick (.t 11) (.c (.bool true)) (.t 14)), none⟩]) (.cond (.t 15) (.seq (.region false [⟨(some 16), (.call n_law27_awake []), none⟩, ⟨(some 4), (.mov (.t 16)), none⟩]) .ret) .skip)) (.seq (.region false [⟨(some 18), (.mov (.t 0)), none⟩, ⟨(some 19), (.mov (.t 1)), none⟩, ⟨(some 20), (.call n_goal_Agree [(.t 18), (.t 19)]), none⟩, ⟨(some 17), (.mov (.t 20)), none⟩, ⟨(some 21), (.ext (.t 17) 0), none⟩, ⟨(some 22), (.ext (.t 17) 1), none⟩, ⟨(some 5), (.mov (.t 21)), none⟩, ⟨(some 6), (.mov (.t 22)), none⟩]) (.seq (.region false [⟨(some 24), (.mov (.t 0)), none⟩, ⟨(some 25), (.mov (.t 1)), none⟩, ⟨(some 26), (.call n_ref27_Agree [(.t 24), (.t 25)]), none⟩, ⟨(some 23), (.mov (.t 26)), none⟩, ⟨(some 27), (.ext (.t 23) 0), none⟩, ⟨(some 28), (.ext (.t 23) 1), none⟩, ⟨(some 7), (.mov (.t 27)), none⟩, ⟨(some 8), (.mov (.t 28)), none⟩]) (.seq (.region false [⟨(some 29), (.mov (.t 5)), none⟩, ⟨(some 30), (.mov (.t 7)), none⟩, ⟨(some 31), (.bin .eql (.t 29) (.t 30)), none⟩, ⟨(some 32), (.mov (.t 31)), none⟩, ⟨(some 33), (.mov (.t 6)), (some (32, true))⟩, ⟨(some 34), (.mov (.t 8)), (some (32, true))⟩, ⟨(some 35), (.beq false (.t 33) (.t 34)), (some (32, true))⟩, ⟨(some 36), (.pick (.t 32) (.t 35) (.c (.bool false))), none⟩, ⟨(some 4), (.mov (.t 36)), none⟩]) .ret)))))⟩
def x_law27_GoalInject_0 : RCode := (.seq (.region false [⟨(some 55), (.bin .lss (.t 54) (.t 53)), none⟩]) (.seq (.cond (.t 55) .skip (.exit 0)) (.seq (.block 1 (.seq (.region false [⟨(some 56), (.iaddr 1 (.t 52) (.t 54)), none⟩, ⟨(some 57), (.ld false 1 (.t 56)), none⟩, ⟨(some 8), (.mov (.t 57)), none⟩]) (.seq (.region false [⟨(some 59), (.mov (.t 0)), none⟩, ⟨(some 60), (.mov (.t 8)), none⟩, ⟨(some 61), (.call n_goal_Agree [(.t 59), (.t 60)]), none⟩, ⟨(some 58), (.mov (.t 61)), none⟩, ⟨(some 62), (.ext (.t 58) 0), none⟩, ⟨(some 63), (.ext (.t 58) 1), none⟩, ⟨(some 9), (.mov (.t 62)), none⟩, ⟨(some 10), (.mov (.t 63)), none⟩]) (.seq (.region false [⟨(some 64), (.mov (.t 10)), none⟩, ⟨(some 65), (.un .not (.t 64)), none⟩]) (.cond (.t 65) (.seq (.region false [⟨(some 4), (.mov (.c (.bool false))), none⟩]) .ret) .skip))))) (.region false [⟨(some 66), (.bin .add (.t 54) (.c (.int .i64 1))), none⟩, ⟨(some 54), (.mov (.t 66)), none⟩]))))
def x_law27_GoalInject : RFunc := ⟨77, [(.tmp 4)], (.seq (.region false [⟨(some 4), (.mov (.c (.bool false))), none⟩]) (.seq (.seq (.region false [⟨(some 11), (.call n_law27_awake []), none⟩, ⟨(some 12), (.un .not (.t 11)), none⟩, ⟨(some 13), (.mov (.t 12)), none⟩, ⟨(some 14), (.mov (.t 0)), (some (13, false))⟩, ⟨(some 15), (.call n_ref27_Few [(.t 14)]), (some (13, false))⟩, ⟨(some 16), (.un .not (.t 15)), (some (13, false))⟩, ⟨(some 17), (.pick (.t 13) (.c (.bool true)) (.t 16)), none⟩, ⟨(some 18), (.mov (.t 17)), none⟩, ⟨(some 19), (.mov (.t 1)), (some (18, false))⟩, ⟨(some 20), (.len false (.t 19)), (some (18, false))⟩, ⟨(some 21), (.bin .gtr (.t 20) (.c (.int .i64 30))), (some (18, false))⟩, ⟨(some 22), (.pick (.t 18) (.c (.bool true)) (.t 21)), none⟩]) (.cond (.t 22) (.seq (.region false [⟨(some 23), (.call n_law27_awake []), none⟩, ⟨(some 4), (.mov (.t 23)), none⟩]) .ret) .skip)) (.seq (.region false [⟨(some 25), (.mov (.t 0)), none⟩, ⟨(some 26), (.mov (.t 1)), none⟩, ⟨(some 27), (.call n_goal_Inject [(.t 25), (.t 26)]), none⟩, ⟨(some 24), (.mov (.t 27)), none⟩, ⟨(some 28), (.ext (.t 24) 0), none⟩, ⟨(some 29), (.ext (.t 24) 1), none⟩, ⟨(some 5), (.mov (.t 28)), none⟩, ⟨(some 6), (.mov (.t 29)), none⟩]) (.seq (.seq (.region false [⟨(some 30), (.mov (.t 6)), none⟩, ⟨(some 31), (.mov (.t 0)), none⟩, ⟨(some 32), (.mov (.t 1)), none⟩, ⟨(some 33), (.call n_ref27_Possible [(.t 31), (.t 32)]), none⟩, ⟨(some 34), (.beq true (.t 30) (.t 33)), none⟩, ⟨(some 35), (.mov (.t 34)), none⟩, ⟨(some 36), (.mov (.t 6)), (some (35, false))⟩, ⟨(some 37), (.un .not (.t 36)), (some (35, false))⟩, ⟨(some 38), (.pick (.t 35) (.c (.bool true)) (.t 37)), none⟩]) (.cond (.t 38) (.seq (.region false [⟨(some 39), (.mov (.t 6)), none⟩, ⟨(some 40), (.un .not (.t 39)), none⟩, ⟨(some 41), (.mov (.t 40)), none⟩, ⟨(some 42), (.mov (.t 5)), (some (41, true))⟩, ⟨(some 43), (.len false (.t 42)), (some (41, true))⟩, ⟨(some 44), (.bin .eql (.t 43) (.c (.int .i64 0))), (some (41, true))⟩, ⟨(some 45), (.pick (.t 41) (.t 44) (.c (.bool false))), none⟩, ⟨(some 46), (.mov (.t 45)), none⟩, ⟨(some 47), (.mov (.t 0)), (some (46, true))⟩, ⟨(some 48), (.mov (.t 1)), (some (46, true))⟩, ⟨(some 49), (.call n_ref27_Possible [(.t 47), (.t 48)]), (some (46, true))⟩, ⟨(some 50), (.un .not (.t 49)), (some (46, true))⟩, ⟨(some 51), (.pick (.t 46) (.t 50) (.c (.bool false))), none⟩, ⟨(some 4), (.mov (.t 51)), none⟩]) .ret) .skip)) (.seq (.seq (.region false [⟨(some 52), (.mov (.t 1)), none⟩, ⟨(some 53), (.len false (.t 52)), none⟩, ⟨(some 54), (.mov (.c (.int .i64 0))), none⟩]) (.block 0 (.loop x_law27_GoalInject_0))) (.seq (.region false [⟨(some 67), (.mov (.t 0)), none⟩, ⟨(some 68), (.mov (.t 1)), none⟩, ⟨(some 69), (.mov (.t 5)), none⟩, ⟨(some 70), (.call n_ref27_CheckInject [(.t 67), (.t 68), (.t 69)]), none⟩, ⟨(some 71), (.mov (.t 70)), none⟩, ⟨(some 72), (.mov (.t 0)), (some (71, true))⟩, ⟨(some 73), (.mov (.t 1)), (some (71, true))⟩, ⟨(some 74), (.mov (.t 5)), (some (71, true))⟩, ⟨(some 75), (.call n_goal_CheckInject [(.t 72), (.t 73), (.t 74)]), (some (71, true))⟩, ⟨(some 76), (.pick (.t 71) (.t 75) (.c (.bool false))), none⟩, ⟨(some 4), (.mov (.t 76)), none⟩]) .ret))))))⟩
def x_law27_GoalAssigned : RFunc := ⟨54, [(.tmp 4)], (.seq (.region false [⟨(some 3), (.box (.t 1)), none⟩, ⟨(some 4), (.mov (.c (.bool false))), none⟩]) (.seq (.seq (.region false [⟨(some 8), (.call n_law27_awake []), none⟩, ⟨(some 9), (.un .not (.t 8)), none⟩, ⟨(some 10), (.mov (.t 9)), none⟩, ⟨(some 11), (.mov (.t 0)), (some (10, false))⟩, ⟨(some 12), (.call n_ref27_Few [(.t 11)]), (some (10, false))⟩, ⟨(some 13), (.un .not (.t 12)), (some (10, false))⟩, ⟨(some 14), (.pick (.t 10) (.c (.bool true)) (.t 13)), none⟩, ⟨(some 15), (.mov (.t 14)), none⟩, ⟨(some 16), (.faddr 0 (.t 3)), (some (15, false))⟩, ⟨(some 17), (.ld false 1 (.t 16)), (some (15, false))⟩, ⟨(some 18), (.len false (.t 17)), (some (15, false))⟩, ⟨(some 19), (.bin .gtr (.t 18) (.c (.int .i64 30))), (some (15, false))⟩, ⟨(some 20), (.pick (.t 15) (.c (.bool true)) (.t 19)), none⟩, ⟨(some 21), (.mov (.t 20)), none⟩, ⟨(some 22), (.faddr 1 (.t 3)), (some (21, false))⟩, ⟨(some 23), (.ld false 1 (.t 22)), (some (21, false))⟩, ⟨(some 24), (.len false (.t 23)), (some (21, false))⟩, ⟨(some 25), (.bin .gtr (.t 24) (.c (.int .i64 40))), (some (21, false))⟩, ⟨(some 26), (.pick (.t 21) (.c (.bool true)) (.t 25)), none⟩]) (.cond (.t 26) (.seq (.region false [⟨(some 27), (.call n_law27_awake []), none⟩, ⟨(some 4), (.mov (.t 27)), none⟩]) .ret) .skip)) (.seq (.region false [⟨(some 28), (.mov (.t 0)), none⟩, ⟨(some 29), (.faddr 0 (.t 3)), none⟩, ⟨(some 30), (.ld false 1 (.t 29)), none⟩, ⟨(some 31), (.faddr 1 (.t 3)), none⟩, ⟨(some 32), (.ld false 1 (.t 31)), none⟩, ⟨(some 33), (.call n_goal_CheckInject [(.t 28), (.t 30), (.t 32)]), none⟩, ⟨(some 5), (.mov (.t 33)), none⟩]) (.seq (.seq (.region false [⟨(some 34), (.mov (.t 5)), none⟩, ⟨(some 35), (.mov (.t 0)), none⟩, ⟨(some 36), (.faddr 0 (.t 3)), none⟩, ⟨(some 37), (.ld false 1 (.t 36)), none⟩, ⟨(some 38), (.faddr 1 (.t 3)), none⟩, ⟨(some 39), (.ld false 1 (.t 38)), none⟩, ⟨(some 40), (.call n_ref27_CheckInject [(.t 35), (.t 37), (.t 39)]), none⟩, ⟨(some 41), (.beq true (.t 34) (.t 40)), none⟩]) (.cond (.t 41) (.seq (.region false [⟨(some 4), (.mov (.c (.bool false))), none⟩]) .ret) .skip)) (.seq (.region false [⟨(some 43), (.mov (.t 0)), none⟩, ⟨(some 44), (.faddr 0 (.t 3)), none⟩, ⟨(some 45), (.ld false 1 (.t 44)), none⟩, ⟨(some 46), (.call n_goal_Inject [(.t 43), (.t 45)]), none⟩, ⟨(some 42), (.mov (.t 46)), none⟩, ⟨(some 47), (.ext (.t 42) 0), none⟩, ⟨(some 48), (.ext (.t 42) 1), none⟩, ⟨(some 6), (.mov (.t 47)), none⟩, ⟨(some 7), (.mov (.t 48)), none⟩]) (.seq (.region false [⟨(some 49), (.mov (.t 5)), none⟩, ⟨(some 50), (.un .not (.t 49)), none⟩, ⟨(some 51), (.mov (.t 50)), none⟩, ⟨(some 52), (.mov (.t 7)), (some (51, false))⟩, ⟨(some 53), (.pick (.t 51) (.c (.bool true)) (.t 52)), none⟩, ⟨(some 4), (.mov (.t 53)), none⟩]) .ret))))))⟩
def x_law27_GoalFewer_0 : RCode := (.seq (.region false [⟨(some 54), (.bin .lss (.t 53) (.t 52)), none⟩]) (.seq (.cond (.t 54) .skip (.exit 0)) (.seq (.block 1 (.seq (.region false [⟨(some 55), (.iaddr 1 (.t 51) (.t 53)), none⟩, ⟨(some 56), (.ld false 1 (.t 55)), none⟩, ⟨(some 11), (.mov (.t 56)), none⟩]) (.region false [⟨(some 57), (.mov (.t 9)), none⟩, ⟨(some 58), (.mov (.t 11)), none⟩, ⟨(some 59), (.bin .add (.t 58) (.c (.int .i64 1))), none⟩, ⟨(some 60), (.bslice 1 (.int .i64 0) [(0, (.t 59))]), none⟩, ⟨(some 61), (.app 1 8 (.t 57) (.t 60)), none⟩, ⟨(some 9), (.mov (.t 61)), none⟩]))) (.region false [⟨(some 62), (.bin .add (.t 53) (.c (.int .i64 1))), none⟩, ⟨(some 53), (.mov (.t 62)), none⟩]))))
def x_law27_GoalFewer : RFunc := ⟨96, [(.tmp 6)], (.seq (.region false [⟨(some 5), (.box (.t 2)), none⟩, ⟨(some 6), (.mov (.c (.bool false))), none⟩]) (.seq (.seq (.region false [⟨(some 18), (.call n_law27_awake []), none⟩, ⟨(some 19), (.un .not (.t 18)), none⟩, ⟨(some 20), (.mov (.t 19)), none⟩, ⟨(some 21), (.mov (.t 0)), (some (20, false))⟩, ⟨(some 22), (.call n_ref27_Few [(.t 21)]), (some (20, false))⟩, ⟨(some 23), (.un .not (.t 22)), (some (20, false))⟩, ⟨(some 24), (.pick (.t 20) (.c (.bool true)) (.t 23)), none⟩, ⟨(some 25), (.mov (.t 24)), none⟩, ⟨(some 26), (.ld true 6 (.t 5)), (some (25, false))⟩, ⟨(some 27), (.bslice 1 (.agg [(.int .i64 0), (.int .i64 0), (.int .i64 0), (.vs true 0 []), (.int .i64 0), (.vs true 0 [])]) [(0, (.t 26))]), (some (25, false))⟩, ⟨(some 28), (.call n_ref27_Few [(.t 27)]), (some (25, false))⟩, ⟨(some 29), (.un .not (.t 28)), (some (25, false))⟩, ⟨(some 30), (.pick (.t 25) (.c (.bool true)) (.t 29)), none⟩, ⟨(some 31), (.mov (.t 30)), none⟩, ⟨(some 32), (.mov (.t 1)), (some (31, false))⟩, ⟨(some 33), (.len false (.t 32)), (some (31, false))⟩, ⟨(some 34), (.bin .eql (.t 33) (.c (.int .i64 0))), (some (31, false))⟩, ⟨(some 35), (.pick (.t 31) (.c (.bool true)) (.t 34)), none⟩, ⟨(some 36), (.mov (.t 35)), none⟩, ⟨(some 37), (.mov (.t 1)), (some (36, false))⟩, ⟨(some 38), (.len false (.t 37)), (some (36, false))⟩, ⟨(some 39), (.bin .gtr (.t 38) (.c (.int .i64 30))), (some (36, false))⟩, ⟨(some 40), (.pick (.t 36) (.c (.bool true)) (.t 39)), none⟩]) (.cond (.t 40) (.seq (.region false [⟨(some 41), (.call n_law27_awake []), none⟩, ⟨(some 6), (.mov (.t 41)), none⟩]) .ret) .skip)) (.seq (.seq (.region false [⟨(some 43), (.mov (.t 0)), none⟩, ⟨(some 44), (.mov (.t 1)), none⟩, ⟨(some 45), (.call n_goal_Inject [(.t 43), (.t 44)]), none⟩, ⟨(some 42), (.mov (.t 45)), none⟩, ⟨(some 46), (.ext (.t 42) 0), none⟩, ⟨(some 47), (.ext (.t 42) 1), none⟩, ⟨(some 7), (.mov (.t 46)), none⟩, ⟨(some 8), (.mov (.t 47)), none⟩]) (.seq (.region false [⟨(some 48), (.mov (.t 8)), none⟩, ⟨(some 49), (.un .not (.t 48)), none⟩]) (.cond (.t 49) (.seq (.region false [⟨(some 6), (.mov (.c (.bool true))), none⟩]) .ret) .skip))) (.seq (.region false [⟨(some 50), (.faddr 0 (.t 5)), none⟩, ⟨none, (.st 1 (.t 50) (.c (.int .i64 4))), none⟩]) (.seq (.region false [⟨(some 9), (.mov (.c (.vs true 0 []))), none⟩]) (.seq (.seq (.region false [⟨(some 51), (.mov (.t 1)), none⟩, ⟨(some 52), (.len false (.t 51)), none⟩, ⟨(some 53), (.mov (.c (.int .i64 0))), none⟩]) (.block 0 (.loop x_law27_GoalFewer_0))) (.seq (.region false [⟨(some 64), (.mov (.t 0)), none⟩, ⟨(some 65), (.mov (.t 1)), none⟩, ⟨(some 66), (.slc 1 (.t 65) (some (.c (.int .i64 1))) none none), none⟩, ⟨(some 67), (.call n_goal_Inject [(.t 64), (.t 66)]), none⟩, ⟨(some 63), (.mov (.t 67)), none⟩, ⟨(some 68), (.ext (.t 63) 0), none⟩, ⟨(some 69), (.ext (.t 63) 1), none⟩, ⟨(some 12), (.mov (.t 68)), none⟩, ⟨(some 13), (.mov (.t 69)), none⟩]) (.seq (.region false [⟨(some 71), (.mov (.t 0)), none⟩, ⟨(some 72), (.mov (.t 1)), none⟩, ⟨(some 73), (.mov (.t 1)), none⟩, ⟨(some 74), (.len false (.t 73)), none⟩, ⟨(some 75), (.bin .sub (.t 74) (.c (.int .i64 1))), none⟩, ⟨(some 76), (.slc 1 (.t 72) none (some (.t 75)) none), none⟩, ⟨(some 77), (.call n_goal_Inject [(.t 71), (.t 76)]), none⟩, ⟨(some 70), (.mov (.t 77)), none⟩, ⟨(some 78), (.ext (.t 70) 0), none⟩, ⟨(some 79), (.ext (.t 70) 1), none⟩, ⟨(some 14), (.mov (.t 78)), none⟩, ⟨(some 15), (.mov (.t 79)), none⟩]) (.seq (.region false [⟨(some 81), (.ld true 6 (.t 5)), none⟩, ⟨(some 82), (.bslice 1 (.agg [(.int .i64 0), (.int .i64 0), (.int .i64 0), (.vs true 0 []), (.int .i64 0), (.vs true 0 [])]) [(0, (.t 81))]), none⟩, ⟨(some 83), (.mov (.t 0)), none⟩, ⟨(some 84), (.app 6 80 (.t 82) (.t 83)), none⟩, ⟨(some 85), (.mov (.t 9)), none⟩, ⟨(some 86), (.call n_goal_Inject [(.t 84), (.t 85)]), none⟩, ⟨(some 80), (.mov (.t 86)), none⟩, ⟨(some 87), (.ext (.t 80) 0), none⟩, ⟨(some 88), (.ext (.t 80) 1), none⟩, ⟨(some 16), (.mov (.t 87)), none⟩, ⟨(some 17), (.mov (.t 88)), none⟩]) (.seq (.region false [⟨(some 89), (.mov (.t 13)), none⟩, ⟨(some 90), (.mov (.t 89)), none⟩, ⟨(some 91), (.mov (.t 15)), (some (90, true))⟩, ⟨(some 92), (.pick (.t 90) (.t 91) (.c (.bool false))), none⟩, ⟨(some 93), (.mov (.t 92)), none⟩, ⟨(some 94), (.mov (.t 17)), (some (93, true))⟩, ⟨(some 95), (.pick (.t 93) (.t 94) (.c (.bool false))), none⟩, ⟨(some 6), (.mov (.t 95)), none⟩]) .ret))))))))))⟩
def x_law27_GoalFresh : RFunc := ⟨52, [(.tmp 4)], (.seq (.region false [⟨(some 4), (.mov (.c (.bool false))), none⟩]) (.seq (.seq (.region false [⟨(some 11), (.call n_law27_awake []), none⟩, ⟨(some 12), (.un .not (.t 11)), none⟩, ⟨(some 13), (.mov (.t 12)), none⟩, ⟨(some 14), (.mov (.t 0)), (some (13, false))⟩, ⟨(some 15), (.call n_ref27_Few [(.t 14)]), (some (13, false))⟩, ⟨(some 16), (.un .not (.t 15)), (some (13, false))⟩, ⟨(some 17), (.pick (.t 13) (.c (.bool true)) (.t 16)), none⟩, ⟨(some 18), (.mov (.t 17)), none⟩, ⟨(some 19), (.mov (.t 1)), (some (18, false))⟩, ⟨(some 20), (.len false (.t 19)), (some (18, false))⟩, ⟨(some 21), (.bin .gtr (.t 20) (.c (.int .i64 30))), (some (18, false))⟩, ⟨(some 22), (.pick (.t 18) (.c (.bool true)) (.t 21)), none⟩]) (.cond (.t 22) (.seq (.region false [⟨(some 23), (.call n_law27_awake []), none⟩, ⟨(some 4), (.mov (.t 23)), none⟩]) .ret) .skip)) (.seq (.region false [⟨(some 25), (.mov (.t 0)), none⟩, ⟨(some 26), (.mov (.t 1)), none⟩, ⟨(some 27), (.call n_slices_Clone_int [(.t 26)]), none⟩, ⟨(some 28), (.call n_goal_Fresh [(.t 25), (.t 27)]), none⟩, ⟨(some 24), (.mov (.t 28)), none⟩, ⟨(some 29), (.ext (.t 24) 0), none⟩, ⟨(some 30), (.ext (.t 24) 1), none⟩, ⟨(some 31), (.ext (.t 24) 2), none⟩, ⟨(some 5), (.mov (.t 29)), none⟩, ⟨(some 6), (.mov (.t 30)), none⟩, ⟨(some 7), (.mov (.t 31)), none⟩]) (.seq (.region false [⟨(some 33), (.mov (.t 0)), none⟩, ⟨(some 34), (.mov (.t 1)), none⟩, ⟨(some 35), (.call n_ref27_Fresh [(.t 33), (.t 34)]), none⟩, ⟨(some 32), (.mov (.t 35)), none⟩, ⟨(some 36), (.ext (.t 32) 0), none⟩, ⟨(some 37), (.ext (.t 32) 1), none⟩, ⟨(some 38), (.ext (.t 32) 2), none⟩, ⟨(some 8), (.mov (.t 36)), none⟩, ⟨(some 9), (.mov (.t 37)), none⟩, ⟨(some 10), (.mov (.t 38)), none⟩]) (.seq (.region false [⟨(some 39), (.mov (.t 5)), none⟩, ⟨(some 40), (.mov (.t 8)), none⟩, ⟨(some 41), (.bin .eql (.t 39) (.t 40)), none⟩, ⟨(some 42), (.mov (.t 41)), none⟩, ⟨(some 43), (.mov (.t 6)), (some (42, true))⟩, ⟨(some 44), (.mov (.t 9)), (some (42, true))⟩, ⟨(some 45), (.bin .eql (.t 43) (.t 44)), (some (42, true))⟩, ⟨(some 46), (.pick (.t 42) (.t 45) (.c (.bool false))), none⟩, ⟨(some 47), (.mov (.t 46)), none⟩, ⟨(some 48), (.mov (.t 7)), (some (47, true))⟩, ⟨(some 49), (.mov (.t 10)), (some (47, true))⟩, ⟨(some 50), (.beq false (.t 48) (.t 49)), (some (47, true))⟩, ⟨(some 51), (.pick (.t 47) (.t 50) (.c (.bool false))), none⟩, ⟨(some 4), (.mov (.t 51)), none⟩]) .ret)))))⟩
def x_law27_GoalHonest : RFunc := ⟨26, [(.tmp 4)], (.seq (.region false [⟨(some 2), (.box (.t 0)), none⟩, ⟨(some 3), (.box (.t 1)), none⟩, ⟨(some 4), (.mov (.c (.bool false))), none⟩]) (.seq (.seq (.region false [⟨(some 5), (.call n_law27_awake []), none⟩, ⟨(some 6), (.un .not (.t 5)), none⟩, ⟨(some 7), (.mov (.t 6)), none⟩, ⟨(some 8), (.ld true 2 (.t 2)), (some (7, false))⟩, ⟨(some 9), (.call n_ref15_Few [(.t 8)]), (some (7, false))⟩, ⟨(some 10), (.un .not (.t 9)), (some (7, false))⟩, ⟨(some 11), (.pick (.t 7) (.c (.bool true)) (.t 10)), none⟩, ⟨(some 12), (.mov (.t 11)), none⟩, ⟨(some 13), (.faddr 1 (.t 3)), (some (12, false))⟩, ⟨(some 14), (.ld false 1 (.t 13)), (some (12, false))⟩, ⟨(some 15), (.len false (.t 14)), (some (12, false))⟩, ⟨(some 16), (.bin .gtr (.t 15) (.c (.int .i64 20))), (some (12, false))⟩, ⟨(some 17), (.pick (.t 12) (.c (.bool true)) (.t 16)), none⟩]) (.cond (.t 17) (.seq (.region false [⟨(some 18), (.call n_law27_awake []), none⟩, ⟨(some 4), (.mov (.t 18)), none⟩]) .ret) .skip)) (.seq (.region true [⟨(some 19), (.ld true 2 (.t 2)), none⟩, ⟨(some 20), (.ld true 2 (.t 3)), none⟩, ⟨(some 21), (.call n_goal_Honest [(.t 19), (.t 20)]), none⟩, ⟨(some 22), (.ld true 2 (.t 2)), none⟩, ⟨(some 23), (.ld true 2 (.t 3)), none⟩, ⟨(some 24), (.call n_ref27_Honest [(.t 22), (.t 23)]), none⟩, ⟨(some 25), (.beq false (.t 21) (.t 24)), none⟩, ⟨(some 4), (.mov (.t 25)), none⟩]) .ret)))⟩
def x_law27_awake : RFunc := ⟨87, [(.tmp 0)], (.seq (.region false [⟨(some 0), (.mov (.c (.bool false))), none⟩]) (.seq (.region false [⟨(some 13), (.call n_law27_moment [(.c (.int .i64 4)), (.c (.int .i64 0)), (.c (.str (bs [97])))]), none⟩, ⟨(some 14), (.call n_law27_moment [(.c (.int .i64 4)), (.c (.int .i64 1)), (.c (.str (bs [97])))]), none⟩, ⟨(some 15), (.call n_law27_moment [(.c (.int .i64 5)), (.c (.int .i64 2)), (.c (.str (bs [97])))]), none⟩, ⟨(some 16), (.call n_law27_moment [(.c (.int .i64 5)), (.c (.int .i64 3)), (.c (.str (bs [97])))]), none⟩, ⟨(some 17), (.call n_law27_moment [(.c (.int .i64 5)), (.c (.int .i64 2)), (.c (.str (bs [98])))]), none⟩, ⟨(some 18), (.bslice 5 (.agg [(.int .i64 0), (.int .i64 0), (.int .i64 0), (.vs true 0 []), (.int .i64 0), (.vs true 0 [])]) [(0, (.t 13)), (1, (.t 14)), (2, (.t 15)), (3, (.t 16)), (4, (.t 17))]), none⟩, ⟨(some 1), (.mov (.t 18)), none⟩]) (.seq (.region false [⟨(some 20), (.mov (.t 1)), none⟩, ⟨(some 21), (.call n_goal_Agree [(.t 20), (.c (.int .i64 2))]), none⟩, ⟨(some 19), (.mov (.t 21)), none⟩, ⟨(some 22), (.ext (.t 19) 0), none⟩, ⟨(some 23), (.ext (.t 19) 1), none⟩, ⟨(some 2), (.mov (.t 22)), none⟩, ⟨(some 3), (.mov (.t 23)), none⟩]) (.seq (.region false [⟨(some 25), (.mov (.t 1)), none⟩, ⟨(some 26), (.call n_goal_Agree [(.t 25), (.c (.int .i64 4))]), none⟩, ⟨(some 24), (.mov (.t 26)), none⟩, ⟨(some 27), (.ext (.t 24) 0), none⟩, ⟨(some 28), (.ext (.t 24) 1), none⟩, ⟨(some 4), (.mov (.t 27)), none⟩, ⟨(some 5), (.mov (.t 28)), none⟩]) (.seq (.region false [⟨(some 30), (.mov (.t 1)), none⟩, ⟨(some 31), (.bslice 2 (.int .i64 0) [(0, (.c (.int .i64 2))), (1, (.c (.int .i64 3)))]), none⟩, ⟨(some 32), (.call n_goal_Inject [(.t 30), (.t 31)]), none⟩, ⟨(some 29), (.mov (.t 32)), none⟩, ⟨(some 33), (.ext (.t 29) 0), none⟩, ⟨(some 34), (.ext (.t 29) 1), none⟩, ⟨(some 6), (.mov (.t 33)), none⟩, ⟨(some 7), (.mov (.t 34)), none⟩]) (.seq (.region false [⟨(some 36), (.mov (.t 1)), none⟩, ⟨(some 37), (.bslice 3 (.int .i64 0) [(0, (.c (.int .i64 2))), (1, (.c (.int .i64 3))), (2, (.c (.int .i64 4)))]), none⟩, ⟨(some 38), (.call n_goal_Inject [(.t 36), (.t 37)]), none⟩, ⟨(some 35), (.mov (.t 38)), none⟩, ⟨(some 39), (.ext (.t 35) 0), none⟩, ⟨(some 40), (.ext (.t 35) 1), none⟩, ⟨(some 8), (.mov (.t 39)), none⟩, ⟨(some 9), (.mov (.t 40)), none⟩]) (.seq (.region false [⟨(some 42), (.mov (.t 1)), none⟩, ⟨(some 43), (.bslice 3 (.int .i64 0) [(0, (.c (.int .i64 2))), (1, (.c (.int .i64 3))), (2, (.c (.int .i64 4)))]), none⟩, ⟨(some 44), (.call n_goal_Fresh [(.t 42), (.t 43)]), none⟩, ⟨(some 41), (.mov (.t 44)), none⟩, ⟨(some 45), (.ext (.t 41) 0), none⟩, ⟨(some 46), (.ext (.t 41) 1), none⟩, ⟨(some 47), (.ext (.t 41) 2), none⟩, ⟨(some 10), (.mov (.t 45)), none⟩, ⟨(some 11), (.mov (.t 46)), none⟩, ⟨(some 12), (.mov (.t 47)), none⟩]) (.seq (.region false [⟨(some 48), (.mov (.t 2)), none⟩, ⟨(some 49), (.bin .eql (.t 48) (.c (.int .i64 0))), none⟩, ⟨(some 50), (.mov (.t 49)), none⟩, ⟨(some 51), (.mov (.t 3)), (some (50, true))⟩, ⟨(some 52), (.pick (.t 50) (.t 51) (.c (.bool false))), none⟩, ⟨(some 53), (.mov (.t 52)), none⟩, ⟨(some 54), (.mov (.t 5)), (some (53, true))⟩, ⟨(some 55), (.un .not (.t 54)), (some (53, true))⟩, ⟨(some 56), (.pick (.t 53) (.t 55) (.c (.bool false))), none⟩, ⟨(some 57), (.mov (.t 56)), none⟩, ⟨(some 58), (.mov (.t 6)), (some (57, true))⟩, ⟨(some 59), (.len false (.t 58)), (some (57, true))⟩, ⟨(some 60), (.bin .eql (.t 59) (.c (.int .i64 2))), (some (57, true))⟩, ⟨(some 61), (.pick (.t 57) (.t 60) (.c (.bool false))), none⟩, ⟨(some 62), (.mov (.t 61)), none⟩, ⟨(some 63), (.mov (.t 7)), (some (62, true))⟩, ⟨(some 64), (.pick (.t 62) (.t 63) (.c (.bool false))), none⟩, ⟨(some 65), (.mov (.t 64)), none⟩, ⟨(some 66), (.mov (.t 9)), (some (65, true))⟩, ⟨(some 67), (.un .not (.t 66)), (some (65, true))⟩, ⟨(some 68), (.pick (.t 65) (.t 67) (.c (.bool false))), none⟩, ⟨(some 69), (.mov (.t 68)), none⟩, ⟨(some 70), (.mov (.t 10)), (some (69, true))⟩, ⟨(some 71), (.bin .eql (.t 70) (.c (.int .i64 2))), (some (69, true))⟩, ⟨(some 72), (.pick (.t 69) (.t 71) (.c (.bool false))), none⟩, ⟨(some 73), (.mov (.t 72)), none⟩, ⟨(some 74), (.mov (.t 11)), (some (73, true))⟩, ⟨(some 75), (.bin .eql (.t 74) (.c (.int .i64 3))), (some (73, true))⟩, ⟨(some 76), (.pick (.t 73) (.t 75) (.c (.bool false))), none⟩, ⟨(some 77), (.mov (.t 76)), none⟩, ⟨(some 78), (.mov (.t 12)), (some (77, true))⟩, ⟨(some 79), (.un .not (.t 78)), (some (77, true))⟩, ⟨(some 80), (.pick (.t 77) (.t 79) (.c (.bool false))), none⟩, ⟨(some 81), (.mov (.t 80)), none⟩, ⟨(some 82), (.mov (.t 1)), (some (81, true))⟩, ⟨(some 83), (.bslice 2 (.int .i64 0) [(0, (.c (.int .i64 2))), (1, (.c (.int .i64 3)))]), (some (81, true))⟩, ⟨(some 84), (.bslice 2 (.int .i64 0) [(0, (.c (.int .i64 1))), (1, (.c (.int .i64 0)))]), (some (81, true))⟩, ⟨(some 85), (.call n_goal_CheckInject [(.t 82), (.t 83), (.t 84)]), (some (81, true))⟩, ⟨(some 86), (.pick (.t 81) (.t 85) (.c (.bool false))), none⟩, ⟨(some 0), (.mov (.t 86)), none⟩]) .ret))))))))⟩
def x_ref27_Few_0 : RCode := (.seq (.seq (.region false [⟨(some 8), (.mov (.t 4)), none⟩, ⟨(some 9), (.mov (.t 0)), none⟩, ⟨(some 10), (.len false (.t 9)), none⟩, ⟨(some 11), (.bin .lss (.t 8) (.t 10)), none⟩]) (.cond (.t 11) .skip (.exit 0))) (.seq (.block 1 (.seq (.seq (.region false [⟨(some 14), (.mov (.t 0)), none⟩, ⟨(some 15), (.mov (.t 4)), none⟩, ⟨(some 16), (.iaddr 6 (.t 14) (.t 15)), none⟩, ⟨(some 17), (.faddr 3 (.t 16)), none⟩, ⟨(some 18), (.ld false 1 (.t 17)), none⟩, ⟨(some 19), (.len false (.t 18)), none⟩, ⟨(some 20), (.bin .gtr (.t 19) (.c (.int .i64 10))), none⟩]) (.cond (.t 20) (.seq (.region false [⟨(some 2), (.mov (.c (.bool false))), none⟩]) .ret) .skip)) (.region false [⟨(some 21), (.mov (.t 3)), none⟩, ⟨(some 22), (.mov (.t 0)), none⟩, ⟨(some 23), (.mov (.t 4)), none⟩, ⟨(some 24), (.iaddr 6 (.t 22) (.t 23)), none⟩, ⟨(some 25), (.faddr 5 (.t 24)), none⟩, ⟨(some 26), (.ld false 1 (.t 25)), none⟩, ⟨(some 27), (.app 4 56 (.t 21) (.t 26)), none⟩, ⟨(some 3), (.mov (.t 27)), none⟩]))) (.region false [⟨(some 12), (.mov (.t 4)), none⟩, ⟨(some 13), (.bin .add (.t 12) (.c (.int .i64 1))), none⟩, ⟨(some 4), (.mov (.t 13)), none⟩])))
def x_ref27_Few : RFunc := ⟨30, [(.tmp 2)], (.seq (.region false [⟨(some 2), (.mov (.c (.bool false))), none⟩]) (.seq (.seq (.region false [⟨(some 5), (.mov (.t 0)), none⟩, ⟨(some 6), (.len false (.t 5)), none⟩, ⟨(some 7), (.bin .gtr (.t 6) (.c (.int .i64 60))), none⟩]) (.cond (.t 7) (.seq (.region false [⟨(some 2), (.mov (.c (.bool false))), none⟩]) .ret) .skip)) (.seq (.region false [⟨(some 3), (.mov (.c (.vs true 0 []))), none⟩]) (.seq (.seq (.region false [⟨(some 4), (.mov (.c (.int .i64 0))), none⟩]) (.block 0 (.loop x_ref27_Few_0))) (.seq (.region false [⟨(some 28), (.mov (.t 3)), none⟩, ⟨(some 29), (.call n_ref01_Few [(.t 28), (.c (.int .i64 200)), (.c (.int .i64 1000))]), none⟩, ⟨(some 2), (.mov (.t 29)), none⟩]) .ret)))))⟩
def x_goal_Agree_0 : RCode := (.seq (.region false [⟨(some 10), (.bin .lss (.t 9) (.t 8)), none⟩]) (.seq (.cond (.t 10) .skip (.exit 0)) (.seq (.block 1 (.seq (.region false [⟨(some 11), (.mov (.t 9)), none⟩, ⟨(some 6), (.mov (.t 11)), none⟩]) (.seq (.region false [⟨(some 12), (.mov (.t 0)), none⟩, ⟨(some 13), (.mov (.t 6)), none⟩, ⟨(some 14), (.mov (.t 1)), none⟩, ⟨(some 15), (.call n_goal_fits [(.t 12), (.t 13), (.t 14)]), none⟩]) (.cond (.t 15) (.seq (.region false [⟨(some 16), (.mov (.t 6)), none⟩, ⟨(some 4), (.mov (.t 16)), none⟩, ⟨(some 5), (.mov (.c (.bool true))), none⟩]) .ret) .skip)))) (.region false [⟨(some 17), (.bin .add (.t 9) (.c (.int .i64 1))), none⟩, ⟨(some 9), (.mov (.t 17)), none⟩]))))
def x_goal_Agree : RFunc := ⟨18, [(.tmp 4), (.tmp 5)], (.seq (.region false [⟨(some 4), (.mov (.c (.int .i64 0))), none⟩, ⟨(some 5), (.mov (.c (.bool false))), none⟩]) (.seq (.seq (.region false [⟨(some 7), (.mov (.t 0)), none⟩, ⟨(some 8), (.len false (.t 7)), none⟩, ⟨(some 9), (.mov (.c (.int .i64 0))), none⟩]) (.block 0 (.loop x_goal_Agree_0))) (.seq (.region false [⟨(some 4), (.mov (.c (.int .i64 0))), none⟩, ⟨(some 5), (.mov (.c (.bool false))), none⟩]) .ret)))⟩
def x_ref27_Agree_0 : RCode := (.seq (.seq (.region false [⟨(some 7), (.mov (.t 6)), none⟩, ⟨(some 8), (.mov (.t 0)), none⟩, ⟨(some 9), (.len false (.t 8)), none⟩, ⟨(some 10), (.bin .lss (.t 7) (.t 9)), none⟩]) (.cond (.t 10) .skip (.exit 0))) (.seq (.block 1 (.seq (.region false [⟨(some 13), (.mov (.t 0)), none⟩, ⟨(some 14), (.mov (.t 6)), none⟩, ⟨(some 15), (.mov (.t 1)), none⟩, ⟨(some 16), (.call n_ref27_Fits [(.t 13), (.t 14), (.t 15)]), none⟩]) (.cond (.t 16) (.seq (.region false [⟨(some 17), (.mov (.t 6)), none⟩, ⟨(some 4), (.mov (.t 17)), none⟩, ⟨(some 5), (.mov (.c (.bool true))), none⟩]) .ret) .skip))) (.region false [⟨(some 11), (.mov (.t 6)), none⟩, ⟨(some 12), (.bin .add (.t 11) (.c (.int .i64 1))), none⟩, ⟨(some 6), (.mov (.t 12)), none⟩])))
def x_ref27_Agree : RFunc := ⟨18, [(.tmp 4), (.tmp 5)], (.seq (.region false [⟨(some 4), (.mov (.c (.int .i64 0))), none⟩, ⟨(some 5), (.mov (.c (.bool false))), none⟩]) (.seq (.seq (.region false [⟨(some 6), (.mov (.c (.int .i64 0))), none⟩]) (.block 0 (.loop x_ref27_Agree_0))) (.seq (.region false [⟨(some 4), (.mov (.c (.int .i64 0))), none⟩, ⟨(some 5), (.mov (.c (.bool false))), none⟩]) .ret)))⟩
def x_goal_Inject_0 : RCode := (.seq (.region false [⟨(some 65), (.bin .lss (.t 64) (.t 63)), none⟩]) (.seq (.cond (.t 65) .skip (.exit 4)) (.seq (.block 5 (.seq (.region false [⟨(some 66), (.mov (.t 64)), none⟩, ⟨(some 67), (.iaddr 1 (.t 62) (.t 64)), none⟩, ⟨(some 68), (.ld false 1 (.t 67)), none⟩, ⟨(some 11), (.mov (.t 66)), none⟩, ⟨(some 12), (.mov (.t 68)), none⟩]) (.seq (.region false [⟨(some 69), (.mov (.t 12)), none⟩, ⟨(some 70), (.bin .geq (.t 69) (.c (.int .i64 0))), none⟩]) (.cond (.t 70) (.region false [⟨(some 71), (.mov (.t 10)), none⟩, ⟨(some 72), (.mov (.t 12)), none⟩, ⟨(some 73), (.mov (.t 11)), none⟩, ⟨(some 74), (.iaddr 1 (.t 71) (.t 72)), none⟩, ⟨none, (.st 1 (.t 74) (.t 73)), none⟩]) .skip)))) (.region false [⟨(some 75), (.bin .add (.t 64) (.c (.int .i64 1))), none⟩, ⟨(some 64), (.mov (.t 75)), none⟩]))))
def x_goal_Inject_1 : RCode := (.seq (.region false [⟨(some 38), (.bin .lss (.t 37) (.t 36)), none⟩]) (.seq (.cond (.t 38) .skip (.exit 2)) (.seq (.block 3 (.seq (.region false [⟨(some 39), (.mov (.t 37)), none⟩, ⟨(some 40), (.iaddr 1 (.t 35) (.t 37)), none⟩, ⟨(some 41), (.ld false 1 (.t 40)), none⟩, ⟨(some 8), (.mov (.t 39)), none⟩, ⟨(some 9), (.mov (.t 41)), none⟩]) (.seq (.region false [⟨(some 42), (.mov (.t 0)), none⟩, ⟨(some 43), (.mov (.t 9)), none⟩, ⟨(some 44), (.call n_goal_kind [(.t 42), (.t 43), (.c (.int .i64 5))]), none⟩, ⟨(some 45), (.un .not (.t 44)), none⟩, ⟨(some 46), (.mov (.t 45)), none⟩, ⟨(some 47), (.mov (.t 6)), (some (46, false))⟩, ⟨(some 48), (.mov (.t 8)), (some (46, false))⟩, ⟨(some 49), (.mov (.t 0)), (some (46, false))⟩, ⟨(some 50), (.len false (.t 49)), (some (46, false))⟩, ⟨(some 51), (.mkslice (.bool false) 1 (.t 50) (.t 50)), (some (46, false))⟩, ⟨(some 52), (.call n_goal_assigner_assign [(.t 47), (.t 48), (.t 51)]), (some (46, false))⟩, ⟨(some 53), (.un .not (.t 52)), (some (46, false))⟩, ⟨(some 54), (.pick (.t 46) (.c (.bool true)) (.t 53)), none⟩]) (.cond (.t 54) (.seq (.region false [⟨(some 4), (.mov (.c (.vs true 0 []))), none⟩, ⟨(some 5), (.mov (.c (.bool false))), none⟩]) .ret) .skip)))) (.region false [⟨(some 55), (.bin .add (.t 37) (.c (.int .i64 1))), none⟩, ⟨(some 37), (.mov (.t 55)), none⟩]))))
def x_goal_Inject_2 : RCode := (.seq (.region false [⟨(some 26), (.bin .lss (.t 25) (.t 24)), none⟩]) (.seq (.cond (.t 26) .skip (.exit 0)) (.seq (.block 1 (.seq (.region false [⟨(some 27), (.mov (.t 25)), none⟩, ⟨(some 7), (.mov (.t 27)), none⟩]) (.region false [⟨(some 28), (.mov (.t 6)), none⟩, ⟨(some 29), (.nilck (.t 28)), none⟩, ⟨(some 30), (.faddr 2 (.t 29)), none⟩, ⟨(some 31), (.ld false 1 (.t 30)), none⟩, ⟨(some 32), (.mov (.t 7)), none⟩, ⟨(some 33), (.iaddr 1 (.t 31) (.t 32)), none⟩, ⟨none, (.st 1 (.t 33) (.c (.int .i64 (-1)))), none⟩]))) (.region false [⟨(some 34), (.bin .add (.t 25) (.c (.int .i64 1))), none⟩, ⟨(some 25), (.mov (.t 34)), none⟩]))))
def x_goal_Inject : RFunc := ⟨77, [(.tmp 4), (.tmp 5)], (.seq (.region false [⟨(some 4), (.mov (.c (.vs true 0 []))), none⟩, ⟨(some 5), (.mov (.c (.bool false))), none⟩]) (.seq (.region false [⟨(some 13), (.mov (.t 0)), none⟩, ⟨(some 14), (.mov (.t 1)), none⟩, ⟨(some 15), (.mov (.t 0)), none⟩, ⟨(some 16), (.len false (.t 15)), none⟩, ⟨(some 17), (.mkslice (.int .i64 0) 8 (.t 16) (.t 16)), none⟩, ⟨(some 18), (.build (.agg [(.vs true 0 []), (.vs true 0 []), (.vs true 0 [])]) [(0, (1, (.t 13))), (1, (1, (.t 14))), (2, (1, (.t 17)))]), none⟩, ⟨(some 19), (.box (.t 18)), none⟩, ⟨(some 6), (.mov (.t 19)), none⟩]) (.seq (.seq (.region false [⟨(some 20), (.mov (.t 6)), none⟩, ⟨(some 21), (.nilck (.t 20)), none⟩, ⟨(some 22), (.faddr 2 (.t 21)), none⟩, ⟨(some 23), (.ld false 1 (.t 22)), none⟩, ⟨(some 24), (.len false (.t 23)), none⟩, ⟨(some 25), (.mov (.c (.int .i64 0))), none⟩]) (.block 0 (.loop x_goal_Inject_2))) (.seq (.seq (.region false [⟨(some 35), (.mov (.t 1)), none⟩, ⟨(some 36), (.len false (.t 35)), none⟩, ⟨(some 37), (.mov (.c (.int .i64 0))), none⟩]) (.block 2 (.loop x_goal_Inject_1))) (.seq (.region false [⟨(some 56), (.mov (.t 1)), none⟩, ⟨(some 57), (.len false (.t 56)), none⟩, ⟨(some 58), (.mkslice (.int .i64 0) 8 (.t 57) (.t 57)), none⟩, ⟨(some 10), (.mov (.t 58)), none⟩]) (.seq (.seq (.region false [⟨(some 59), (.mov (.t 6)), none⟩, ⟨(some 60), (.nilck (.t 59)), none⟩, ⟨(some 61), (.faddr 2 (.t 60)), none⟩, ⟨(some 62), (.ld false 1 (.t 61)), none⟩, ⟨(some 63), (.len false (.t 62)), none⟩, ⟨(some 64), (.mov (.c (.int .i64 0))), none⟩]) (.block 4 (.loop x_goal_Inject_0))) (.seq (.region false [⟨(some 76), (.mov (.t 10)), none⟩, ⟨(some 4), (.mov (.t 76)), none⟩, ⟨(some 5), (.mov (.c (.bool true))), none⟩]) .ret)))))))⟩
def x_ref27_Possible_0 : RCode := (.seq (.seq (.region false [⟨(some 20), (.mov (.t 7)), none⟩, ⟨(some 21), (.mov (.t 1)), none⟩, ⟨(some 22), (.len false (.t 21)), none⟩, ⟨(some 23), (.bin .lss (.t 20) (.t 22)), none⟩]) (.cond (.t 23) .skip (.exit 2))) (.seq (.block 3 (.seq (.region false [⟨(some 26), (.mov (.t 0)), none⟩, ⟨(some 27), (.mov (.t 1)), none⟩, ⟨(some 28), (.mov (.t 7)), none⟩, ⟨(some 29), (.iaddr 1 (.t 27) (.t 28)), none⟩, ⟨(some 30), (.ld false 1 (.t 29)), none⟩, ⟨(some 31), (.call n_ref27_kind [(.t 26), (.t 30), (.c (.int .i64 5))]), none⟩, ⟨(some 32), (.un .not (.t 31)), none⟩, ⟨(some 33), (.mov (.t 32)), none⟩, ⟨(some 34), (.mov (.t 0)), (some (33, false))⟩, ⟨(some 35), (.mov (.t 1)), (some (33, false))⟩, ⟨(some 36), (.mov (.t 7)), (some (33, false))⟩, ⟨(some 37), (.mov (.t 5)), (some (33, false))⟩, ⟨(some 38), (.mov (.t 0)), (some (33, false))⟩, ⟨(some 39), (.len false (.t 38)), (some (33, false))⟩, ⟨(some 40), (.mkslice (.bool false) 1 (.t 39) (.t 39)), (some (33, false))⟩, ⟨(some 41), (.call n_ref27_assign [(.t 34), (.t 35), (.t 36), (.t 37), (.t 40)]), (some (33, false))⟩, ⟨(some 42), (.un .not (.t 41)), (some (33, false))⟩, ⟨(some 43), (.pick (.t 33) (.c (.bool true)) (.t 42)), none⟩]) (.cond (.t 43) (.seq (.region false [⟨(some 4), (.mov (.c (.bool false))), none⟩]) .ret) .skip))) (.region false [⟨(some 24), (.mov (.t 7)), none⟩, ⟨(some 25), (.bin .add (.t 24) (.c (.int .i64 1))), none⟩, ⟨(some 7), (.mov (.t 25)), none⟩])))
def x_ref27_Possible_1 : RCode := (.seq (.seq (.region false [⟨(some 11), (.mov (.t 6)), none⟩, ⟨(some 12), (.mov (.t 5)), none⟩, ⟨(some 13), (.len false (.t 12)), none⟩, ⟨(some 14), (.bin .lss (.t 11) (.t 13)), none⟩]) (.cond (.t 14) .skip (.exit 0))) (.seq (.block 1 (.region false [⟨(some 17), (.mov (.t 5)), none⟩, ⟨(some 18), (.mov (.t 6)), none⟩, ⟨(some 19), (.iaddr 1 (.t 17) (.t 18)), none⟩, ⟨none, (.st 1 (.t 19) (.c (.int .i64 (-1)))), none⟩])) (.region false [⟨(some 15), (.mov (.t 6)), none⟩, ⟨(some 16), (.bin .add (.t 15) (.c (.int .i64 1))), none⟩, ⟨(some 6), (.mov (.t 16)), none⟩])))
def x_ref27_Possible : RFunc := ⟨44, [(.tmp 4)], (.seq (.region false [⟨(some 4), (.mov (.c (.bool false))), none⟩]) (.seq (.region false [⟨(some 8), (.mov (.t 0)), none⟩, ⟨(some 9), (.len false (.t 8)), none⟩, ⟨(some 10), (.mkslice (.int .i64 0) 8 (.t 9) (.t 9)), none⟩, ⟨(some 5), (.mov (.t 10)), none⟩]) (.seq (.seq (.region false [⟨(some 6), (.mov (.c (.int .i64 0))), none⟩]) (.block 0 (.loop x_ref27_Possible_1))) (.seq (.seq (.region false [⟨(some 7), (.mov (.c (.int .i64 0))), none⟩]) (.block 2 (.loop x_ref27_Possible_0))) (.seq (.region false [⟨(some 4), (.mov (.c (.bool true))), none⟩]) .ret)))))⟩
def x_ref27_CheckInject_0 : RCode := (.seq (.seq (.region false [⟨(some 31), (.mov (.t 8)), none⟩, ⟨(some 32), (.mov (.t 7)), none⟩, ⟨(some 33), (.bin .lss (.t 31) (.t 32)), none⟩]) (.cond (.t 33) .skip (.exit 2))) (.seq (.block 3 (.seq (.region true [⟨(some 36), (.mov (.t 2)), none⟩, ⟨(some 37), (.mov (.t 8)), none⟩, ⟨(some 38), (.iaddr 1 (.t 36) (.t 37)), none⟩, ⟨(some 39), (.ld false 1 (.t 38)), none⟩, ⟨(some 40), (.mov (.t 2)), none⟩, ⟨(some 41), (.mov (.t 7)), none⟩, ⟨(some 42), (.iaddr 1 (.t 40) (.t 41)), none⟩, ⟨(some 43), (.ld false 1 (.t 42)), none⟩, ⟨(some 44), (.bin .eql (.t 39) (.t 43)), none⟩]) (.cond (.t 44) (.seq (.region false [⟨(some 6), (.mov (.c (.bool false))), none⟩]) .ret) .skip))) (.region false [⟨(some 34), (.mov (.t 8)), none⟩, ⟨(some 35), (.bin .add (.t 34) (.c (.int .i64 1))), none⟩, ⟨(some 8), (.mov (.t 35)), none⟩])))
def x_ref27_CheckInject_1 : RCode := (.seq (.seq (.region false [⟨(some 14), (.mov (.t 7)), none⟩, ⟨(some 15), (.mov (.t 1)), none⟩, ⟨(some 16), (.len false (.t 15)), none⟩, ⟨(some 17), (.bin .lss (.t 14) (.t 16)), none⟩]) (.cond (.t 17) .skip (.exit 0))) (.seq (.block 1 (.seq (.seq (.region true [⟨(some 20), (.mov (.t 0)), none⟩, ⟨(some 21), (.mov (.t 2)), none⟩, ⟨(some 22), (.mov (.t 7)), none⟩, ⟨(some 23), (.iaddr 1 (.t 21) (.t 22)), none⟩, ⟨(some 24), (.ld false 1 (.t 23)), none⟩, ⟨(some 25), (.mov (.t 1)), none⟩, ⟨(some 26), (.mov (.t 7)), none⟩, ⟨(some 27), (.iaddr 1 (.t 25) (.t 26)), none⟩, ⟨(some 28), (.ld false 1 (.t 27)), none⟩, ⟨(some 29), (.call n_ref27_Fits [(.t 20), (.t 24), (.t 28)]), none⟩, ⟨(some 30), (.un .not (.t 29)), none⟩]) (.cond (.t 30) (.seq (.region false [⟨(some 6), (.mov (.c (.bool false))), none⟩]) .ret) .skip)) (.seq (.region false [⟨(some 8), (.mov (.c (.int .i64 0))), none⟩]) (.block 2 (.loop x_ref27_CheckInject_0))))) (.region false [⟨(some 18), (.mov (.t 7)), none⟩, ⟨(some 19), (.bin .add (.t 18) (.c (.int .i64 1))), none⟩, ⟨(some 7), (.mov (.t 19)), none⟩])))
def x_ref27_CheckInject : RFunc := ⟨45, [(.tmp 6)], (.seq (.region false [⟨(some 6), (.mov (.c (.bool false))), none⟩]) (.seq (.seq (.region false [⟨(some 9), (.mov (.t 1)), none⟩, ⟨(some 10), (.len false (.t 9)), none⟩, ⟨(some 11), (.mov (.t 2)), none⟩, ⟨(some 12), (.len false (.t 11)), none⟩, ⟨(some 13), (.bin .neq (.t 10) (.t 12)), none⟩]) (.cond (.t 13) (.seq (.region false [⟨(some 6), (.mov (.c (.bool false))), none⟩]) .ret) .skip)) (.seq (.seq (.region false [⟨(some 7), (.mov (.c (.int .i64 0))), none⟩]) (.block 0 (.loop x_ref27_CheckInject_1))) (.seq (.region false [⟨(some 6), (.mov (.c (.bool true))), none⟩]) .ret))))⟩
def x_goal_CheckInject_0 : RCode := (.seq (.region false [⟨(some 17), (.bin .lss (.t 16) (.t 15)), none⟩]) (.seq (.cond (.t 17) .skip (.exit 0)) (.seq (.block 1 (.seq (.region false [⟨(some 18), (.mov (.t 16)), none⟩, ⟨(some 19), (.iaddr 1 (.t 14) (.t 16)), none⟩, ⟨(some 20), (.ld false 1 (.t 19)), none⟩, ⟨(some 7), (.mov (.t 18)), none⟩, ⟨(some 8), (.mov (.t 20)), none⟩]) (.seq (.region true [⟨(some 21), (.mov (.t 0)), none⟩, ⟨(some 22), (.mov (.t 2)), none⟩, ⟨(some 23), (.mov (.t 7)), none⟩, ⟨(some 24), (.iaddr 1 (.t 22) (.t 23)), none⟩, ⟨(some 25), (.ld false 1 (.t 24)), none⟩, ⟨(some 26), (.mov (.t 8)), none⟩, ⟨(some 27), (.call n_goal_fits [(.t 21), (.t 25), (.t 26)]), none⟩, ⟨(some 28), (.un .not (.t 27)), none⟩, ⟨(some 29), (.mov (.t 28)), none⟩, ⟨(some 30), (.mov (.t 2)), (some (29, false))⟩, ⟨(some 31), (.mov (.t 7)), (some (29, false))⟩, ⟨(some 32), (.slc 1 (.t 30) none (some (.t 31)) none), (some (29, false))⟩, ⟨(some 33), (.mov (.t 2)), (some (29, false))⟩, ⟨(some 34), (.mov (.t 7)), (some (29, false))⟩, ⟨(some 35), (.iaddr 1 (.t 33) (.t 34)), (some (29, false))⟩, ⟨(some 36), (.ld false 1 (.t 35)), (some (29, false))⟩, ⟨(some 37), (.call n_slices_Contains_int [(.t 32), (.t 36)]), (some (29, false))⟩, ⟨(some 38), (.pick (.t 29) (.c (.bool true)) (.t 37)), none⟩]) (.cond (.t 38) (.seq (.region false [⟨(some 6), (.mov (.c (.bool false))), none⟩]) .ret) .skip)))) (.region false [⟨(some 39), (.bin .add (.t 16) (.c (.int .i64 1))), none⟩, ⟨(some 16), (.mov (.t 39)), none⟩]))))
def x_goal_CheckInject : RFunc := ⟨40, [(.tmp 6)], (.seq (.region false [⟨(some 6), (.mov (.c (.bool false))), none⟩]) (.seq (.seq (.region false [⟨(some 9), (.mov (.t 1)), none⟩, ⟨(some 10), (.len false (.t 9)), none⟩, ⟨(some 11), (.mov (.t 2)), none⟩, ⟨(some 12), (.len false (.t 11)), none⟩, ⟨(some 13), (.bin .neq (.t 10) (.t 12)), none⟩]) (.cond (.t 13) (.seq (.region false [⟨(some 6), (.mov (.c (.bool false))), none⟩]) .ret) .skip)) (.seq (.seq (.region false [⟨(some 14), (.mov (.t 1)), none⟩, ⟨(some 15), (.len false (.t 14)), none⟩, ⟨(some 16), (.mov (.c (.int .i64 0))), none⟩]) (.block 0 (.loop x_goal_CheckInject_0))) (.seq (.region false [⟨(some 6), (.mov (.c (.bool true))), none⟩]) .ret))))⟩
def x_goal_Fresh_0 : RCode := (.seq (.region false [⟨(some 23), (.bin .lss (.t 22) (.t 21)), none⟩]) (.seq (.cond (.t 23) .skip (.exit 2)) (.seq (.block 3 (.seq (.region false [⟨(some 24), (.iaddr 1 (.t 20) (.t 22)), none⟩, ⟨(some 25), (.ld false 1 (.t 24)), none⟩, ⟨(some 10), (.mov (.t 25)), none⟩]) (.seq (.region true [⟨(some 26), (.mov (.t 0)), none⟩, ⟨(some 27), (.mov (.t 10)), none⟩, ⟨(some 28), (.call n_goal_kind [(.t 26), (.t 27), (.c (.int .i64 5))]), none⟩, ⟨(some 29), (.mov (.t 28)), none⟩, ⟨(some 30), (.mov (.t 0)), (some (29, true))⟩, ⟨(some 31), (.mov (.t 8)), (some (29, true))⟩, ⟨(some 32), (.call n_goal_kind [(.t 30), (.t 31), (.c (.int .i64 5))]), (some (29, true))⟩, ⟨(some 33), (.pick (.t 29) (.t 32) (.c (.bool false))), none⟩, ⟨(some 34), (.mov (.t 33)), none⟩, ⟨(some 35), (.mov (.t 0)), (some (34, true))⟩, ⟨(some 36), (.mov (.t 10)), (some (34, true))⟩, ⟨(some 37), (.iaddr 6 (.t 35) (.t 36)), (some (34, true))⟩, ⟨(some 38), (.ld true 6 (.t 37)), (some (34, true))⟩, ⟨(some 39), (.mov (.t 0)), (some (34, true))⟩, ⟨(some 40), (.mov (.t 8)), (some (34, true))⟩, ⟨(some 41), (.iaddr 6 (.t 39) (.t 40)), (some (34, true))⟩, ⟨(some 42), (.ld true 6 (.t 41)), (some (34, true))⟩, ⟨(some 43), (.call n_goal_equal [(.t 38), (.t 42)]), (some (34, true))⟩, ⟨(some 44), (.pick (.t 34) (.t 43) (.c (.bool false))), none⟩, ⟨(some 45), (.mov (.t 44)), none⟩, ⟨(some 46), (.mov (.t 0)), (some (45, true))⟩, ⟨(some 47), (.mov (.t 10)), (some (45, true))⟩, ⟨(some 48), (.iaddr 6 (.t 46) (.t 47)), (some (45, true))⟩, ⟨(some 49), (.faddr 1 (.t 48)), (some (45, true))⟩, ⟨(some 50), (.ld false 1 (.t 49)), (some (45, true))⟩, ⟨(some 51), (.mov (.t 0)), (some (45, true))⟩, ⟨(some 52), (.mov (.t 8)), (some (45, true))⟩, ⟨(some 53), (.iaddr 6 (.t 51) (.t 52)), (some (45, true))⟩, ⟨(some 54), (.faddr 1 (.t 53)), (some (45, true))⟩, ⟨(some 55), (.ld false 1 (.t 54)), (some (45, true))⟩, ⟨(some 56), (.bin .neq (.t 50) (.t 55)), (some (45, true))⟩, ⟨(some 57), (.pick (.t 45) (.t 56) (.c (.bool false))), none⟩]) (.cond (.t 57) (.seq (.region false [⟨(some 58), (.mov (.t 10)), none⟩, ⟨(some 59), (.mov (.t 8)), none⟩, ⟨(some 4), (.mov (.t 58)), none⟩, ⟨(some 5), (.mov (.t 59)), none⟩, ⟨(some 6), (.mov (.c (.bool false))), none⟩]) .ret) .skip)))) (.region false [⟨(some 60), (.bin .add (.t 22) (.c (.int .i64 1))), none⟩, ⟨(some 22), (.mov (.t 60)), none⟩]))))
def x_goal_Fresh_1 : RCode := (.seq (.region false [⟨(some 14), (.bin .lss (.t 13) (.t 12)), none⟩]) (.seq (.cond (.t 14) .skip (.exit 0)) (.seq (.block 1 (.seq (.region false [⟨(some 15), (.mov (.t 13)), none⟩, ⟨(some 16), (.iaddr 1 (.t 11) (.t 13)), none⟩, ⟨(some 17), (.ld false 1 (.t 16)), none⟩, ⟨(some 7), (.mov (.t 15)), none⟩, ⟨(some 8), (.mov (.t 17)), none⟩]) (.seq (.region false [⟨(some 18), (.mov (.t 1)), none⟩, ⟨(some 19), (.mov (.t 7)), none⟩, ⟨(some 20), (.slc 1 (.t 18) none (some (.t 19)) none), none⟩, ⟨(some 21), (.len false (.t 20)), none⟩, ⟨(some 22), (.mov (.c (.int .i64 0))), none⟩]) (.block 2 (.loop x_goal_Fresh_0))))) (.region false [⟨(some 61), (.bin .add (.t 13) (.c (.int .i64 1))), none⟩, ⟨(some 13), (.mov (.t 61)), none⟩]))))
def x_goal_Fresh : RFunc := ⟨62, [(.tmp 4), (.tmp 5), (.tmp 6)], (.seq (.region false [⟨(some 4), (.mov (.c (.int .i64 0))), none⟩, ⟨(some 5), (.mov (.c (.int .i64 0))), none⟩, ⟨(some 6), (.mov (.c (.bool false))), none⟩]) (.seq (.seq (.region false [⟨(some 11), (.mov (.t 1)), none⟩, ⟨(some 12), (.len false (.t 11)), none⟩, ⟨(some 13), (.mov (.c (.int .i64 0))), none⟩]) (.block 0 (.loop x_goal_Fresh_1))) (.seq (.region false [⟨(some 4), (.mov (.c (.int .i64 0))), none⟩, ⟨(some 5), (.mov (.c (.int .i64 0))), none⟩, ⟨(some 6), (.mov (.c (.bool true))), none⟩]) .ret)))⟩
def x_slices_Clone_int : RFunc := ⟨8, [(.tmp 2)], (.seq (.region false [⟨(some 2), (.mov (.c (.vs true 0 []))), none⟩]) (.seq (.seq (.region false [⟨(some 3), (.mov (.t 0)), none⟩, ⟨(some 4), (.nileq false (.t 3)), none⟩]) (.cond (.t 4) (.seq (.region false [⟨(some 2), (.mov (.c (.vs true 0 []))), none⟩]) .ret) .skip)) (.seq (.region false [⟨(some 5), (.bslice 0 (.int .i64 0) []), none⟩, ⟨(some 6), (.mov (.t 0)), none⟩, ⟨(some 7), (.app 1 8 (.t 5) (.t 6)), none⟩, ⟨(some 2), (.mov (.t 7)), none⟩]) .ret)))⟩
def x_ref27_Fresh_0 : RCode := (.seq (.seq (.region false [⟨(some 17), (.mov (.t 8)), none⟩, ⟨(some 18), (.mov (.t 7)), none⟩, ⟨(some 19), (.bin .lss (.t 17) (.t 18)), none⟩]) (.cond (.t 19) .skip (.exit 2))) (.seq (.block 3 (.seq (.region true [⟨(some 22), (.mov (.t 1)), none⟩, ⟨(some 23), (.mov (.t 8)), none⟩, ⟨(some 24), (.iaddr 1 (.t 22) (.t 23)), none⟩, ⟨(some 25), (.ld false 1 (.t 24)), none⟩, ⟨(some 26), (.mov (.t 1)), none⟩, ⟨(some 27), (.mov (.t 7)), none⟩, ⟨(some 28), (.iaddr 1 (.t 26) (.t 27)), none⟩, ⟨(some 29), (.ld false 1 (.t 28)), none⟩, ⟨(some 9), (.mov (.t 25)), none⟩, ⟨(some 10), (.mov (.t 29)), none⟩]) (.seq (.region true [⟨(some 30), (.mov (.t 0)), none⟩, ⟨(some 31), (.mov (.t 9)), none⟩, ⟨(some 32), (.call n_ref27_kind [(.t 30), (.t 31), (.c (.int .i64 5))]), none⟩, ⟨(some 33), (.mov (.t 32)), none⟩, ⟨(some 34), (.mov (.t 0)), (some (33, true))⟩, ⟨(some 35), (.mov (.t 10)), (some (33, true))⟩, ⟨(some 36), (.call n_ref27_kind [(.t 34), (.t 35), (.c (.int .i64 5))]), (some (33, true))⟩, ⟨(some 37), (.pick (.t 33) (.t 36) (.c (.bool false))), none⟩, ⟨(some 38), (.mov (.t 37)), none⟩, ⟨(some 39), (.mov (.t 0)), (some (38, true))⟩, ⟨(some 40), (.mov (.t 9)), (some (38, true))⟩, ⟨(some 41), (.iaddr 6 (.t 39) (.t 40)), (some (38, true))⟩, ⟨(some 42), (.ld true 6 (.t 41)), (some (38, true))⟩, ⟨(some 43), (.mov (.t 0)), (some (38, true))⟩, ⟨(some 44), (.mov (.t 10)), (some (38, true))⟩, ⟨(some 45), (.iaddr 6 (.t 43) (.t 44)), (some (38, true))⟩, ⟨(some 46), (.ld true 6 (.t 45)), (some (38, true))⟩, ⟨(some 47), (.call n_ref27_Equal [(.t 42), (.t 46)]), (some (38, true))⟩, ⟨(some 48), (.pick (.t 38) (.t 47) (.c (.bool false))), none⟩, ⟨(some 49), (.mov (.t 48)), none⟩, ⟨(some 50), (.mov (.t 0)), (some (49, true))⟩, ⟨(some 51), (.mov (.t 9)), (some (49, true))⟩, ⟨(some 52), (.iaddr 6 (.t 50) (.t 51)), (some (49, true))⟩, ⟨(some 53), (.faddr 1 (.t 52)), (some (49, true))⟩, ⟨(some 54), (.ld false 1 (.t 53)), (some (49, true))⟩, ⟨(some 55), (.mov (.t 0)), (some (49, true))⟩, ⟨(some 56), (.mov (.t 10)), (some (49, true))⟩, ⟨(some 57), (.iaddr 6 (.t 55) (.t 56)), (some (49, true))⟩, ⟨(some 58), (.faddr 1 (.t 57)), (some (49, true))⟩, ⟨(some 59), (.ld false 1 (.t 58)), (some (49, true))⟩, ⟨(some 60), (.bin .neq (.t 54) (.t 59)), (some (49, true))⟩, ⟨(some 61), (.pick (.t 49) (.t 60) (.c (.bool false))), none⟩]) (.cond (.t 61) (.seq (.region false [⟨(some 62), (.mov (.t 9)), none⟩, ⟨(some 63), (.mov (.t 10)), none⟩, ⟨(some 4), (.mov (.t 62)), none⟩, ⟨(some 5), (.mov (.t 63)), none⟩, ⟨(some 6), (.mov (.c (.bool false))), none⟩]) .ret) .skip)))) (.region false [⟨(some 20), (.mov (.t 8)), none⟩, ⟨(some 21), (.bin .add (.t 20) (.c (.int .i64 1))), none⟩, ⟨(some 8), (.mov (.t 21)), none⟩])))
def x_ref27_Fresh_1 : RCode := (.seq (.seq (.region false [⟨(some 11), (.mov (.t 7)), none⟩, ⟨(some 12), (.mov (.t 1)), none⟩, ⟨(some 13), (.len false (.t 12)), none⟩, ⟨(some 14), (.bin .lss (.t 11) (.t 13)), none⟩]) (.cond (.t 14) .skip (.exit 0))) (.seq (.block 1 (.seq (.region false [⟨(some 8), (.mov (.c (.int .i64 0))), none⟩]) (.block 2 (.loop x_ref27_Fresh_0)))) (.region false [⟨(some 15), (.mov (.t 7)), none⟩, ⟨(some 16), (.bin .add (.t 15) (.c (.int .i64 1))), none⟩, ⟨(some 7), (.mov (.t 16)), none⟩])))
def x_ref27_Fresh : RFunc := ⟨64, [(.tmp 4), (.tmp 5), (.tmp 6)], (.seq (.region false [⟨(some 4), (.mov (.c (.int .i64 0))), none⟩, ⟨(some 5), (.mov (.c (.int .i64 0))), none⟩, ⟨(some 6), (.mov (.c (.bool false))), none⟩]) (.seq (.seq (.region false [⟨(some 7), (.mov (.c (.int .i64 0))), none⟩]) (.block 0 (.loop x_ref27_Fresh_1))) (.seq (.region false [⟨(some 4), (.mov (.c (.int .i64 0))), none⟩, ⟨(some 5), (.mov (.c (.int .i64 0))), none⟩, ⟨(some 6), (.mov (.c (.bool true))), none⟩]) .ret)))⟩
def x_ref15_Few_0 : RCode := (.seq (.seq (.region false [⟨(some 12), (.mov (.t 4)), none⟩, ⟨(some 13), (.mov (.t 3)), none⟩, ⟨(some 14), (.len false (.t 13)), none⟩, ⟨(some 15), (.bin .lss (.t 12) (.t 14)), none⟩]) (.cond (.t 15) .skip (.exit 0))) (.seq (.block 1 (.seq (.region false [⟨(some 18), (.mov (.t 3)), none⟩, ⟨(some 19), (.mov (.t 4)), none⟩, ⟨(some 20), (.iaddr 1 (.t 18) (.t 19)), none⟩, ⟨(some 21), (.ld false 1 (.t 20)), none⟩, ⟨(some 22), (.len true (.t 21)), none⟩, ⟨(some 23), (.bin .gtr (.t 22) (.c (.int .i64 60))), none⟩]) (.cond (.t 23) (.seq (.region false [⟨(some 2), (.mov (.c (.bool false))), none⟩]) .ret) .skip))) (.region false [⟨(some 16), (.mov (.t 4)), none⟩, ⟨(some 17), (.bin .add (.t 16) (.c (.int .i64 1))), none⟩, ⟨(some 4), (.mov (.t 17)), none⟩])))
def x_ref15_Few : RFunc := ⟨27, [(.tmp 2)], (.seq (.region false [⟨(some 1), (.box (.t 0)), none⟩, ⟨(some 2), (.mov (.c (.bool false))), none⟩]) (.seq (.region true [⟨(some 5), (.bslice 0 (.str (bs [])) []), none⟩, ⟨(some 6), (.faddr 0 (.t 1)), none⟩, ⟨(some 7), (.ldb false 1 (.t 6)), none⟩, ⟨(some 8), (.app 1 16 (.t 5) (.t 7)), none⟩, ⟨(some 9), (.faddr 1 (.t 1)), none⟩, ⟨(some 10), (.ldb false 1 (.t 9)), none⟩, ⟨(some 11), (.app 1 16 (.t 8) (.t 10)), none⟩, ⟨(some 3), (.mov (.t 11)), none⟩]) (.seq (.seq (.region false [⟨(some 4), (.mov (.c (.int .i64 0))), none⟩]) (.block 0 (.loop x_ref15_Few_0))) (.seq (.region false [⟨(some 24), (.mov (.t 3)), none⟩, ⟨(some 25), (.len false (.t 24)), none⟩, ⟨(some 26), (.bin .leq (.t 25) (.c (.int .i64 20))), none⟩, ⟨(some 2), (.mov (.t 26)), none⟩]) .ret))))⟩
def x_goal_Honest : RFunc := ⟨16, [(.tmp 4)], (.seq (.region false [⟨(some 2), (.box (.t 0)), none⟩, ⟨(some 3), (.box (.t 1)), none⟩, ⟨(some 4), (.mov (.c (.bool false))), none⟩]) (.seq (.region false [⟨(some 5), (.faddr 1 (.t 3)), none⟩, ⟨(some 6), (.ld false 1 (.t 5)), none⟩, ⟨(some 7), (.len false (.t 6)), none⟩, ⟨(some 8), (.bin .gtr (.t 7) (.c (.int .i64 0))), none⟩, ⟨(some 9), (.mov (.t 8)), none⟩, ⟨(some 10), (.faddr 1 (.t 3)), (some (9, true))⟩, ⟨(some 11), (.ld false 1 (.t 10)), (some (9, true))⟩, ⟨(some 12), (.clos n_goal_Honest_1 [(.t 2)]), (some (9, true))⟩, ⟨(some 13), (.call n_slices_ContainsFunc_string [(.t 11), (.t 12)]), (some (9, true))⟩, ⟨(some 14), (.un .not (.t 13)), (some (9, true))⟩, ⟨(some 15), (.pick (.t 9) (.t 14) (.c (.bool false))), none⟩, ⟨(some 4), (.mov (.t 15)), none⟩]) .ret))⟩
def x_ref27_Honest_0 : RCode := (.seq (.seq (.region false [⟨(some 6), (.mov (.t 5)), none⟩, ⟨(some 7), (.faddr 1 (.t 3)), none⟩, ⟨(some 8), (.ld false 1 (.t 7)), none⟩, ⟨(some 9), (.len false (.t 8)), none⟩, ⟨(some 10), (.bin .lss (.t 6) (.t 9)), none⟩]) (.cond (.t 10) .skip (.exit 0))) (.seq (.block 1 (.seq (.region true [⟨(some 13), (.ld true 2 (.t 2)), none⟩, ⟨(some 14), (.faddr 1 (.t 3)), none⟩, ⟨(some 15), (.ld false 1 (.t 14)), none⟩, ⟨(some 16), (.mov (.t 5)), none⟩, ⟨(some 17), (.iaddr 1 (.t 15) (.t 16)), none⟩, ⟨(some 18), (.ld false 1 (.t 17)), none⟩, ⟨(some 19), (.call n_ref15_Honest [(.t 13), (.t 18)]), none⟩, ⟨(some 20), (.un .not (.t 19)), none⟩]) (.cond (.t 20) (.seq (.region false [⟨(some 4), (.mov (.c (.bool false))), none⟩]) .ret) .skip))) (.region false [⟨(some 11), (.mov (.t 5)), none⟩, ⟨(some 12), (.bin .add (.t 11) (.c (.int .i64 1))), none⟩, ⟨(some 5), (.mov (.t 12)), none⟩])))
def x_ref27_Honest : RFunc := ⟨25, [(.tmp 4)], (.seq (.region false [⟨(some 2), (.box (.t 0)), none⟩, ⟨(some 3), (.box (.t 1)), none⟩, ⟨(some 4), (.mov (.c (.bool false))), none⟩]) (.seq (.seq (.region false [⟨(some 5), (.mov (.c (.int .i64 0))), none⟩]) (.block 0 (.loop x_ref27_Honest_0))) (.seq (.region false [⟨(some 21), (.faddr 1 (.t 3)), none⟩, ⟨(some 22), (.ld false 1 (.t 21)), none⟩, ⟨(some 23), (.len false (.t 22)), none⟩, ⟨(some 24), (.bin .gtr (.t 23) (.c (.int .i64 0))), none⟩, ⟨(some 4), (.mov (.t 24)), none⟩]) .ret)))⟩
def x_law27_moment : RFunc := ⟨13, [(.cell 6 true 6)], (.seq (.region false [⟨(some 6), (.alloc (.agg [(.int .i64 0), (.int .i64 0), (.int .i64 0), (.vs true 0 []), (.int .i64 0), (.vs true 0 [])])), none⟩]) (.seq (.region false [⟨(some 7), (.mov (.t 0)), none⟩, ⟨(some 8), (.mov (.t 1)), none⟩, ⟨(some 9), (.mov (.t 2)), none⟩, ⟨(some 10), (.call n_ref01_Atom [(.t 9), (.c (.int .i64 2))]), none⟩, ⟨(some 11), (.bslice 1 (.agg [(.int .i64 0), (.str (bs [])), (.int .i64 0), (.vs true 0 [])]) [(0, (.t 10))]), none⟩, ⟨(some 12), (.build (.agg [(.int .i64 0), (.int .i64 0), (.int .i64 0), (.vs true 0 []), (.int .i64 0), (.vs true 0 [])]) [(0, (1, (.t 7))), (1, (1, (.t 8))), (5, (1, (.t 11)))]), none⟩, ⟨none, (.st 6 (.t 6) (.t 12)), none⟩]) .ret))⟩
def x_ref01_Few_0 : RCode := (.seq (.seq (.region false [⟨(some 12), (.mov (.t 7)), none⟩, ⟨(some 13), (.mov (.t 0)), none⟩, ⟨(some 14), (.len false (.t 13)), none⟩, ⟨(some 15), (.bin .lss (.t 12) (.t 14)), none⟩]) (.cond (.t 15) .skip (.exit 0))) (.seq (.block 1 (.seq (.region false [⟨(some 18), (.mov (.t 0)), none⟩, ⟨(some 19), (.mov (.t 7)), none⟩, ⟨(some 20), (.iaddr 4 (.t 18) (.t 19)), none⟩, ⟨(some 21), (.ld true 4 (.t 20)), none⟩, ⟨(some 22), (.mov (.t 2)), none⟩, ⟨(some 23), (.call n_ref01_budget [(.t 21), (.t 22)]), none⟩, ⟨(some 2), (.mov (.t 23)), none⟩]) (.seq (.region false [⟨(some 24), (.mov (.t 2)), none⟩, ⟨(some 25), (.bin .lss (.t 24) (.c (.int .i64 0))), none⟩]) (.cond (.t 25) (.seq (.region false [⟨(some 6), (.mov (.c (.bool false))), none⟩]) .ret) .skip)))) (.region false [⟨(some 16), (.mov (.t 7)), none⟩, ⟨(some 17), (.bin .add (.t 16) (.c (.int .i64 1))), none⟩, ⟨(some 7), (.mov (.t 17)), none⟩])))
def x_ref01_Few : RFunc := ⟨26, [(.tmp 6)], (.seq (.region false [⟨(some 6), (.mov (.c (.bool false))), none⟩]) (.seq (.seq (.region false [⟨(some 8), (.mov (.t 0)), none⟩, ⟨(some 9), (.len false (.t 8)), none⟩, ⟨(some 10), (.mov (.t 1)), none⟩, ⟨(some 11), (.bin .gtr (.t 9) (.t 10)), none⟩]) (.cond (.t 11) (.seq (.region false [⟨(some 6), (.mov (.c (.bool false))), none⟩]) .ret) .skip)) (.seq (.seq (.region false [⟨(some 7), (.mov (.c (.int .i64 0))), none⟩]) (.block 0 (.loop x_ref01_Few_0))) (.seq (.region false [⟨(some 6), (.mov (.c (.bool true))), none⟩]) .ret))))⟩
def x_goal_fits : RFunc := ⟨31, [(.tmp 6)], (.seq (.region false [⟨(some 6), (.mov (.c (.bool false))), none⟩]) (.seq (.region true [⟨(some 7), (.mov (.t 0)), none⟩, ⟨(some 8), (.mov (.t 1)), none⟩, ⟨(some 9), (.call n_goal_kind [(.t 7), (.t 8), (.c (.int .i64 4))]), none⟩, ⟨(some 10), (.mov (.t 9)), none⟩, ⟨(some 11), (.mov (.t 0)), (some (10, true))⟩, ⟨(some 12), (.mov (.t 2)), (some (10, true))⟩, ⟨(some 13), (.call n_goal_kind [(.t 11), (.t 12), (.c (.int .i64 5))]), (some (10, true))⟩, ⟨(some 14), (.pick (.t 10) (.t 13) (.c (.bool false))), none⟩, ⟨(some 15), (.mov (.t 14)), none⟩, ⟨(some 16), (.mov (.t 1)), (some (15, true))⟩, ⟨(some 17), (.mov (.t 2)), (some (15, true))⟩, ⟨(some 18), (.bin .lss (.t 16) (.t 17)), (some (15, true))⟩, ⟨(some 19), (.pick (.t 15) (.t 18) (.c (.bool false))), none⟩, ⟨(some 20), (.mov (.t 19)), none⟩, ⟨(some 21), (.mov (.t 0)), (some (20, true))⟩, ⟨(some 22), (.mov (.t 1)), (some (20, true))⟩, ⟨(some 23), (.iaddr 6 (.t 21) (.t 22)), (some (20, true))⟩, ⟨(some 24), (.ld true 6 (.t 23)), (some (20, true))⟩, ⟨(some 25), (.mov (.t 0)), (some (20, true))⟩, ⟨(some 26), (.mov (.t 2)), (some (20, true))⟩, ⟨(some 27), (.iaddr 6 (.t 25) (.t 26)), (some (20, true))⟩, ⟨(some 28), (.ld true 6 (.t 27)), (some (20, true))⟩, ⟨(some 29), (.call n_goal_equal [(.t 24), (.t 28)]), (some (20, true))⟩, ⟨(some 30), (.pick (.t 20) (.t 29) (.c (.bool false))), none⟩, ⟨(some 6), (.mov (.t 30)), none⟩]) .ret))⟩
def x_ref27_Fits : RFunc := ⟨31, [(.tmp 6)], (.seq (.region false [⟨(some 6), (.mov (.c (.bool false))), none⟩]) (.seq (.region true [⟨(some 7), (.mov (.t 0)), none⟩, ⟨(some 8), (.mov (.t 1)), none⟩, ⟨(some 9), (.call n_ref27_kind [(.t 7), (.t 8), (.c (.int .i64 4))]), none⟩, ⟨(some 10), (.mov (.t 9)), none⟩, ⟨(some 11), (.mov (.t 0)), (some (10, true))⟩, ⟨(some 12), (.mov (.t 2)), (some (10, true))⟩, ⟨(some 13), (.call n_ref27_kind [(.t 11), (.t 12), (.c (.int .i64 5))]), (some (10, true))⟩, ⟨(some 14), (.pick (.t 10) (.t 13) (.c (.bool false))), none⟩, ⟨(some 15), (.mov (.t 14)), none⟩, ⟨(some 16), (.mov (.t 1)), (some (15, true))⟩, ⟨(some 17), (.mov (.t 2)), (some (15, true))⟩, ⟨(some 18), (.bin .lss (.t 16) (.t 17)), (some (15, true))⟩, ⟨(some 19), (.pick (.t 15) (.t 18) (.c (.bool false))), none⟩, ⟨(some 20), (.mov (.t 19)), none⟩, ⟨(some 21), (.mov (.t 0)), (some (20, true))⟩, ⟨(some 22), (.mov (.t 1)), (some (20, true))⟩, ⟨(some 23), (.iaddr 6 (.t 21) (.t 22)), (some (20, true))⟩, ⟨(some 24), (.ld true 6 (.t 23)), (some (20, true))⟩, ⟨(some 25), (.mov (.t 0)), (some (20, true))⟩, ⟨(some 26), (.mov (.t 2)), (some (20, true))⟩, ⟨(some 27), (.iaddr 6 (.t 25) (.t 26)), (some (20, true))⟩, ⟨(some 28), (.ld true 6 (.t 27)), (some (20, true))⟩, ⟨(some 29), (.call n_ref27_Equal [(.t 24), (.t 28)]), (some (20, true))⟩, ⟨(some 30), (.pick (.t 20) (.t 29) (.c (.bool false))), none⟩, ⟨(some 6), (.mov (.t 30)), none⟩]) .ret))⟩
def x_goal_kind : RFunc := ⟨24, [(.tmp 6)], (.seq (.region false [⟨(some 6), (.mov (.c (.bool false))), none⟩]) (.seq (.region false [⟨(some 7), (.mov (.t 1)), none⟩, ⟨(some 8), (.bin .geq (.t 7) (.c (.int .i64 0))), none⟩, ⟨(some 9), (.mov (.t 8)), none⟩, ⟨(some 10), (.mov (.t 1)), (some (9, true))⟩, ⟨(some 11), (.mov (.t 0)), (some (9, true))⟩, ⟨(some 12), (.len false (.t 11)), (some (9, true))⟩, ⟨(some 13), (.bin .lss (.t 10) (.t 12)), (some (9, true))⟩, ⟨(some 14), (.pick (.t 9) (.t 13) (.c (.bool false))), none⟩, ⟨(some 15), (.mov (.t 14)), none⟩, ⟨(some 16), (.mov (.t 0)), (some (15, true))⟩, ⟨(some 17), (.mov (.t 1)), (some (15, true))⟩, ⟨(some 18), (.iaddr 6 (.t 16) (.t 17)), (some (15, true))⟩, ⟨(some 19), (.faddr 0 (.t 18)), (some (15, true))⟩, ⟨(some 20), (.ld false 1 (.t 19)), (some (15, true))⟩, ⟨(some 21), (.mov (.t 2)), (some (15, true))⟩, ⟨(some 22), (.bin .eql (.t 20) (.t 21)), (some (15, true))⟩, ⟨(some 23), (.pick (.t 15) (.t 22) (.c (.bool false))), none⟩, ⟨(some 6), (.mov (.t 23)), none⟩]) .ret))⟩
def x_goal_assigner_assign_0 : RCode := (.seq (.region false [⟨(some 14), (.bin .lss (.t 13) (.t 12)), none⟩]) (.seq (.cond (.t 14) .skip (.exit 0)) (.seq (.block 1 (.seq (.region false [⟨(some 15), (.mov (.t 13)), none⟩, ⟨(some 7), (.mov (.t 15)), none⟩]) (.seq (.seq (.region true [⟨(some 16), (.mov (.t 2)), none⟩, ⟨(some 17), (.mov (.t 7)), none⟩, ⟨(some 18), (.iaddr 1 (.t 16) (.t 17)), none⟩, ⟨(some 19), (.ld false 1 (.t 18)), none⟩, ⟨(some 20), (.mov (.t 19)), none⟩, ⟨(some 21), (.mov (.t 0)), (some (20, false))⟩, ⟨(some 22), (.nilck (.t 21)), (some (20, false))⟩, ⟨(some 23), (.faddr 0 (.t 22)), (some (20, false))⟩, ⟨(some 24), (.ld false 1 (.t 23)), (some (20, false))⟩, ⟨(some 25), (.mov (.t 7)), (some (20, false))⟩, ⟨(some 26), (.mov (.t 0)), (some (20, false))⟩, ⟨(some 27), (.nilck (.t 26)), (some (20, false))⟩, ⟨(some 28), (.faddr 1 (.t 27)), (some (20, false))⟩, ⟨(some 29), (.ld false 1 (.t 28)), (some (20, false))⟩, ⟨(some 30), (.mov (.t 1)), (some (20, false))⟩, ⟨(some 31), (.iaddr 1 (.t 29) (.t 30)), (some (20, false))⟩, ⟨(some 32), (.ld false 1 (.t 31)), (some (20, false))⟩, ⟨(some 33), (.call n_goal_fits [(.t 24), (.t 25), (.t 32)]), (some (20, false))⟩, ⟨(some 34), (.un .not (.t 33)), (some (20, false))⟩, ⟨(some 35), (.pick (.t 20) (.c (.bool true)) (.t 34)), none⟩]) (.cond (.t 35) (.exit 1) .skip)) (.seq (.region false [⟨(some 36), (.mov (.t 2)), none⟩, ⟨(some 37), (.mov (.t 7)), none⟩, ⟨(some 38), (.iaddr 1 (.t 36) (.t 37)), none⟩, ⟨none, (.st 1 (.t 38) (.c (.bool true))), none⟩]) (.seq (.region false [⟨(some 39), (.mov (.t 0)), none⟩, ⟨(some 40), (.nilck (.t 39)), none⟩, ⟨(some 41), (.faddr 2 (.t 40)), none⟩, ⟨(some 42), (.ld false 1 (.t 41)), none⟩, ⟨(some 43), (.mov (.t 7)), none⟩, ⟨(some 44), (.iaddr 1 (.t 42) (.t 43)), none⟩, ⟨(some 45), (.ld false 1 (.t 44)), none⟩, ⟨(some 46), (.bin .lss (.t 45) (.c (.int .i64 0))), none⟩, ⟨(some 47), (.mov (.t 46)), none⟩, ⟨(some 48), (.mov (.t 0)), (some (47, false))⟩, ⟨(some 49), (.mov (.t 0)), (some (47, false))⟩, ⟨(some 50), (.nilck (.t 49)), (some (47, false))⟩, ⟨(some 51), (.faddr 2 (.t 50)), (some (47, false))⟩, ⟨(some 52), (.ld false 1 (.t 51)), (some (47, false))⟩, ⟨(some 53), (.mov (.t 7)), (some (47, false))⟩, ⟨(some 54), (.iaddr 1 (.t 52) (.t 53)), (some (47, false))⟩, ⟨(some 55), (.ld false 1 (.t 54)), (some (47, false))⟩, ⟨(some 56), (.mov (.t 2)), (some (47, false))⟩, ⟨(some 57), (.call n_goal_assigner_assign [(.t 48), (.t 55), (.t 56)]), (some (47, false))⟩, ⟨(some 58), (.pick (.t 47) (.c (.bool true)) (.t 57)), none⟩]) (.cond (.t 58) (.seq (.region false [⟨(some 59), (.mov (.t 0)), none⟩, ⟨(some 60), (.nilck (.t 59)), none⟩, ⟨(some 61), (.faddr 2 (.t 60)), none⟩, ⟨(some 62), (.ld false 1 (.t 61)), none⟩, ⟨(some 63), (.mov (.t 7)), none⟩, ⟨(some 64), (.mov (.t 1)), none⟩, ⟨(some 65), (.iaddr 1 (.t 62) (.t 63)), none⟩, ⟨none, (.st 1 (.t 65) (.t 64)), none⟩]) (.seq (.region false [⟨(some 6), (.mov (.c (.bool true))), none⟩]) .ret)) .skip)))))) (.region false [⟨(some 66), (.bin .add (.t 13) (.c (.int .i64 1))), none⟩, ⟨(some 13), (.mov (.t 66)), none⟩]))))
def x_goal_assigner_assign : RFunc := ⟨67, [(.tmp 6)], (.seq (.region false [⟨(some 6), (.mov (.c (.bool false))), none⟩]) (.seq (.seq (.region false [⟨(some 8), (.mov (.t 0)), none⟩, ⟨(some 9), (.nilck (.t 8)), none⟩, ⟨(some 10), (.faddr 0 (.t 9)), none⟩, ⟨(some 11), (.ld false 1 (.t 10)), none⟩, ⟨(some 12), (.len false (.t 11)), none⟩, ⟨(some 13), (.mov (.c (.int .i64 0))), none⟩]) (.block 0 (.loop x_goal_assigner_assign_0))) (.seq (.region false [⟨(some 6), (.mov (.c (.bool false))), none⟩]) .ret)))⟩
def x_ref27_kind : RFunc := ⟨24, [(.tmp 6)], (.seq (.region false [⟨(some 6), (.mov (.c (.bool false))), none⟩]) (.seq (.region false [⟨(some 7), (.mov (.t 1)), none⟩, ⟨(some 8), (.bin .geq (.t 7) (.c (.int .i64 0))), none⟩, ⟨(some 9), (.mov (.t 8)), none⟩, ⟨(some 10), (.mov (.t 1)), (some (9, true))⟩, ⟨(some 11), (.mov (.t 0)), (some (9, true))⟩, ⟨(some 12), (.len false (.t 11)), (some (9, true))⟩, ⟨(some 13), (.bin .lss (.t 10) (.t 12)), (some (9, true))⟩, ⟨(some 14), (.pick (.t 9) (.t 13) (.c (.bool false))), none⟩, ⟨(some 15), (.mov (.t 14)), none⟩, ⟨(some 16), (.mov (.t 0)), (some (15, true))⟩, ⟨(some 17), (.mov (.t 1)), (some (15, true))⟩, ⟨(some 18), (.iaddr 6 (.t 16) (.t 17)), (some (15, true))⟩, ⟨(some 19), (.faddr 0 (.t 18)), (some (15, true))⟩, ⟨(some 20), (.ld false 1 (.t 19)), (some (15, true))⟩, ⟨(some 21), (.mov (.t 2)), (some (15, true))⟩, ⟨(some 22), (.bin .eql (.t 20) (.t 21)), (some (15, true))⟩, ⟨(some 23), (.pick (.t 15) (.t 22) (.c (.bool false))), none⟩, ⟨(some 6), (.mov (.t 23)), none⟩]) .ret))⟩
def x_ref27_assign_0 : RCode := (.seq (.seq (.region false [⟨(some 12), (.mov (.t 11)), none⟩, ⟨(some 13), (.mov (.t 0)), none⟩, ⟨(some 14), (.len false (.t 13)), none⟩, ⟨(some 15), (.bin .lss (.t 12) (.t 14)), none⟩]) (.cond (.t 15) .skip (.exit 0))) (.seq (.block 1 (.seq (.seq (.region false [⟨(some 18), (.mov (.t 4)), none⟩, ⟨(some 19), (.mov (.t 11)), none⟩, ⟨(some 20), (.iaddr 1 (.t 18) (.t 19)), none⟩, ⟨(some 21), (.ld false 1 (.t 20)), none⟩, ⟨(some 22), (.mov (.t 21)), none⟩, ⟨(some 23), (.mov (.t 0)), (some (22, false))⟩, ⟨(some 24), (.mov (.t 11)), (some (22, false))⟩, ⟨(some 25), (.mov (.t 1)), (some (22, false))⟩, ⟨(some 26), (.mov (.t 2)), (some (22, false))⟩, ⟨(some 27), (.iaddr 1 (.t 25) (.t 26)), (some (22, false))⟩, ⟨(some 28), (.ld false 1 (.t 27)), (some (22, false))⟩, ⟨(some 29), (.call n_ref27_Fits [(.t 23), (.t 24), (.t 28)]), (some (22, false))⟩, ⟨(some 30), (.un .not (.t 29)), (some (22, false))⟩, ⟨(some 31), (.pick (.t 22) (.c (.bool true)) (.t 30)), none⟩]) (.cond (.t 31) (.exit 1) .skip)) (.seq (.region false [⟨(some 32), (.mov (.t 4)), none⟩, ⟨(some 33), (.mov (.t 11)), none⟩, ⟨(some 34), (.iaddr 1 (.t 32) (.t 33)), none⟩, ⟨none, (.st 1 (.t 34) (.c (.bool true))), none⟩]) (.seq (.region false [⟨(some 35), (.mov (.t 3)), none⟩, ⟨(some 36), (.mov (.t 11)), none⟩, ⟨(some 37), (.iaddr 1 (.t 35) (.t 36)), none⟩, ⟨(some 38), (.ld false 1 (.t 37)), none⟩, ⟨(some 39), (.bin .lss (.t 38) (.c (.int .i64 0))), none⟩, ⟨(some 40), (.mov (.t 39)), none⟩, ⟨(some 41), (.mov (.t 0)), (some (40, false))⟩, ⟨(some 42), (.mov (.t 1)), (some (40, false))⟩, ⟨(some 43), (.mov (.t 3)), (some (40, false))⟩, ⟨(some 44), (.mov (.t 11)), (some (40, false))⟩, ⟨(some 45), (.iaddr 1 (.t 43) (.t 44)), (some (40, false))⟩, ⟨(some 46), (.ld false 1 (.t 45)), (some (40, false))⟩, ⟨(some 47), (.mov (.t 3)), (some (40, false))⟩, ⟨(some 48), (.mov (.t 4)), (some (40, false))⟩, ⟨(some 49), (.call n_ref27_assign [(.t 41), (.t 42), (.t 46), (.t 47), (.t 48)]), (some (40, false))⟩, ⟨(some 50), (.pick (.t 40) (.c (.bool true)) (.t 49)), none⟩]) (.cond (.t 50) (.seq (.region false [⟨(some 51), (.mov (.t 3)), none⟩, ⟨(some 52), (.mov (.t 11)), none⟩, ⟨(some 53), (.mov (.t 2)), none⟩, ⟨(some 54), (.iaddr 1 (.t 51) (.t 52)), none⟩, ⟨none, (.st 1 (.t 54) (.t 53)), none⟩]) (.seq (.region false [⟨(some 10), (.mov (.c (.bool true))), none⟩]) .ret)) .skip))))) (.region false [⟨(some 16), (.mov (.t 11)), none⟩, ⟨(some 17), (.bin .add (.t 16) (.c (.int .i64 1))), none⟩, ⟨(some 11), (.mov (.t 17)), none⟩])))
def x_ref27_assign : RFunc := ⟨55, [(.tmp 10)], (.seq (.region false [⟨(some 10), (.mov (.c (.bool false))), none⟩]) (.seq (.seq (.region false [⟨(some 11), (.mov (.c (.int .i64 0))), none⟩]) (.block 0 (.loop x_ref27_assign_0))) (.seq (.region false [⟨(some 10), (.mov (.c (.bool false))), none⟩]) .ret)))⟩
def x_slices_Contains_int : RFunc := ⟨9, [(.tmp 4)], (.seq (.region false [⟨(some 4), (.mov (.c (.bool false))), none⟩]) (.seq (.region false [⟨(some 5), (.mov (.t 0)), none⟩, ⟨(some 6), (.mov (.t 1)), none⟩, ⟨(some 7), (.call n_slices_Index_int [(.t 5), (.t 6)]), none⟩, ⟨(some 8), (.bin .geq (.t 7) (.c (.int .i64 0))), none⟩, ⟨(some 4), (.mov (.t 8)), none⟩]) .ret))⟩
def x_goal_equal : RFunc := ⟨17, [(.tmp 4)], (.seq (.region false [⟨(some 2), (.box (.t 0)), none⟩, ⟨(some 3), (.box (.t 1)), none⟩, ⟨(some 4), (.mov (.c (.bool false))), none⟩]) (.seq (.region false [⟨(some 5), (.faddr 4 (.t 2)), none⟩, ⟨(some 6), (.ld false 1 (.t 5)), none⟩, ⟨(some 7), (.faddr 4 (.t 3)), none⟩, ⟨(some 8), (.ld false 1 (.t 7)), none⟩, ⟨(some 9), (.bin .eql (.t 6) (.t 8)), none⟩, ⟨(some 10), (.mov (.t 9)), none⟩, ⟨(some 11), (.faddr 5 (.t 2)), (some (10, true))⟩, ⟨(some 12), (.ld false 1 (.t 11)), (some (10, true))⟩, ⟨(some 13), (.faddr 5 (.t 3)), (some (10, true))⟩, ⟨(some 14), (.ld false 1 (.t 13)), (some (10, true))⟩, ⟨(some 15), (.call n_slices_EqualFunc_Term [(.t 12), (.t 14), (.c (.fn n_goal_equal_1 []))]), (some (10, true))⟩, ⟨(some 16), (.pick (.t 10) (.t 15) (.c (.bool false))), none⟩, ⟨(some 4), (.mov (.t 16)), none⟩]) .ret))⟩
def x_ref27_Equal : RFunc := ⟨17, [(.tmp 4)], (.seq (.region false [⟨(some 2), (.box (.t 0)), none⟩, ⟨(some 3), (.box (.t 1)), none⟩, ⟨(some 4), (.mov (.c (.bool false))), none⟩]) (.seq (.region false [⟨(some 5), (.faddr 4 (.t 2)), none⟩, ⟨(some 6), (.ld false 1 (.t 5)), none⟩, ⟨(some 7), (.faddr 4 (.t 3)), none⟩, ⟨(some 8), (.ld false 1 (.t 7)), none⟩, ⟨(some 9), (.bin .eql (.t 6) (.t 8)), none⟩, ⟨(some 10), (.mov (.t 9)), none⟩, ⟨(some 11), (.faddr 5 (.t 2)), (some (10, true))⟩, ⟨(some 12), (.ld false 1 (.t 11)), (some (10, true))⟩, ⟨(some 13), (.faddr 5 (.t 3)), (some (10, true))⟩, ⟨(some 14), (.ld false 1 (.t 13)), (some (10, true))⟩, ⟨(some 15), (.call n_ref01_Lists [(.t 12), (.t 14)]), (some (10, true))⟩, ⟨(some 16), (.pick (.t 10) (.t 15) (.c (.bool false))), none⟩, ⟨(some 4), (.mov (.t 16)), none⟩]) .ret))⟩
def x_slices_ContainsFunc_string : RFunc := ⟨9, [(.tmp 4)], (.seq (.region false [⟨(some 4), (.mov (.c (.bool false))), none⟩]) (.seq (.region false [⟨(some 5), (.mov (.t 0)), none⟩, ⟨(some 6), (.mov (.t 1)), none⟩, ⟨(some 7), (.call n_slices_IndexFunc_string [(.t 5), (.t 6)]), none⟩, ⟨(some 8), (.bin .geq (.t 7) (.c (.int .i64 0))), none⟩, ⟨(some 4), (.mov (.t 8)), none⟩]) .ret))⟩
def x_goal_Honest_1 : RFunc := ⟨8, [(.tmp 3)], (.seq (.region false [⟨(some 3), (.mov (.c (.bool false))), none⟩]) (.seq (.region false [⟨(some 4), (.ld true 2 (.t 1)), none⟩, ⟨(some 5), (.mov (.t 0)), none⟩, ⟨(some 6), (.call n_cast_Honest [(.t 4), (.t 5)]), none⟩, ⟨(some 7), (.un .not (.t 6)), none⟩, ⟨(some 3), (.mov (.t 7)), none⟩]) .ret))⟩
def x_cast_Honest : RFunc := ⟨21, [(.tmp 4)], (.seq (.region false [⟨(some 2), (.box (.t 0)), none⟩, ⟨(some 4), (.mov (.c (.bool false))), none⟩]) (.seq (.region false [⟨(some 5), (.ld true 2 (.t 2)), none⟩, ⟨(some 6), (.call n_cast_Valid [(.t 5)]), none⟩, ⟨(some 7), (.bin .eql (.t 6) (.c (.int .i64 0))), none⟩, ⟨(some 8), (.mov (.t 7)), none⟩, ⟨(some 9), (.faddr 0 (.t 2)), (some (8, true))⟩, ⟨(some 10), (.ld false 1 (.t 9)), (some (8, true))⟩, ⟨(some 11), (.mov (.t 1)), (some (8, true))⟩, ⟨(some 12), (.call n_slices_Contains_string [(.t 10), (.t 11)]), (some (8, true))⟩, ⟨(some 13), (.pick (.t 8) (.t 12) (.c (.bool false))), none⟩, ⟨(some 14), (.mov (.t 13)), none⟩, ⟨(some 15), (.faddr 1 (.t 2)), (some (14, true))⟩, ⟨(some 16), (.ld false 1 (.t 15)), (some (14, true))⟩, ⟨(some 17), (.mov (.t 1)), (some (14, true))⟩, ⟨(some 18), (.call n_slices_Contains_string [(.t 16), (.t 17)]), (some (14, true))⟩, ⟨(some 19), (.un .not (.t 18)), (some (14, true))⟩, ⟨(some 20), (.pick (.t 14) (.t 19) (.c (.bool false))), none⟩, ⟨(some 4), (.mov (.t 20)), none⟩]) .ret))⟩
def x_ref15_Honest : RFunc := ⟨22, [(.tmp 4)], (.seq (.region false [⟨(some 2), (.box (.t 0)), none⟩, ⟨(some 4), (.mov (.c (.bool false))), none⟩]) (.seq (.region false [⟨(some 5), (.ld true 2 (.t 2)), none⟩, ⟨(some 6), (.call n_ref15_Valid [(.t 5)]), none⟩, ⟨(some 7), (.bin .eql (.t 6) (.c (.int .i64 0))), none⟩, ⟨(some 8), (.mov (.t 7)), none⟩, ⟨(some 9), (.faddr 0 (.t 2)), (some (8, true))⟩, ⟨(some 10), (.ld false 1 (.t 9)), (some (8, true))⟩, ⟨(some 11), (.mov (.t 1)), (some (8, true))⟩, ⟨(some 12), (.call n_ref15_find [(.t 10), (.t 11)]), (some (8, true))⟩, ⟨(some 13), (.bin .geq (.t 12) (.c (.int .i64 0))), (some (8, true))⟩, ⟨(some 14), (.pick (.t 8) (.t 13) (.c (.bool false))), none⟩, ⟨(some 15), (.mov (.t 14)), none⟩, ⟨(some 16), (.faddr 1 (.t 2)), (some (15, true))⟩, ⟨(some 17), (.ld false 1 (.t 16)), (some (15, true))⟩, ⟨(some 18), (.mov (.t 1)), (some (15, true))⟩, ⟨(some 19), (.call n_ref15_find [(.t 17), (.t 18)]), (some (15, true))⟩, ⟨(some 20), (.bin .lss (.t 19) (.c (.int .i64 0))), (some (15, true))⟩, ⟨(some 21), (.pick (.t 15) (.t 20) (.c (.bool false))), none⟩, ⟨(some 4), (.mov (.t 21)), none⟩]) .ret))⟩
def x_ref01_Atom : RFunc := ⟨8, [(.cell 4 true 4)], (.seq (.region false [⟨(some 4), (.alloc (.agg [(.int .i64 0), (.str (bs [])), (.int .i64 0), (.vs true 0 [])])), none⟩]) (.seq (.region false [⟨(some 5), (.mov (.t 0)), none⟩, ⟨(some 6), (.mov (.t 1)), none⟩, ⟨(some 7), (.build (.agg [(.int .i64 0), (.str (bs [])), (.int .i64 0), (.vs true 0 [])]) [(0, (1, (.c (.int .i64 2)))), (1, (1, (.t 5))), (2, (1, (.t 6)))]), none⟩, ⟨none, (.st 4 (.t 4) (.t 7)), none⟩]) .ret))⟩
def x_ref01_budget_0 : RCode := (.seq (.seq (.region false [⟨(some 16), (.mov (.t 5)), none⟩, ⟨(some 17), (.faddr 3 (.t 2)), none⟩, ⟨(some 18), (.ld false 1 (.t 17)), none⟩, ⟨(some 19), (.len false (.t 18)), none⟩, ⟨(some 20), (.bin .lss (.t 16) (.t 19)), none⟩]) (.cond (.t 20) .skip (.exit 0))) (.seq (.block 1 (.seq (.region false [⟨(some 23), (.faddr 3 (.t 2)), none⟩, ⟨(some 24), (.ld false 1 (.t 23)), none⟩, ⟨(some 25), (.mov (.t 5)), none⟩, ⟨(some 26), (.iaddr 4 (.t 24) (.t 25)), none⟩, ⟨(some 27), (.ld true 4 (.t 26)), none⟩, ⟨(some 28), (.mov (.t 1)), none⟩, ⟨(some 29), (.call n_ref01_budget [(.t 27), (.t 28)]), none⟩, ⟨(some 1), (.mov (.t 29)), none⟩]) (.seq (.region false [⟨(some 30), (.mov (.t 1)), none⟩, ⟨(some 31), (.bin .lss (.t 30) (.c (.int .i64 0))), none⟩]) (.cond (.t 31) (.seq (.region false [⟨(some 4), (.mov (.c (.int .i64 (-1)))), none⟩]) .ret) .skip)))) (.region false [⟨(some 21), (.mov (.t 5)), none⟩, ⟨(some 22), (.bin .add (.t 21) (.c (.int .i64 1))), none⟩, ⟨(some 5), (.mov (.t 22)), none⟩])))
def x_ref01_budget : RFunc := ⟨33, [(.tmp 4)], (.seq (.region false [⟨(some 2), (.box (.t 0)), none⟩, ⟨(some 4), (.mov (.c (.int .i64 0))), none⟩]) (.seq (.seq (.region false [⟨(some 6), (.mov (.t 1)), none⟩, ⟨(some 7), (.bin .leq (.t 6) (.c (.int .i64 0))), none⟩, ⟨(some 8), (.mov (.t 7)), none⟩, ⟨(some 9), (.faddr 1 (.t 2)), (some (8, false))⟩, ⟨(some 10), (.ld false 1 (.t 9)), (some (8, false))⟩, ⟨(some 11), (.len true (.t 10)), (some (8, false))⟩, ⟨(some 12), (.bin .gtr (.t 11) (.c (.int .i64 40))), (some (8, false))⟩, ⟨(some 13), (.pick (.t 8) (.c (.bool true)) (.t 12)), none⟩]) (.cond (.t 13) (.seq (.region false [⟨(some 4), (.mov (.c (.int .i64 (-1)))), none⟩]) .ret) .skip)) (.seq (.region false [⟨(some 14), (.mov (.t 1)), none⟩, ⟨(some 15), (.bin .sub (.t 14) (.c (.int .i64 1))), none⟩, ⟨(some 1), (.mov (.t 15)), none⟩]) (.seq (.seq (.region false [⟨(some 5), (.mov (.c (.int .i64 0))), none⟩]) (.block 0 (.loop x_ref01_budget_0))) (.seq (.region false [⟨(some 32), (.mov (.t 1)), none⟩, ⟨(some 4), (.mov (.t 32)), none⟩]) .ret)))))⟩
def x_slices_Index_int_0 : RCode := (.seq (.region false [⟨(some 9), (.bin .lss (.t 8) (.t 7)), none⟩]) (.seq (.cond (.t 9) .skip (.exit 0)) (.seq (.block 1 (.seq (.region false [⟨(some 10), (.mov (.t 8)), none⟩, ⟨(some 5), (.mov (.t 10)), none⟩]) (.seq (.region false [⟨(some 11), (.mov (.t 1)), none⟩, ⟨(some 12), (.mov (.t 0)), none⟩, ⟨(some 13), (.mov (.t 5)), none⟩, ⟨(some 14), (.iaddr 1 (.t 12) (.t 13)), none⟩, ⟨(some 15), (.ld false 1 (.t 14)), none⟩, ⟨(some 16), (.bin .eql (.t 11) (.t 15)), none⟩]) (.cond (.t 16) (.seq (.region false [⟨(some 17), (.mov (.t 5)), none⟩, ⟨(some 4), (.mov (.t 17)), none⟩]) .ret) .skip)))) (.region false [⟨(some 18), (.bin .add (.t 8) (.c (.int .i64 1))), none⟩, ⟨(some 8), (.mov (.t 18)), none⟩]))))
def x_slices_Index_int : RFunc := ⟨19, [(.tmp 4)], (.seq (.region false [⟨(some 4), (.mov (.c (.int .i64 0))), none⟩]) (.seq (.seq (.region false [⟨(some 6), (.mov (.t 0)), none⟩, ⟨(some 7), (.len false (.t 6)), none⟩, ⟨(some 8), (.mov (.c (.int .i64 0))), none⟩]) (.block 0 (.loop x_slices_Index_int_0))) (.seq (.region false [⟨(some 4), (.mov (.c (.int .i64 (-1)))), none⟩]) .ret)))⟩
def x_slices_EqualFunc_Term_0 : RCode := (.seq (.region false [⟨(some 18), (.bin .lss (.t 17) (.t 16)), none⟩]) (.seq (.cond (.t 18) .skip (.exit 0)) (.seq (.block 1 (.seq (.region false [⟨(some 19), (.mov (.t 17)), none⟩, ⟨(some 20), (.iaddr 4 (.t 15) (.t 17)), none⟩, ⟨(some 21), (.ld true 4 (.t 20)), none⟩, ⟨(some 8), (.alloc (.agg [(.int .i64 0), (.str (bs [])), (.int .i64 0), (.vs true 0 [])])), none⟩, ⟨(some 7), (.mov (.t 19)), none⟩, ⟨none, (.st 4 (.t 8) (.t 21)), none⟩]) (.seq (.region false [⟨(some 22), (.mov (.t 1)), none⟩, ⟨(some 23), (.mov (.t 7)), none⟩, ⟨(some 24), (.iaddr 4 (.t 22) (.t 23)), none⟩, ⟨(some 25), (.ld true 4 (.t 24)), none⟩, ⟨(some 9), (.alloc (.agg [(.int .i64 0), (.str (bs [])), (.int .i64 0), (.vs true 0 [])])), none⟩, ⟨none, (.st 4 (.t 9) (.t 25)), none⟩]) (.seq (.region false [⟨(some 26), (.mov (.t 2)), none⟩, ⟨(some 27), (.ld true 4 (.t 8)), none⟩, ⟨(some 28), (.ld true 4 (.t 9)), none⟩, ⟨(some 29), (.callv (.t 26) [(.t 27), (.t 28)]), none⟩, ⟨(some 30), (.un .not (.t 29)), none⟩]) (.cond (.t 30) (.seq (.region false [⟨(some 6), (.mov (.c (.bool false))), none⟩]) .ret) .skip))))) (.region false [⟨(some 31), (.bin .add (.t 17) (.c (.int .i64 1))), none⟩, ⟨(some 17), (.mov (.t 31)), none⟩]))))
def x_slices_EqualFunc_Term : RFunc := ⟨32, [(.tmp 6)], (.seq (.region false [⟨(some 6), (.mov (.c (.bool false))), none⟩]) (.seq (.seq (.region false [⟨(some 10), (.mov (.t 0)), none⟩, ⟨(some 11), (.len false (.t 10)), none⟩, ⟨(some 12), (.mov (.t 1)), none⟩, ⟨(some 13), (.len false (.t 12)), none⟩, ⟨(some 14), (.bin .neq (.t 11) (.t 13)), none⟩]) (.cond (.t 14) (.seq (.region false [⟨(some 6), (.mov (.c (.bool false))), none⟩]) .ret) .skip)) (.seq (.seq (.region false [⟨(some 15), (.mov (.t 0)), none⟩, ⟨(some 16), (.len false (.t 15)), none⟩, ⟨(some 17), (.mov (.c (.int .i64 0))), none⟩]) (.block 0 (.loop x_slices_EqualFunc_Term_0))) (.seq (.region false [⟨(some 6), (.mov (.c (.bool true))), none⟩]) .ret))))⟩
def x_goal_equal_1 : RFunc := ⟨9, [(.tmp 4)], (.seq (.region false [⟨(some 2), (.box (.t 0)), none⟩, ⟨(some 3), (.box (.t 1)), none⟩, ⟨(some 4), (.mov (.c (.bool false))), none⟩]) (.seq (.region false [⟨(some 5), (.ld true 4 (.t 2)), none⟩, ⟨(some 6), (.ld true 4 (.t 3)), none⟩, ⟨(some 7), (.call n_term_Compare [(.t 5), (.t 6)]), none⟩, ⟨(some 8), (.bin .eql (.t 7) (.c (.int .i64 0))), none⟩, ⟨(some 4), (.mov (.t 8)), none⟩]) .ret))⟩
def x_term_Compare_0 : RCode := (.seq (.seq (.region false [⟨(some 42), (.mov (.t 5)), none⟩, ⟨(some 43), (.bin .eql (.t 42) (.c (.int .i64 0))), none⟩, ⟨(some 44), (.mov (.t 43)), none⟩, ⟨(some 45), (.mov (.t 6)), (some (44, true))⟩, ⟨(some 46), (.faddr 3 (.t 2)), (some (44, true))⟩, ⟨(some 47), (.ld false 1 (.t 46)), (some (44, true))⟩, ⟨(some 48), (.len false (.t 47)), (some (44, true))⟩, ⟨(some 49), (.bin .lss (.t 45) (.t 48)), (some (44, true))⟩, ⟨(some 50), (.pick (.t 44) (.t 49) (.c (.bool false))), none⟩]) (.cond (.t 50) .skip (.exit 0))) (.seq (.block 1 (.region true [⟨(some 53), (.faddr 3 (.t 2)), none⟩, ⟨(some 54), (.ld false 1 (.t 53)), none⟩, ⟨(some 55), (.mov (.t 6)), none⟩, ⟨(some 56), (.iaddr 4 (.t 54) (.t 55)), none⟩, ⟨(some 57), (.ld true 4 (.t 56)), none⟩, ⟨(some 58), (.faddr 3 (.t 3)), none⟩, ⟨(some 59), (.ld false 1 (.t 58)), none⟩, ⟨(some 60), (.mov (.t 6)), none⟩, ⟨(some 61), (.iaddr 4 (.t 59) (.t 60)), none⟩, ⟨(some 62), (.ld true 4 (.t 61)), none⟩, ⟨(some 63), (.call n_term_Compare [(.t 57), (.t 62)]), none⟩, ⟨(some 5), (.mov (.t 63)), none⟩])) (.region false [⟨(some 51), (.mov (.t 6)), none⟩, ⟨(some 52), (.bin .add (.t 51) (.c (.int .i64 1))), none⟩, ⟨(some 6), (.mov (.t 52)), none⟩])))
def x_term_Compare : RFunc := ⟨65, [(.tmp 4)], (.seq (.region false [⟨(some 2), (.box (.t 0)), none⟩, ⟨(some 3), (.box (.t 1)), none⟩, ⟨(some 4), (.mov (.c (.int .i64 0))), none⟩]) (.seq (.region true [⟨(some 7), (.ld true 4 (.t 2)), none⟩, ⟨(some 8), (.call n_term_Size [(.t 7)]), none⟩, ⟨(some 9), (.ld true 4 (.t 3)), none⟩, ⟨(some 10), (.call n_term_Size [(.t 9)]), none⟩, ⟨(some 11), (.call n_term_sign [(.t 8), (.t 10)]), none⟩, ⟨(some 5), (.mov (.t 11)), none⟩]) (.seq (.seq (.region false [⟨(some 12), (.mov (.t 5)), none⟩, ⟨(some 13), (.bin .eql (.t 12) (.c (.int .i64 0))), none⟩]) (.cond (.t 13) (.region false [⟨(some 14), (.faddr 0 (.t 2)), none⟩, ⟨(some 15), (.ld false 1 (.t 14)), none⟩, ⟨(some 16), (.faddr 0 (.t 3)), none⟩, ⟨(some 17), (.ld false 1 (.t 16)), none⟩, ⟨(some 18), (.call n_term_sign [(.t 15), (.t 17)]), none⟩, ⟨(some 5), (.mov (.t 18)), none⟩]) .skip)) (.seq (.seq (.region false [⟨(some 19), (.mov (.t 5)), none⟩, ⟨(some 20), (.bin .eql (.t 19) (.c (.int .i64 0))), none⟩]) (.cond (.t 20) (.region false [⟨(some 21), (.faddr 1 (.t 2)), none⟩, ⟨(some 22), (.ld false 1 (.t 21)), none⟩, ⟨(some 23), (.faddr 1 (.t 3)), none⟩, ⟨(some 24), (.ld false 1 (.t 23)), none⟩, ⟨(some 25), (.call n_strings_Compare [(.t 22), (.t 24)]), none⟩, ⟨(some 5), (.mov (.t 25)), none⟩]) .skip)) (.seq (.seq (.region false [⟨(some 26), (.mov (.t 5)), none⟩, ⟨(some 27), (.bin .eql (.t 26) (.c (.int .i64 0))), none⟩]) (.cond (.t 27) (.region false [⟨(some 28), (.faddr 2 (.t 2)), none⟩, ⟨(some 29), (.ld false 1 (.t 28)), none⟩, ⟨(some 30), (.faddr 2 (.t 3)), none⟩, ⟨(some 31), (.ld false 1 (.t 30)), none⟩, ⟨(some 32), (.call n_term_sign [(.t 29), (.t 31)]), none⟩, ⟨(some 5), (.mov (.t 32)), none⟩]) .skip)) (.seq (.seq (.region false [⟨(some 33), (.mov (.t 5)), none⟩, ⟨(some 34), (.bin .eql (.t 33) (.c (.int .i64 0))), none⟩]) (.cond (.t 34) (.region false [⟨(some 35), (.faddr 3 (.t 2)), none⟩, ⟨(some 36), (.ld false 1 (.t 35)), none⟩, ⟨(some 37), (.len false (.t 36)), none⟩, ⟨(some 38), (.faddr 3 (.t 3)), none⟩, ⟨(some 39), (.ld false 1 (.t 38)), none⟩, ⟨(some 40), (.len false (.t 39)), none⟩, ⟨(some 41), (.call n_term_sign [(.t 37), (.t 40)]), none⟩, ⟨(some 5), (.mov (.t 41)), none⟩]) .skip)) (.seq (.seq (.region false [⟨(some 6), (.mov (.c (.int .i64 0))), none⟩]) (.block 0 (.loop x_term_Compare_0))) (.seq (.region false [⟨(some 64), (.mov (.t 5)), none⟩, ⟨(some 4), (.mov (.t 64)), none⟩]) .ret))))))))⟩
def x_ref01_Lists_0 : RCode := (.seq (.seq (.region false [⟨(some 11), (.mov (.t 5)), none⟩, ⟨(some 12), (.mov (.t 0)), none⟩, ⟨(some 13), (.len false (.t 12)), none⟩, ⟨(some 14), (.bin .lss (.t 11) (.t 13)), none⟩]) (.cond (.t 14) .skip (.exit 0))) (.seq (.block 1 (.seq (.region true [⟨(some 17), (.mov (.t 0)), none⟩, ⟨(some 18), (.mov (.t 5)), none⟩, ⟨(some 19), (.iaddr 4 (.t 17) (.t 18)), none⟩, ⟨(some 20), (.ld true 4 (.t 19)), none⟩, ⟨(some 21), (.mov (.t 1)), none⟩, ⟨(some 22), (.mov (.t 5)), none⟩, ⟨(some 23), (.iaddr 4 (.t 21) (.t 22)), none⟩, ⟨(some 24), (.ld true 4 (.t 23)), none⟩, ⟨(some 25), (.call n_ref01_Same [(.t 20), (.t 24)]), none⟩, ⟨(some 26), (.un .not (.t 25)), none⟩]) (.cond (.t 26) (.seq (.region false [⟨(some 4), (.mov (.c (.bool false))), none⟩]) .ret) .skip))) (.region false [⟨(some 15), (.mov (.t 5)), none⟩, ⟨(some 16), (.bin .add (.t 15) (.c (.int .i64 1))), none⟩, ⟨(some 5), (.mov (.t 16)), none⟩])))
def x_ref01_Lists : RFunc := ⟨27, [(.tmp 4)], (.seq (.region false [⟨(some 4), (.mov (.c (.bool false))), none⟩]) (.seq (.seq (.region false [⟨(some 6), (.mov (.t 0)), none⟩, ⟨(some 7), (.len false (.t 6)), none⟩, ⟨(some 8), (.mov (.t 1)), none⟩, ⟨(some 9), (.len false (.t 8)), none⟩, ⟨(some 10), (.bin .neq (.t 7) (.t 9)), none⟩]) (.cond (.t 10) (.seq (.region false [⟨(some 4), (.mov (.c (.bool false))), none⟩]) .ret) .skip)) (.seq (.seq (.region false [⟨(some 5), (.mov (.c (.int .i64 0))), none⟩]) (.block 0 (.loop x_ref01_Lists_0))) (.seq (.region false [⟨(some 4), (.mov (.c (.bool true))), none⟩]) .ret))))⟩
def x_slices_IndexFunc_string_0 : RCode := (.seq (.region false [⟨(some 9), (.bin .lss (.t 8) (.t 7)), none⟩]) (.seq (.cond (.t 9) .skip (.exit 0)) (.seq (.block 1 (.seq (.region false [⟨(some 10), (.mov (.t 8)), none⟩, ⟨(some 5), (.mov (.t 10)), none⟩]) (.seq (.region false [⟨(some 11), (.mov (.t 1)), none⟩, ⟨(some 12), (.mov (.t 0)), none⟩, ⟨(some 13), (.mov (.t 5)), none⟩, ⟨(some 14), (.iaddr 1 (.t 12) (.t 13)), none⟩, ⟨(some 15), (.ld false 1 (.t 14)), none⟩, ⟨(some 16), (.callv (.t 11) [(.t 15)]), none⟩]) (.cond (.t 16) (.seq (.region false [⟨(some 17), (.mov (.t 5)), none⟩, ⟨(some 4), (.mov (.t 17)), none⟩]) .ret) .skip)))) (.region false [⟨(some 18), (.bin .add (.t 8) (.c (.int .i64 1))), none⟩, ⟨(some 8), (.mov (.t 18)), none⟩]))))
def x_slices_IndexFunc_string : RFunc := ⟨19, [(.tmp 4)], (.seq (.region false [⟨(some 4), (.mov (.c (.int .i64 0))), none⟩]) (.seq (.seq (.region false [⟨(some 6), (.mov (.t 0)), none⟩, ⟨(some 7), (.len false (.t 6)), none⟩, ⟨(some 8), (.mov (.c (.int .i64 0))), none⟩]) (.block 0 (.loop x_slices_IndexFunc_string_0))) (.seq (.region false [⟨(some 4), (.mov (.c (.int .i64 (-1)))), none⟩]) .ret)))⟩
def x_cast_Valid_0 : RCode := (.seq (.region false [⟨(some 46), (.bin .lss (.t 45) (.t 44)), none⟩]) (.seq (.cond (.t 46) .skip (.exit 3)) (.seq (.block 4 (.seq (.region false [⟨(some 47), (.iaddr 1 (.t 43) (.t 45)), none⟩, ⟨(some 48), (.ld false 1 (.t 47)), none⟩, ⟨(some 7), (.mov (.t 48)), none⟩]) (.seq (.region false [⟨(some 49), (.faddr 0 (.t 1)), none⟩, ⟨(some 50), (.ld false 1 (.t 49)), none⟩, ⟨(some 51), (.mov (.t 7)), none⟩, ⟨(some 52), (.call n_slices_Index_string [(.t 50), (.t 51)]), none⟩, ⟨(some 8), (.mov (.t 52)), none⟩]) (.seq (.seq (.region false [⟨(some 53), (.mov (.t 8)), none⟩, ⟨(some 54), (.bin .lss (.t 53) (.c (.int .i64 0))), none⟩]) (.cond (.t 54) (.seq (.region false [⟨(some 2), (.mov (.c (.int .i64 4))), none⟩]) .ret) .skip)) (.seq (.seq (.region false [⟨(some 55), (.mov (.t 8)), none⟩, ⟨(some 56), (.mov (.t 5)), none⟩, ⟨(some 57), (.bin .leq (.t 55) (.t 56)), none⟩]) (.cond (.t 57) (.seq (.region false [⟨(some 2), (.mov (.c (.int .i64 5))), none⟩]) .ret) .skip)) (.region false [⟨(some 58), (.mov (.t 8)), none⟩, ⟨(some 5), (.mov (.t 58)), none⟩])))))) (.region false [⟨(some 59), (.bin .add (.t 45) (.c (.int .i64 1))), none⟩, ⟨(some 45), (.mov (.t 59)), none⟩]))))
def x_cast_Valid_1 : RCode := (.seq (.region false [⟨(some 23), (.bin .lss (.t 22) (.t 21)), none⟩]) (.seq (.cond (.t 23) .skip (.exit 1)) (.seq (.block 2 (.seq (.region false [⟨(some 24), (.mov (.t 22)), none⟩, ⟨(some 25), (.iaddr 1 (.t 20) (.t 22)), none⟩, ⟨(some 26), (.ld false 1 (.t 25)), none⟩, ⟨(some 3), (.mov (.t 24)), none⟩, ⟨(some 4), (.mov (.t 26)), none⟩]) (.seq (.seq (.region false [⟨(some 27), (.mov (.t 4)), none⟩, ⟨(some 28), (.call n_cast_agent [(.t 27)]), none⟩, ⟨(some 29), (.call n_term_Valid [(.t 28)]), none⟩, ⟨(some 30), (.bin .neq (.t 29) (.c (.int .i64 0))), none⟩, ⟨(some 31), (.mov (.t 30)), none⟩, ⟨(some 32), (.mov (.t 4)), (some (31, false))⟩, ⟨(some 33), (.call n_strings_Contains [(.t 32), (.c (.str (bs [35])))]), (some (31, false))⟩, ⟨(some 34), (.pick (.t 31) (.c (.bool true)) (.t 33)), none⟩]) (.cond (.t 34) (.seq (.region false [⟨(some 2), (.mov (.c (.int .i64 2))), none⟩]) .ret) .skip)) (.seq (.region false [⟨(some 35), (.faddr 0 (.t 1)), none⟩, ⟨(some 36), (.ld false 1 (.t 35)), none⟩, ⟨(some 37), (.mov (.t 3)), none⟩, ⟨(some 38), (.slc 1 (.t 36) none (some (.t 37)) none), none⟩, ⟨(some 39), (.mov (.t 4)), none⟩, ⟨(some 40), (.call n_slices_Contains_string [(.t 38), (.t 39)]), none⟩]) (.cond (.t 40) (.seq (.region false [⟨(some 2), (.mov (.c (.int .i64 5))), none⟩]) .ret) .skip))))) (.region false [⟨(some 41), (.bin .add (.t 22) (.c (.int .i64 1))), none⟩, ⟨(some 22), (.mov (.t 41)), none⟩]))))
def x_cast_Valid : RFunc := ⟨60, [(.tmp 2)], (.seq (.region false [⟨(some 1), (.box (.t 0)), none⟩, ⟨(some 2), (.mov (.c (.int .i64 0))), none⟩]) (.seq (.block 0 (.seq (.region false [⟨(some 10), (.faddr 0 (.t 1)), none⟩, ⟨(some 11), (.ld false 1 (.t 10)), none⟩, ⟨(some 12), (.len false (.t 11)), none⟩, ⟨(some 13), (.bin .eql (.t 12) (.c (.int .i64 0))), none⟩, ⟨(some 9), (.mov (.t 13)), none⟩]) (.cond (.t 9) (.seq (.region false [⟨(some 2), (.mov (.c (.int .i64 8))), none⟩]) .ret) (.seq (.region false [⟨(some 15), (.faddr 0 (.t 1)), none⟩, ⟨(some 16), (.ld false 1 (.t 15)), none⟩, ⟨(some 17), (.len false (.t 16)), none⟩, ⟨(some 18), (.bin .gtr (.t 17) (.c (.int .i64 6))), none⟩, ⟨(some 14), (.mov (.t 18)), none⟩]) (.cond (.t 14) (.seq (.region false [⟨(some 2), (.mov (.c (.int .i64 3))), none⟩]) .ret) .skip))))) (.seq (.seq (.region false [⟨(some 19), (.faddr 0 (.t 1)), none⟩, ⟨(some 20), (.ld false 1 (.t 19)), none⟩, ⟨(some 21), (.len false (.t 20)), none⟩, ⟨(some 22), (.mov (.c (.int .i64 0))), none⟩]) (.block 1 (.loop x_cast_Valid_1))) (.seq (.region false [⟨(some 5), (.mov (.c (.int .i64 (-1)))), none⟩]) (.seq (.seq (.region false [⟨(some 42), (.faddr 1 (.t 1)), none⟩, ⟨(some 43), (.ld false 1 (.t 42)), none⟩, ⟨(some 44), (.len false (.t 43)), none⟩, ⟨(some 45), (.mov (.c (.int .i64 0))), none⟩]) (.block 3 (.loop x_cast_Valid_0))) (.seq (.region false [⟨(some 2), (.mov (.c (.int .i64 0))), none⟩]) .ret))))))⟩
def x_slices_Contains_string : RFunc := ⟨9, [(.tmp 4)], (.seq (.region false [⟨(some 4), (.mov (.c (.bool false))), none⟩]) (.seq (.region false [⟨(some 5), (.mov (.t 0)), none⟩, ⟨(some 6), (.mov (.t 1)), none⟩, ⟨(some 7), (.call n_slices_Index_string [(.t 5), (.t 6)]), none⟩, ⟨(some 8), (.bin .geq (.t 7) (.c (.int .i64 0))), none⟩, ⟨(some 4), (.mov (.t 8)), none⟩]) .ret))⟩
def x_ref15_Valid_0 : RCode := (.seq (.seq (.region false [⟨(some 48), (.mov (.t 5)), none⟩, ⟨(some 49), (.faddr 1 (.t 1)), none⟩, ⟨(some 50), (.ld false 1 (.t 49)), none⟩, ⟨(some 51), (.len false (.t 50)), none⟩, ⟨(some 52), (.bin .lss (.t 48) (.t 51)), none⟩]) (.cond (.t 52) .skip (.exit 2))) (.seq (.block 3 (.seq (.region true [⟨(some 55), (.faddr 0 (.t 1)), none⟩, ⟨(some 56), (.ld false 1 (.t 55)), none⟩, ⟨(some 57), (.faddr 1 (.t 1)), none⟩, ⟨(some 58), (.ld false 1 (.t 57)), none⟩, ⟨(some 59), (.mov (.t 5)), none⟩, ⟨(some 60), (.iaddr 1 (.t 58) (.t 59)), none⟩, ⟨(some 61), (.ld false 1 (.t 60)), none⟩, ⟨(some 62), (.call n_ref15_find [(.t 56), (.t 61)]), none⟩, ⟨(some 6), (.mov (.t 62)), none⟩]) (.seq (.seq (.region false [⟨(some 63), (.mov (.t 6)), none⟩, ⟨(some 64), (.bin .lss (.t 63) (.c (.int .i64 0))), none⟩]) (.cond (.t 64) (.seq (.region false [⟨(some 2), (.mov (.c (.int .i64 4))), none⟩]) .ret) .skip)) (.seq (.seq (.region false [⟨(some 65), (.mov (.t 6)), none⟩, ⟨(some 66), (.mov (.t 4)), none⟩, ⟨(some 67), (.bin .leq (.t 65) (.t 66)), none⟩]) (.cond (.t 67) (.seq (.region false [⟨(some 2), (.mov (.c (.int .i64 5))), none⟩]) .ret) .skip)) (.region false [⟨(some 68), (.mov (.t 6)), none⟩, ⟨(some 4), (.mov (.t 68)), none⟩]))))) (.region false [⟨(some 53), (.mov (.t 5)), none⟩, ⟨(some 54), (.bin .add (.t 53) (.c (.int .i64 1))), none⟩, ⟨(some 5), (.mov (.t 54)), none⟩])))
def x_ref15_Valid_1 : RCode := (.seq (.seq (.region false [⟨(some 15), (.mov (.t 3)), none⟩, ⟨(some 16), (.faddr 0 (.t 1)), none⟩, ⟨(some 17), (.ld false 1 (.t 16)), none⟩, ⟨(some 18), (.len false (.t 17)), none⟩, ⟨(some 19), (.bin .lss (.t 15) (.t 18)), none⟩]) (.cond (.t 19) .skip (.exit 0))) (.seq (.block 1 (.seq (.seq (.region false [⟨(some 22), (.faddr 0 (.t 1)), none⟩, ⟨(some 23), (.ld false 1 (.t 22)), none⟩, ⟨(some 24), (.mov (.t 3)), none⟩, ⟨(some 25), (.iaddr 1 (.t 23) (.t 24)), none⟩, ⟨(some 26), (.ld false 1 (.t 25)), none⟩, ⟨(some 27), (.call n_ref01_IsName [(.t 26)]), none⟩, ⟨(some 28), (.un .not (.t 27)), none⟩, ⟨(some 29), (.mov (.t 28)), none⟩, ⟨(some 30), (.faddr 0 (.t 1)), (some (29, false))⟩, ⟨(some 31), (.ld false 1 (.t 30)), (some (29, false))⟩, ⟨(some 32), (.mov (.t 3)), (some (29, false))⟩, ⟨(some 33), (.iaddr 1 (.t 31) (.t 32)), (some (29, false))⟩, ⟨(some 34), (.ld false 1 (.t 33)), (some (29, false))⟩, ⟨(some 35), (.call n_ref15_hash [(.t 34)]), (some (29, false))⟩, ⟨(some 36), (.pick (.t 29) (.c (.bool true)) (.t 35)), none⟩]) (.cond (.t 36) (.seq (.region false [⟨(some 2), (.mov (.c (.int .i64 2))), none⟩]) .ret) .skip)) (.seq (.region true [⟨(some 37), (.faddr 0 (.t 1)), none⟩, ⟨(some 38), (.ld false 1 (.t 37)), none⟩, ⟨(some 39), (.mov (.t 3)), none⟩, ⟨(some 40), (.slc 1 (.t 38) none (some (.t 39)) none), none⟩, ⟨(some 41), (.faddr 0 (.t 1)), none⟩, ⟨(some 42), (.ld false 1 (.t 41)), none⟩, ⟨(some 43), (.mov (.t 3)), none⟩, ⟨(some 44), (.iaddr 1 (.t 42) (.t 43)), none⟩, ⟨(some 45), (.ld false 1 (.t 44)), none⟩, ⟨(some 46), (.call n_ref15_find [(.t 40), (.t 45)]), none⟩, ⟨(some 47), (.bin .geq (.t 46) (.c (.int .i64 0))), none⟩]) (.cond (.t 47) (.seq (.region false [⟨(some 2), (.mov (.c (.int .i64 5))), none⟩]) .ret) .skip)))) (.region false [⟨(some 20), (.mov (.t 3)), none⟩, ⟨(some 21), (.bin .add (.t 20) (.c (.int .i64 1))), none⟩, ⟨(some 3), (.mov (.t 21)), none⟩])))
def x_ref15_Valid : RFunc := ⟨69, [(.tmp 2)], (.seq (.region false [⟨(some 1), (.box (.t 0)), none⟩, ⟨(some 2), (.mov (.c (.int .i64 0))), none⟩]) (.seq (.seq (.region false [⟨(some 7), (.faddr 0 (.t 1)), none⟩, ⟨(some 8), (.ld false 1 (.t 7)), none⟩, ⟨(some 9), (.len false (.t 8)), none⟩, ⟨(some 10), (.bin .eql (.t 9) (.c (.int .i64 0))), none⟩]) (.cond (.t 10) (.seq (.region false [⟨(some 2), (.mov (.c (.int .i64 8))), none⟩]) .ret) .skip)) (.seq (.seq (.region false [⟨(some 11), (.faddr 0 (.t 1)), none⟩, ⟨(some 12), (.ld false 1 (.t 11)), none⟩, ⟨(some 13), (.len false (.t 12)), none⟩, ⟨(some 14), (.bin .gtr (.t 13) (.c (.int .i64 6))), none⟩]) (.cond (.t 14) (.seq (.region false [⟨(some 2), (.mov (.c (.int .i64 3))), none⟩]) .ret) .skip)) (.seq (.seq (.region false [⟨(some 3), (.mov (.c (.int .i64 0))), none⟩]) (.block 0 (.loop x_ref15_Valid_1))) (.seq (.region false [⟨(some 4), (.mov (.c (.int .i64 (-1)))), none⟩]) (.seq (.seq (.region false [⟨(some 5), (.mov (.c (.int .i64 0))), none⟩]) (.block 2 (.loop x_ref15_Valid_0))) (.seq (.region false [⟨(some 2), (.mov (.c (.int .i64 0))), none⟩]) .ret)))))))⟩
def x_ref15_find_0 : RCode := (.seq (.seq (.region false [⟨(some 6), (.mov (.t 5)), none⟩, ⟨(some 7), (.mov (.t 0)), none⟩, ⟨(some 8), (.len false (.t 7)), none⟩, ⟨(some 9), (.bin .lss (.t 6) (.t 8)), none⟩]) (.cond (.t 9) .skip (.exit 0))) (.seq (.block 1 (.seq (.region false [⟨(some 12), (.mov (.t 0)), none⟩, ⟨(some 13), (.mov (.t 5)), none⟩, ⟨(some 14), (.iaddr 1 (.t 12) (.t 13)), none⟩, ⟨(some 15), (.ld false 1 (.t 14)), none⟩, ⟨(some 16), (.mov (.t 1)), none⟩, ⟨(some 17), (.bin .eql (.t 15) (.t 16)), none⟩]) (.cond (.t 17) (.seq (.region false [⟨(some 18), (.mov (.t 5)), none⟩, ⟨(some 4), (.mov (.t 18)), none⟩]) .ret) .skip))) (.region false [⟨(some 10), (.mov (.t 5)), none⟩, ⟨(some 11), (.bin .add (.t 10) (.c (.int .i64 1))), none⟩, ⟨(some 5), (.mov (.t 11)), none⟩])))
def x_ref15_find : RFunc := ⟨19, [(.tmp 4)], (.seq (.region false [⟨(some 4), (.mov (.c (.int .i64 0))), none⟩]) (.seq (.seq (.region false [⟨(some 5), (.mov (.c (.int .i64 0))), none⟩]) (.block 0 (.loop x_ref15_find_0))) (.seq (.region false [⟨(some 4), (.mov (.c (.int .i64 (-1)))), none⟩]) .ret)))⟩
def x_term_sign : RFunc := ⟨13, [(.tmp 4)], (.seq (.region false [⟨(some 4), (.mov (.c (.int .i64 0))), none⟩]) (.seq (.block 0 (.seq (.region false [⟨(some 6), (.mov (.t 0)), none⟩, ⟨(some 7), (.mov (.t 1)), none⟩, ⟨(some 8), (.bin .lss (.t 6) (.t 7)), none⟩, ⟨(some 5), (.mov (.t 8)), none⟩]) (.cond (.t 5) (.seq (.region false [⟨(some 4), (.mov (.c (.int .i64 (-1)))), none⟩]) .ret) (.seq (.region false [⟨(some 10), (.mov (.t 0)), none⟩, ⟨(some 11), (.mov (.t 1)), none⟩, ⟨(some 12), (.bin .gtr (.t 10) (.t 11)), none⟩, ⟨(some 9), (.mov (.t 12)), none⟩]) (.cond (.t 9) (.seq (.region false [⟨(some 4), (.mov (.c (.int .i64 1))), none⟩]) .ret) .skip))))) (.seq (.region false [⟨(some 4), (.mov (.c (.int .i64 0))), none⟩]) .ret)))⟩
def x_term_Size_0 : RCode := (.seq (.region false [⟨(some 10), (.bin .lss (.t 9) (.t 8)), none⟩]) (.seq (.cond (.t 10) .skip (.exit 0)) (.seq (.block 1 (.seq (.region false [⟨(some 11), (.iaddr 4 (.t 7) (.t 9)), none⟩, ⟨(some 12), (.ld true 4 (.t 11)), none⟩, ⟨(some 5), (.alloc (.agg [(.int .i64 0), (.str (bs [])), (.int .i64 0), (.vs true 0 [])])), none⟩, ⟨none, (.st 4 (.t 5) (.t 12)), none⟩]) (.region false [⟨(some 13), (.mov (.t 3)), none⟩, ⟨(some 14), (.ld true 4 (.t 5)), none⟩, ⟨(some 15), (.call n_term_Size [(.t 14)]), none⟩, ⟨(some 16), (.bin .add (.t 13) (.t 15)), none⟩, ⟨(some 3), (.mov (.t 16)), none⟩]))) (.region false [⟨(some 17), (.bin .add (.t 9) (.c (.int .i64 1))), none⟩, ⟨(some 9), (.mov (.t 17)), none⟩]))))
def x_term_Size : RFunc := ⟨19, [(.tmp 2)], (.seq (.region false [⟨(some 1), (.box (.t 0)), none⟩, ⟨(some 2), (.mov (.c (.int .i64 0))), none⟩]) (.seq (.region false [⟨(some 3), (.mov (.c (.int .i64 1))), none⟩]) (.seq (.seq (.region false [⟨(some 6), (.faddr 3 (.t 1)), none⟩, ⟨(some 7), (.ld false 1 (.t 6)), none⟩, ⟨(some 8), (.len false (.t 7)), none⟩, ⟨(some 9), (.mov (.c (.int .i64 0))), none⟩]) (.block 0 (.loop x_term_Size_0))) (.seq (.region false [⟨(some 18), (.mov (.t 3)), none⟩, ⟨(some 2), (.mov (.t 18)), none⟩]) .ret))))⟩
def x_strings_Compare : RFunc := ⟨8, [(.tmp 4)], (.seq (.region false [⟨(some 4), (.mov (.c (.int .i64 0))), none⟩]) (.seq (.region false [⟨(some 5), (.mov (.t 0)), none⟩, ⟨(some 6), (.mov (.t 1)), none⟩, ⟨(some 7), (.call n_bytealg_CompareString [(.t 5), (.t 6)]), none⟩, ⟨(some 4), (.mov (.t 7)), none⟩]) .ret))⟩
def x_ref01_Same : RFunc := ⟨9, [(.tmp 4)], (.seq (.region false [⟨(some 2), (.box (.t 0)), none⟩, ⟨(some 3), (.box (.t 1)), none⟩, ⟨(some 4), (.mov (.c (.bool false))), none⟩]) (.seq (.region false [⟨(some 5), (.ld true 4 (.t 2)), none⟩, ⟨(some 6), (.ld true 4 (.t 3)), none⟩, ⟨(some 7), (.call n_ref01_Compare [(.t 5), (.t 6)]), none⟩, ⟨(some 8), (.bin .eql (.t 7) (.c (.int .i64 0))), none⟩, ⟨(some 4), (.mov (.t 8)), none⟩]) .ret))⟩
def x_term_Valid : RFunc := ⟨17, [(.tmp 2)], (.seq (.region false [⟨(some 1), (.box (.t 0)), none⟩, ⟨(some 2), (.mov (.c (.int .i64 0))), none⟩]) (.seq (.region false [⟨(some 3), (.alloc (.int .i64 0)), none⟩, ⟨(some 4), (.alloc (.int .i64 0)), none⟩, ⟨none, (.st 1 (.t 3) (.c (.int .i64 0))), none⟩, ⟨none, (.st 1 (.t 4) (.c (.int .i64 0))), none⟩]) (.seq (.seq (.region false [⟨(some 6), (.ld true 4 (.t 1)), none⟩, ⟨(some 7), (.call n_term_check [(.t 6), (.c (.int .i64 1)), (.t 3), (.t 4)]), none⟩, ⟨(some 5), (.mov (.t 7)), none⟩]) (.seq (.region false [⟨(some 8), (.mov (.t 5)), none⟩, ⟨(some 9), (.bin .neq (.t 8) (.c (.int .i64 0))), none⟩]) (.cond (.t 9) (.seq (.region false [⟨(some 10), (.mov (.t 5)), none⟩, ⟨(some 2), (.mov (.t 10)), none⟩]) .ret) .skip))) (.seq (.seq (.region false [⟨(some 11), (.ld false 1 (.t 3)), none⟩, ⟨(some 12), (.bin .gtr (.t 11) (.c (.int .i64 400))), none⟩, ⟨(some 13), (.mov (.t 12)), none⟩, ⟨(some 14), (.ld false 1 (.t 4)), (some (13, false))⟩, ⟨(some 15), (.bin .gtr (.t 14) (.c (.int .i64 40))), (some (13, false))⟩, ⟨(some 16), (.pick (.t 13) (.c (.bool true)) (.t 15)), none⟩]) (.cond (.t 16) (.seq (.region false [⟨(some 2), (.mov (.c (.int .i64 3))), none⟩]) .ret) .skip)) (.seq (.region false [⟨(some 2), (.mov (.c (.int .i64 0))), none⟩]) .ret)))))⟩
def x_cast_agent : RFunc := ⟨5, [(.cell 2 true 4)], (.seq (.region false [⟨(some 2), (.alloc (.agg [(.int .i64 0), (.str (bs [])), (.int .i64 0), (.vs true 0 [])])), none⟩]) (.seq (.region false [⟨(some 3), (.mov (.t 0)), none⟩, ⟨(some 4), (.build (.agg [(.int .i64 0), (.str (bs [])), (.int .i64 0), (.vs true 0 [])]) [(0, (1, (.c (.int .i64 2)))), (1, (1, (.t 3))), (2, (1, (.c (.int .i64 1))))]), none⟩, ⟨none, (.st 4 (.t 2) (.t 4)), none⟩]) .ret))⟩
def x_strings_Contains : RFunc := ⟨9, [(.tmp 4)], (.seq (.region false [⟨(some 4), (.mov (.c (.bool false))), none⟩]) (.seq (.region false [⟨(some 5), (.mov (.t 0)), none⟩, ⟨(some 6), (.mov (.t 1)), none⟩, ⟨(some 7), (.call n_strings_Index [(.t 5), (.t 6)]), none⟩, ⟨(some 8), (.bin .geq (.t 7) (.c (.int .i64 0))), none⟩, ⟨(some 4), (.mov (.t 8)), none⟩]) .ret))⟩
def x_slices_Index_string_0 : RCode := (.seq (.region false [⟨(some 9), (.bin .lss (.t 8) (.t 7)), none⟩]) (.seq (.cond (.t 9) .skip (.exit 0)) (.seq (.block 1 (.seq (.region false [⟨(some 10), (.mov (.t 8)), none⟩, ⟨(some 5), (.mov (.t 10)), none⟩]) (.seq (.region false [⟨(some 11), (.mov (.t 1)), none⟩, ⟨(some 12), (.mov (.t 0)), none⟩, ⟨(some 13), (.mov (.t 5)), none⟩, ⟨(some 14), (.iaddr 1 (.t 12) (.t 13)), none⟩, ⟨(some 15), (.ld false 1 (.t 14)), none⟩, ⟨(some 16), (.bin .eql (.t 11) (.t 15)), none⟩]) (.cond (.t 16) (.seq (.region false [⟨(some 17), (.mov (.t 5)), none⟩, ⟨(some 4), (.mov (.t 17)), none⟩]) .ret) .skip)))) (.region false [⟨(some 18), (.bin .add (.t 8) (.c (.int .i64 1))), none⟩, ⟨(some 8), (.mov (.t 18)), none⟩]))))
def x_slices_Index_string : RFunc := ⟨19, [(.tmp 4)], (.seq (.region false [⟨(some 4), (.mov (.c (.int .i64 0))), none⟩]) (.seq (.seq (.region false [⟨(some 6), (.mov (.t 0)), none⟩, ⟨(some 7), (.len false (.t 6)), none⟩, ⟨(some 8), (.mov (.c (.int .i64 0))), none⟩]) (.block 0 (.loop x_slices_Index_string_0))) (.seq (.region false [⟨(some 4), (.mov (.c (.int .i64 (-1)))), none⟩]) .ret)))⟩
def x_ref01_IsName_0 : RCode := (.seq (.seq (.region false [⟨(some 18), (.mov (.t 3)), none⟩, ⟨(some 19), (.mov (.t 0)), none⟩, ⟨(some 20), (.len true (.t 19)), none⟩, ⟨(some 21), (.bin .lss (.t 18) (.t 20)), none⟩]) (.cond (.t 21) .skip (.exit 0))) (.seq (.block 1 (.seq (.region false [⟨(some 24), (.mov (.t 0)), none⟩, ⟨(some 25), (.mov (.t 3)), none⟩, ⟨(some 26), (.idx (.t 24) (.t 25)), none⟩, ⟨(some 27), (.call n_ref01_letter [(.t 26)]), none⟩, ⟨(some 28), (.un .not (.t 27)), none⟩, ⟨(some 29), (.mov (.t 28)), none⟩, ⟨(some 30), (.mov (.t 0)), (some (29, true))⟩, ⟨(some 31), (.mov (.t 3)), (some (29, true))⟩, ⟨(some 32), (.idx (.t 30) (.t 31)), (some (29, true))⟩, ⟨(some 33), (.call n_ref01_digit [(.t 32)]), (some (29, true))⟩, ⟨(some 34), (.un .not (.t 33)), (some (29, true))⟩, ⟨(some 35), (.pick (.t 29) (.t 34) (.c (.bool false))), none⟩, ⟨(some 36), (.mov (.t 35)), none⟩, ⟨(some 37), (.mov (.t 0)), (some (36, true))⟩, ⟨(some 38), (.mov (.t 3)), (some (36, true))⟩, ⟨(some 39), (.idx (.t 37) (.t 38)), (some (36, true))⟩, ⟨(some 40), (.bin .neq (.t 39) (.c (.int .u8 95))), (some (36, true))⟩, ⟨(some 41), (.pick (.t 36) (.t 40) (.c (.bool false))), none⟩, ⟨(some 42), (.mov (.t 41)), none⟩, ⟨(some 43), (.mov (.t 0)), (some (42, true))⟩, ⟨(some 44), (.mov (.t 3)), (some (42, true))⟩, ⟨(some 45), (.idx (.t 43) (.t 44)), (some (42, true))⟩, ⟨(some 46), (.bin .neq (.t 45) (.c (.int .u8 35))), (some (42, true))⟩, ⟨(some 47), (.pick (.t 42) (.t 46) (.c (.bool false))), none⟩]) (.cond (.t 47) (.seq (.region false [⟨(some 2), (.mov (.c (.bool false))), none⟩]) .ret) .skip))) (.region false [⟨(some 22), (.mov (.t 3)), none⟩, ⟨(some 23), (.bin .add (.t 22) (.c (.int .i64 1))), none⟩, ⟨(some 3), (.mov (.t 23)), none⟩])))
def x_ref01_IsName : RFunc := ⟨48, [(.tmp 2)], (.seq (.region false [⟨(some 2), (.mov (.c (.bool false))), none⟩]) (.seq (.seq (.region false [⟨(some 4), (.mov (.t 0)), none⟩, ⟨(some 5), (.len true (.t 4)), none⟩, ⟨(some 6), (.bin .eql (.t 5) (.c (.int .i64 0))), none⟩, ⟨(some 7), (.mov (.t 6)), none⟩, ⟨(some 8), (.mov (.t 0)), (some (7, false))⟩, ⟨(some 9), (.len true (.t 8)), (some (7, false))⟩, ⟨(some 10), (.bin .gtr (.t 9) (.c (.int .i64 24))), (some (7, false))⟩, ⟨(some 11), (.pick (.t 7) (.c (.bool true)) (.t 10)), none⟩, ⟨(some 12), (.mov (.t 11)), none⟩, ⟨(some 13), (.mov (.t 0)), (some (12, false))⟩, ⟨(some 14), (.idx (.t 13) (.c (.int .i64 0))), (some (12, false))⟩, ⟨(some 15), (.call n_ref01_letter [(.t 14)]), (some (12, false))⟩, ⟨(some 16), (.un .not (.t 15)), (some (12, false))⟩, ⟨(some 17), (.pick (.t 12) (.c (.bool true)) (.t 16)), none⟩]) (.cond (.t 17) (.seq (.region false [⟨(some 2), (.mov (.c (.bool false))), none⟩]) .ret) .skip)) (.seq (.seq (.region false [⟨(some 3), (.mov (.c (.int .i64 0))), none⟩]) (.block 0 (.loop x_ref01_IsName_0))) (.seq (.region false [⟨(some 2), (.mov (.c (.bool true))), none⟩]) .ret))))⟩
def x_ref15_hash_0 : RCode := (.seq (.seq (.region false [⟨(some 4), (.mov (.t 3)), none⟩, ⟨(some 5), (.mov (.t 0)), none⟩, ⟨(some 6), (.len true (.t 5)), none⟩, ⟨(some 7), (.bin .lss (.t 4) (.t 6)), none⟩]) (.cond (.t 7) .skip (.exit 0))) (.seq (.block 1 (.seq (.region false [⟨(some 10), (.mov (.t 0)), none⟩, ⟨(some 11), (.mov (.t 3)), none⟩, ⟨(some 12), (.idx (.t 10) (.t 11)), none⟩, ⟨(some 13), (.bin .eql (.t 12) (.c (.int .u8 35))), none⟩]) (.cond (.t 13) (.seq (.region false [⟨(some 2), (.mov (.c (.bool true))), none⟩]) .ret) .skip))) (.region false [⟨(some 8), (.mov (.t 3)), none⟩, ⟨(some 9), (.bin .add (.t 8) (.c (.int .i64 1))), none⟩, ⟨(some 3), (.mov (.t 9)), none⟩])))
def x_ref15_hash : RFunc := ⟨14, [(.tmp 2)], (.seq (.region false [⟨(some 2), (.mov (.c (.bool false))), none⟩]) (.seq (.seq (.region false [⟨(some 3), (.mov (.c (.int .i64 0))), none⟩]) (.block 0 (.loop x_ref15_hash_0))) (.seq (.region false [⟨(some 2), (.mov (.c (.bool false))), none⟩]) .ret)))⟩
def x_ref01_Compare_0 : RCode := (.seq (.seq (.region false [⟨(some 55), (.mov (.t 9)), none⟩, ⟨(some 56), (.faddr 3 (.t 2)), none⟩, ⟨(some 57), (.ld false 1 (.t 56)), none⟩, ⟨(some 58), (.len false (.t 57)), none⟩, ⟨(some 59), (.bin .lss (.t 55) (.t 58)), none⟩]) (.cond (.t 59) .skip (.exit 0))) (.seq (.block 1 (.seq (.region true [⟨(some 62), (.faddr 3 (.t 2)), none⟩, ⟨(some 63), (.ld false 1 (.t 62)), none⟩, ⟨(some 64), (.mov (.t 9)), none⟩, ⟨(some 65), (.iaddr 4 (.t 63) (.t 64)), none⟩, ⟨(some 66), (.ld true 4 (.t 65)), none⟩, ⟨(some 67), (.faddr 3 (.t 3)), none⟩, ⟨(some 68), (.ld false 1 (.t 67)), none⟩, ⟨(some 69), (.mov (.t 9)), none⟩, ⟨(some 70), (.iaddr 4 (.t 68) (.t 69)), none⟩, ⟨(some 71), (.ld true 4 (.t 70)), none⟩, ⟨(some 72), (.call n_ref01_Compare [(.t 66), (.t 71)]), none⟩, ⟨(some 10), (.mov (.t 72)), none⟩]) (.seq (.region false [⟨(some 73), (.mov (.t 10)), none⟩, ⟨(some 74), (.bin .neq (.t 73) (.c (.int .i64 0))), none⟩]) (.cond (.t 74) (.seq (.region false [⟨(some 75), (.mov (.t 10)), none⟩, ⟨(some 4), (.mov (.t 75)), none⟩]) .ret) .skip)))) (.region false [⟨(some 60), (.mov (.t 9)), none⟩, ⟨(some 61), (.bin .add (.t 60) (.c (.int .i64 1))), none⟩, ⟨(some 9), (.mov (.t 61)), none⟩])))
def x_ref01_Compare : RFunc := ⟨76, [(.tmp 4)], (.seq (.region false [⟨(some 2), (.box (.t 0)), none⟩, ⟨(some 3), (.box (.t 1)), none⟩, ⟨(some 4), (.mov (.c (.int .i64 0))), none⟩]) (.seq (.seq (.region true [⟨(some 11), (.ld true 4 (.t 2)), none⟩, ⟨(some 12), (.call n_ref01_Size [(.t 11)]), none⟩, ⟨(some 13), (.ld true 4 (.t 3)), none⟩, ⟨(some 14), (.call n_ref01_Size [(.t 13)]), none⟩, ⟨(some 15), (.call n_ref01_number [(.t 12), (.t 14)]), none⟩, ⟨(some 5), (.mov (.t 15)), none⟩]) (.seq (.region false [⟨(some 16), (.mov (.t 5)), none⟩, ⟨(some 17), (.bin .neq (.t 16) (.c (.int .i64 0))), none⟩]) (.cond (.t 17) (.seq (.region false [⟨(some 18), (.mov (.t 5)), none⟩, ⟨(some 4), (.mov (.t 18)), none⟩]) .ret) .skip))) (.seq (.seq (.region false [⟨(some 19), (.faddr 0 (.t 2)), none⟩, ⟨(some 20), (.ld false 1 (.t 19)), none⟩, ⟨(some 21), (.faddr 0 (.t 3)), none⟩, ⟨(some 22), (.ld false 1 (.t 21)), none⟩, ⟨(some 23), (.call n_ref01_number [(.t 20), (.t 22)]), none⟩, ⟨(some 6), (.mov (.t 23)), none⟩]) (.seq (.region false [⟨(some 24), (.mov (.t 6)), none⟩, ⟨(some 25), (.bin .neq (.t 24) (.c (.int .i64 0))), none⟩]) (.cond (.t 25) (.seq (.region false [⟨(some 26), (.mov (.t 6)), none⟩, ⟨(some 4), (.mov (.t 26)), none⟩]) .ret) .skip))) (.seq (.seq (.region false [⟨(some 27), (.faddr 1 (.t 2)), none⟩, ⟨(some 28), (.ld false 1 (.t 27)), none⟩, ⟨(some 29), (.faddr 1 (.t 3)), none⟩, ⟨(some 30), (.ld false 1 (.t 29)), none⟩, ⟨(some 31), (.bin .lss (.t 28) (.t 30)), none⟩]) (.cond (.t 31) (.seq (.region false [⟨(some 4), (.mov (.c (.int .i64 (-1)))), none⟩]) .ret) .skip)) (.seq (.seq (.region false [⟨(some 32), (.faddr 1 (.t 2)), none⟩, ⟨(some 33), (.ld false 1 (.t 32)), none⟩, ⟨(some 34), (.faddr 1 (.t 3)), none⟩, ⟨(some 35), (.ld false 1 (.t 34)), none⟩, ⟨(some 36), (.bin .gtr (.t 33) (.t 35)), none⟩]) (.cond (.t 36) (.seq (.region false [⟨(some 4), (.mov (.c (.int .i64 1))), none⟩]) .ret) .skip)) (.seq (.seq (.region false [⟨(some 37), (.faddr 2 (.t 2)), none⟩, ⟨(some 38), (.ld false 1 (.t 37)), none⟩, ⟨(some 39), (.faddr 2 (.t 3)), none⟩, ⟨(some 40), (.ld false 1 (.t 39)), none⟩, ⟨(some 41), (.call n_ref01_number [(.t 38), (.t 40)]), none⟩, ⟨(some 7), (.mov (.t 41)), none⟩]) (.seq (.region false [⟨(some 42), (.mov (.t 7)), none⟩, ⟨(some 43), (.bin .neq (.t 42) (.c (.int .i64 0))), none⟩]) (.cond (.t 43) (.seq (.region false [⟨(some 44), (.mov (.t 7)), none⟩, ⟨(some 4), (.mov (.t 44)), none⟩]) .ret) .skip))) (.seq (.seq (.region false [⟨(some 45), (.faddr 3 (.t 2)), none⟩, ⟨(some 46), (.ld false 1 (.t 45)), none⟩, ⟨(some 47), (.len false (.t 46)), none⟩, ⟨(some 48), (.faddr 3 (.t 3)), none⟩, ⟨(some 49), (.ld false 1 (.t 48)), none⟩, ⟨(some 50), (.len false (.t 49)), none⟩, ⟨(some 51), (.call n_ref01_number [(.t 47), (.t 50)]), none⟩, ⟨(some 8), (.mov (.t 51)), none⟩]) (.seq (.region false [⟨(some 52), (.mov (.t 8)), none⟩, ⟨(some 53), (.bin .neq (.t 52) (.c (.int .i64 0))), none⟩]) (.cond (.t 53) (.seq (.region false [⟨(some 54), (.mov (.t 8)), none⟩, ⟨(some 4), (.mov (.t 54)), none⟩]) .ret) .skip))) (.seq (.seq (.region false [⟨(some 9), (.mov (.c (.int .i64 0))), none⟩]) (.block 0 (.loop x_ref01_Compare_0))) (.seq (.region false [⟨(some 4), (.mov (.c (.int .i64 0))), none⟩]) .ret)))))))))⟩
def x_term_check_0 : RCode := (.seq (.region false [⟨(some 60), (.bin .lss (.t 59) (.t 58)), none⟩]) (.seq (.cond (.t 60) .skip (.exit 1)) (.seq (.block 2 (.seq (.region false [⟨(some 61), (.iaddr 4 (.t 57) (.t 59)), none⟩, ⟨(some 62), (.ld true 4 (.t 61)), none⟩, ⟨(some 10), (.alloc (.agg [(.int .i64 0), (.str (bs [])), (.int .i64 0), (.vs true 0 [])])), none⟩, ⟨none, (.st 4 (.t 10) (.t 62)), none⟩]) (.seq (.region false [⟨(some 63), (.ld true 4 (.t 10)), none⟩, ⟨(some 64), (.mov (.t 1)), none⟩, ⟨(some 65), (.bin .add (.t 64) (.c (.int .i64 1))), none⟩, ⟨(some 66), (.mov (.t 2)), none⟩, ⟨(some 67), (.mov (.t 3)), none⟩, ⟨(some 68), (.call n_term_check [(.t 63), (.t 65), (.t 66), (.t 67)]), none⟩, ⟨(some 11), (.mov (.t 68)), none⟩]) (.seq (.region false [⟨(some 69), (.mov (.t 11)), none⟩, ⟨(some 70), (.bin .neq (.t 69) (.c (.int .i64 0))), none⟩]) (.cond (.t 70) (.seq (.region false [⟨(some 71), (.mov (.t 11)), none⟩, ⟨(some 8), (.mov (.t 71)), none⟩]) .ret) .skip))))) (.region false [⟨(some 72), (.bin .add (.t 59) (.c (.int .i64 1))), none⟩, ⟨(some 59), (.mov (.t 72)), none⟩]))))
def x_term_check : RFunc := ⟨73, [(.tmp 8)], (.seq (.region false [⟨(some 4), (.box (.t 0)), none⟩, ⟨(some 8), (.mov (.c (.int .i64 0))), none⟩]) (.seq (.region false [⟨(some 12), (.mov (.t 2)), none⟩, ⟨(some 13), (.nilck (.t 12)), none⟩, ⟨(some 14), (.ld false 1 (.t 13)), none⟩, ⟨(some 15), (.bin .add (.t 14) (.c (.int .i64 1))), none⟩, ⟨(some 16), (.nilck (.t 12)), none⟩, ⟨none, (.st 1 (.t 16) (.t 15)), none⟩]) (.seq (.region false [⟨(some 17), (.mov (.t 3)), none⟩, ⟨(some 18), (.mov (.t 3)), none⟩, ⟨(some 19), (.nilck (.t 18)), none⟩, ⟨(some 20), (.ld false 1 (.t 19)), none⟩, ⟨(some 21), (.mov (.t 1)), none⟩, ⟨(some 22), (.max (.t 20) (.t 21)), none⟩, ⟨(some 23), (.nilck (.t 17)), none⟩, ⟨none, (.st 1 (.t 23) (.t 22)), none⟩]) (.seq (.seq (.region false [⟨(some 24), (.faddr 0 (.t 4)), none⟩, ⟨(some 25), (.ld false 1 (.t 24)), none⟩]) (.block 0 (.seq (.seq (.region false [⟨(some 27), (.bin .eql (.t 25) (.c (.int .i64 1))), none⟩, ⟨(some 26), (.mov (.t 27)), none⟩]) (.cond (.t 26) .skip (.region false [⟨(some 28), (.bin .eql (.t 25) (.c (.int .i64 2))), none⟩, ⟨(some 26), (.mov (.t 28)), none⟩]))) (.cond (.t 26) (.seq (.region false [⟨(some 29), (.faddr 2 (.t 4)), none⟩, ⟨(some 30), (.ld false 1 (.t 29)), none⟩, ⟨(some 31), (.bin .lss (.t 30) (.c (.int .i64 0))), none⟩, ⟨(some 32), (.mov (.t 31)), none⟩, ⟨(some 33), (.faddr 2 (.t 4)), (some (32, false))⟩, ⟨(some 34), (.ld false 1 (.t 33)), (some (32, false))⟩, ⟨(some 35), (.bin .gtr (.t 34) (.c (.int .i64 5))), (some (32, false))⟩, ⟨(some 36), (.pick (.t 32) (.c (.bool true)) (.t 35)), none⟩, ⟨(some 37), (.mov (.t 36)), none⟩, ⟨(some 38), (.faddr 3 (.t 4)), (some (37, false))⟩, ⟨(some 39), (.ld false 1 (.t 38)), (some (37, false))⟩, ⟨(some 40), (.len false (.t 39)), (some (37, false))⟩, ⟨(some 41), (.bin .gtr (.t 40) (.c (.int .i64 0))), (some (37, false))⟩, ⟨(some 42), (.pick (.t 37) (.c (.bool true)) (.t 41)), none⟩]) (.cond (.t 42) (.seq (.region false [⟨(some 8), (.mov (.c (.int .i64 1))), none⟩]) .ret) .skip)) (.seq (.region false [⟨(some 44), (.bin .eql (.t 25) (.c (.int .i64 3))), none⟩, ⟨(some 43), (.mov (.t 44)), none⟩]) (.cond (.t 43) (.seq (.region false [⟨(some 45), (.faddr 2 (.t 4)), none⟩, ⟨(some 46), (.ld false 1 (.t 45)), none⟩, ⟨(some 47), (.bin .neq (.t 46) (.c (.int .i64 0))), none⟩]) (.cond (.t 47) (.seq (.region false [⟨(some 8), (.mov (.c (.int .i64 1))), none⟩]) .ret) .skip)) (.seq (.region false [⟨(some 8), (.mov (.c (.int .i64 1))), none⟩]) .ret))))))) (.seq (.seq (.region false [⟨(some 48), (.faddr 1 (.t 4)), none⟩, ⟨(some 49), (.ld false 1 (.t 48)), none⟩, ⟨(some 50), (.call n_term_isName [(.t 49)]), none⟩, ⟨(some 51), (.un .not (.t 50)), none⟩]) (.cond (.t 51) (.seq (.region false [⟨(some 8), (.mov (.c (.int .i64 2))), none⟩]) .ret) .skip)) (.seq (.seq (.region false [⟨(some 52), (.faddr 3 (.t 4)), none⟩, ⟨(some 53), (.ld false 1 (.t 52)), none⟩, ⟨(some 54), (.len false (.t 53)), none⟩, ⟨(some 55), (.bin .gtr (.t 54) (.c (.int .i64 8))), none⟩]) (.cond (.t 55) (.seq (.region false [⟨(some 8), (.mov (.c (.int .i64 3))), none⟩]) .ret) .skip)) (.seq (.seq (.region false [⟨(some 56), (.faddr 3 (.t 4)), none⟩, ⟨(some 57), (.ld false 1 (.t 56)), none⟩, ⟨(some 58), (.len false (.t 57)), none⟩, ⟨(some 59), (.mov (.c (.int .i64 0))), none⟩]) (.block 1 (.loop x_term_check_0))) (.seq (.region false [⟨(some 8), (.mov (.c (.int .i64 0))), none⟩]) .ret))))))))⟩
def x_strings_Index : RFunc := ⟨8, [(.tmp 4)], (.seq (.region false [⟨(some 4), (.mov (.c (.int .i64 0))), none⟩]) (.seq (.region false [⟨(some 5), (.mov (.t 0)), none⟩, ⟨(some 6), (.mov (.t 1)), none⟩, ⟨(some 7), (.call n_stringslite_Index [(.t 5), (.t 6)]), none⟩, ⟨(some 4), (.mov (.t 7)), none⟩]) .ret))⟩
def x_ref01_letter : RFunc := ⟨17, [(.tmp 2)], (.seq (.region false [⟨(some 2), (.mov (.c (.bool false))), none⟩]) (.seq (.region false [⟨(some 3), (.mov (.t 0)), none⟩, ⟨(some 4), (.bin .geq (.t 3) (.c (.int .u8 97))), none⟩, ⟨(some 5), (.mov (.t 4)), none⟩, ⟨(some 6), (.mov (.t 0)), (some (5, true))⟩, ⟨(some 7), (.bin .leq (.t 6) (.c (.int .u8 122))), (some (5, true))⟩, ⟨(some 8), (.pick (.t 5) (.t 7) (.c (.bool false))), none⟩, ⟨(some 9), (.mov (.t 8)), none⟩, ⟨(some 10), (.mov (.t 0)), (some (9, false))⟩, ⟨(some 11), (.bin .geq (.t 10) (.c (.int .u8 65))), (some (9, false))⟩, ⟨(some 12), (.mov (.t 11)), (some (9, false))⟩, ⟨(some 13), (.mov (.t 0)), (some (12, true))⟩, ⟨(some 14), (.bin .leq (.t 13) (.c (.int .u8 90))), (some (12, true))⟩, ⟨(some 15), (.pick (.t 12) (.t 14) (.c (.bool false))), (some (9, false))⟩, ⟨(some 16), (.pick (.t 9) (.c (.bool true)) (.t 15)), none⟩, ⟨(some 2), (.mov (.t 16)), none⟩]) .ret))⟩
def x_ref01_digit : RFunc := ⟨9, [(.tmp 2)], (.seq (.region false [⟨(some 2), (.mov (.c (.bool false))), none⟩]) (.seq (.region false [⟨(some 3), (.mov (.t 0)), none⟩, ⟨(some 4), (.bin .geq (.t 3) (.c (.int .u8 48))), none⟩, ⟨(some 5), (.mov (.t 4)), none⟩, ⟨(some 6), (.mov (.t 0)), (some (5, true))⟩, ⟨(some 7), (.bin .leq (.t 6) (.c (.int .u8 57))), (some (5, true))⟩, ⟨(some 8), (.pick (.t 5) (.t 7) (.c (.bool false))), none⟩, ⟨(some 2), (.mov (.t 8)), none⟩]) .ret))⟩
def x_ref01_number : RFunc := ⟨11, [(.tmp 4)], (.seq (.region false [⟨(some 4), (.mov (.c (.int .i64 0))), none⟩]) (.seq (.seq (.region false [⟨(some 5), (.mov (.t 0)), none⟩, ⟨(some 6), (.mov (.t 1)), none⟩, ⟨(some 7), (.bin .lss (.t 5) (.t 6)), none⟩]) (.cond (.t 7) (.seq (.region false [⟨(some 4), (.mov (.c (.int .i64 (-1)))), none⟩]) .ret) .skip)) (.seq (.seq (.region false [⟨(some 8), (.mov (.t 0)), none⟩, ⟨(some 9), (.mov (.t 1)), none⟩, ⟨(some 10), (.bin .gtr (.t 8) (.t 9)), none⟩]) (.cond (.t 10) (.seq (.region false [⟨(some 4), (.mov (.c (.int .i64 1))), none⟩]) .ret) .skip)) (.seq (.region false [⟨(some 4), (.mov (.c (.int .i64 0))), none⟩]) .ret))))⟩
def x_ref01_Size_0 : RCode := (.seq (.seq (.region false [⟨(some 5), (.mov (.t 4)), none⟩, ⟨(some 6), (.faddr 3 (.t 1)), none⟩, ⟨(some 7), (.ld false 1 (.t 6)), none⟩, ⟨(some 8), (.len false (.t 7)), none⟩, ⟨(some 9), (.bin .lss (.t 5) (.t 8)), none⟩]) (.cond (.t 9) .skip (.exit 0))) (.seq (.block 1 (.region false [⟨(some 12), (.mov (.t 3)), none⟩, ⟨(some 13), (.faddr 3 (.t 1)), none⟩, ⟨(some 14), (.ld false 1 (.t 13)), none⟩, ⟨(some 15), (.mov (.t 4)), none⟩, ⟨(some 16), (.iaddr 4 (.t 14) (.t 15)), none⟩, ⟨(some 17), (.ld true 4 (.t 16)), none⟩, ⟨(some 18), (.call n_ref01_Size [(.t 17)]), none⟩, ⟨(some 19), (.bin .add (.t 12) (.t 18)), none⟩, ⟨(some 3), (.mov (.t 19)), none⟩])) (.region false [⟨(some 10), (.mov (.t 4)), none⟩, ⟨(some 11), (.bin .add (.t 10) (.c (.int .i64 1))), none⟩, ⟨(some 4), (.mov (.t 11)), none⟩])))
def x_ref01_Size : RFunc := ⟨21, [(.tmp 2)], (.seq (.region false [⟨(some 1), (.box (.t 0)), none⟩, ⟨(some 2), (.mov (.c (.int .i64 0))), none⟩]) (.seq (.region false [⟨(some 3), (.mov (.c (.int .i64 1))), none⟩]) (.seq (.seq (.region false [⟨(some 4), (.mov (.c (.int .i64 0))), none⟩]) (.block 0 (.loop x_ref01_Size_0))) (.seq (.region false [⟨(some 20), (.mov (.t 3)), none⟩, ⟨(some 2), (.mov (.t 20)), none⟩]) .ret))))⟩
def x_term_isName_0 : RCode := (.seq (.region false [⟨(some 40), (.bin .lss (.t 39) (.t 38)), none⟩]) (.seq (.cond (.t 40) .skip (.exit 0)) (.seq (.block 1 (.seq (.region false [⟨(some 41), (.mov (.t 39)), none⟩, ⟨(some 3), (.mov (.t 41)), none⟩]) (.seq (.region false [⟨(some 42), (.mov (.t 0)), none⟩, ⟨(some 43), (.mov (.t 3)), none⟩, ⟨(some 44), (.idx (.t 42) (.t 43)), none⟩, ⟨(some 45), (.call n_term_part [(.t 44)]), none⟩, ⟨(some 46), (.un .not (.t 45)), none⟩]) (.cond (.t 46) (.seq (.region false [⟨(some 2), (.mov (.c (.bool false))), none⟩]) .ret) .skip)))) (.region false [⟨(some 47), (.bin .add (.t 39) (.c (.int .i64 1))), none⟩, ⟨(some 39), (.mov (.t 47)), none⟩]))))
def x_term_isName : RFunc := ⟨48, [(.tmp 2)], (.seq (.region false [⟨(some 2), (.mov (.c (.bool false))), none⟩]) (.seq (.seq (.region false [⟨(some 4), (.mov (.t 0)), none⟩, ⟨(some 5), (.bin .eql (.t 4) (.c (.str (bs [])))), none⟩, ⟨(some 6), (.mov (.t 5)), none⟩, ⟨(some 7), (.mov (.t 0)), (some (6, false))⟩, ⟨(some 8), (.len true (.t 7)), (some (6, false))⟩, ⟨(some 9), (.bin .gtr (.t 8) (.c (.int .i64 24))), (some (6, false))⟩, ⟨(some 10), (.pick (.t 6) (.c (.bool true)) (.t 9)), none⟩, ⟨(some 11), (.mov (.t 10)), none⟩, ⟨(some 12), (.mov (.t 0)), (some (11, false))⟩, ⟨(some 13), (.idx (.t 12) (.c (.int .i64 0))), (some (11, false))⟩, ⟨(some 14), (.call n_term_part [(.t 13)]), (some (11, false))⟩, ⟨(some 15), (.un .not (.t 14)), (some (11, false))⟩, ⟨(some 16), (.pick (.t 11) (.c (.bool true)) (.t 15)), none⟩, ⟨(some 17), (.mov (.t 16)), none⟩, ⟨(some 18), (.mov (.t 0)), (some (17, false))⟩, ⟨(some 19), (.idx (.t 18) (.c (.int .i64 0))), (some (17, false))⟩, ⟨(some 20), (.bin .geq (.t 19) (.c (.int .u8 48))), (some (17, false))⟩, ⟨(some 21), (.mov (.t 20)), (some (17, false))⟩, ⟨(some 22), (.mov (.t 0)), (some (21, true))⟩, ⟨(some 23), (.idx (.t 22) (.c (.int .i64 0))), (some (21, true))⟩, ⟨(some 24), (.bin .leq (.t 23) (.c (.int .u8 57))), (some (21, true))⟩, ⟨(some 25), (.pick (.t 21) (.t 24) (.c (.bool false))), (some (17, false))⟩, ⟨(some 26), (.pick (.t 17) (.c (.bool true)) (.t 25)), none⟩, ⟨(some 27), (.mov (.t 26)), none⟩, ⟨(some 28), (.mov (.t 0)), (some (27, false))⟩, ⟨(some 29), (.idx (.t 28) (.c (.int .i64 0))), (some (27, false))⟩, ⟨(some 30), (.bin .eql (.t 29) (.c (.int .u8 95))), (some (27, false))⟩, ⟨(some 31), (.pick (.t 27) (.c (.bool true)) (.t 30)), none⟩, ⟨(some 32), (.mov (.t 31)), none⟩, ⟨(some 33), (.mov (.t 0)), (some (32, false))⟩, ⟨(some 34), (.idx (.t 33) (.c (.int .i64 0))), (some (32, false))⟩, ⟨(some 35), (.bin .eql (.t 34) (.c (.int .u8 35))), (some (32, false))⟩, ⟨(some 36), (.pick (.t 32) (.c (.bool true)) (.t 35)), none⟩]) (.cond (.t 36) (.seq (.region false [⟨(some 2), (.mov (.c (.bool false))), none⟩]) .ret) .skip)) (.seq (.seq (.region false [⟨(some 37), (.mov (.t 0)), none⟩, ⟨(some 38), (.len true (.t 37)), none⟩, ⟨(some 39), (.mov (.c (.int .i64 0))), none⟩]) (.block 0 (.loop x_term_isName_0))) (.seq (.region false [⟨(some 2), (.mov (.c (.bool true))), none⟩]) .ret))))⟩
def x_term_part : RFunc := ⟨33, [(.tmp 2)], (.seq (.region false [⟨(some 2), (.mov (.c (.bool false))), none⟩]) (.seq (.region false [⟨(some 3), (.mov (.t 0)), none⟩, ⟨(some 4), (.bin .geq (.t 3) (.c (.int .u8 97))), none⟩, ⟨(some 5), (.mov (.t 4)), none⟩, ⟨(some 6), (.mov (.t 0)), (some (5, true))⟩, ⟨(some 7), (.bin .leq (.t 6) (.c (.int .u8 122))), (some (5, true))⟩, ⟨(some 8), (.pick (.t 5) (.t 7) (.c (.bool false))), none⟩, ⟨(some 9), (.mov (.t 8)), none⟩, ⟨(some 10), (.mov (.t 0)), (some (9, false))⟩, ⟨(some 11), (.bin .geq (.t 10) (.c (.int .u8 65))), (some (9, false))⟩, ⟨(some 12), (.mov (.t 11)), (some (9, false))⟩, ⟨(some 13), (.mov (.t 0)), (some (12, true))⟩, ⟨(some 14), (.bin .leq (.t 13) (.c (.int .u8 90))), (some (12, true))⟩, ⟨(some 15), (.pick (.t 12) (.t 14) (.c (.bool false))), (some (9, false))⟩, ⟨(some 16), (.pick (.t 9) (.c (.bool true)) (.t 15)), none⟩, ⟨(some 17), (.mov (.t 16)), none⟩, ⟨(some 18), (.mov (.t 0)), (some (17, false))⟩, ⟨(some 19), (.bin .geq (.t 18) (.c (.int .u8 48))), (some (17, false))⟩, ⟨(some 20), (.mov (.t 19)), (some (17, false))⟩, ⟨(some 21), (.mov (.t 0)), (some (20, true))⟩, ⟨(some 22), (.bin .leq (.t 21) (.c (.int .u8 57))), (some (20, true))⟩, ⟨(some 23), (.pick (.t 20) (.t 22) (.c (.bool false))), (some (17, false))⟩, ⟨(some 24), (.pick (.t 17) (.c (.bool true)) (.t 23)), none⟩, ⟨(some 25), (.mov (.t 24)), none⟩, ⟨(some 26), (.mov (.t 0)), (some (25, false))⟩, ⟨(some 27), (.bin .eql (.t 26) (.c (.int .u8 95))), (some (25, false))⟩, ⟨(some 28), (.pick (.t 25) (.c (.bool true)) (.t 27)), none⟩, ⟨(some 29), (.mov (.t 28)), none⟩, ⟨(some 30), (.mov (.t 0)), (some (29, false))⟩, ⟨(some 31), (.bin .eql (.t 30) (.c (.int .u8 35))), (some (29, false))⟩, ⟨(some 32), (.pick (.t 29) (.c (.bool true)) (.t 31)), none⟩, ⟨(some 2), (.mov (.t 32)), none⟩]) .ret))⟩
def x_bytealg_Cutover : RFunc := ⟨6, [(.tmp 2)], (.seq (.region false [⟨(some 2), (.mov (.c (.int .i64 0))), none⟩]) (.seq (.region false [⟨(some 3), (.mov (.t 0)), none⟩, ⟨(some 4), (.bin .add (.t 3) (.c (.int .i64 16))), none⟩, ⟨(some 5), (.bin .quo (.t 4) (.c (.int .i64 8))), none⟩, ⟨(some 2), (.mov (.t 5)), none⟩]) .ret))⟩
def x_bytealg_IndexRabinKarp_string_0 : RCode := (.seq (.seq (.region false [⟨(some 41), (.mov (.t 10)), none⟩, ⟨(some 42), (.mov (.t 0)), none⟩, ⟨(some 43), (.len true (.t 42)), none⟩, ⟨(some 44), (.bin .lss (.t 41) (.t 43)), none⟩]) (.cond (.t 44) .skip (.exit 2))) (.block 3 (.seq (.region false [⟨(some 45), (.mov (.t 8)), none⟩, ⟨(some 46), (.bin .mul (.t 45) (.c (.int .u32 16777619))), none⟩, ⟨(some 8), (.mov (.t 46)), none⟩]) (.seq (.region false [⟨(some 47), (.mov (.t 8)), none⟩, ⟨(some 48), (.mov (.t 0)), none⟩, ⟨(some 49), (.mov (.t 10)), none⟩, ⟨(some 50), (.idx (.t 48) (.t 49)), none⟩, ⟨(some 51), (.conv .u32 (.t 50)), none⟩, ⟨(some 52), (.bin .add (.t 47) (.t 51)), none⟩, ⟨(some 8), (.mov (.t 52)), none⟩]) (.seq (.region false [⟨(some 53), (.mov (.t 8)), none⟩, ⟨(some 54), (.mov (.t 6)), none⟩, ⟨(some 55), (.mov (.t 0)), none⟩, ⟨(some 56), (.mov (.t 10)), none⟩, ⟨(some 57), (.mov (.t 7)), none⟩, ⟨(some 58), (.bin .sub (.t 56) (.t 57)), none⟩, ⟨(some 59), (.idx (.t 55) (.t 58)), none⟩, ⟨(some 60), (.conv .u32 (.t 59)), none⟩, ⟨(some 61), (.bin .mul (.t 54) (.t 60)), none⟩, ⟨(some 62), (.bin .sub (.t 53) (.t 61)), none⟩, ⟨(some 8), (.mov (.t 62)), none⟩]) (.seq (.region false [⟨(some 63), (.mov (.t 10)), none⟩, ⟨(some 64), (.bin .add (.t 63) (.c (.int .i64 1))), none⟩, ⟨(some 10), (.mov (.t 64)), none⟩]) (.seq (.region false [⟨(some 65), (.mov (.t 8)), none⟩, ⟨(some 66), (.mov (.t 5)), none⟩, ⟨(some 67), (.bin .eql (.t 65) (.t 66)), none⟩, ⟨(some 68), (.mov (.t 67)), none⟩, ⟨(some 69), (.mov (.t 0)), (some (68, true))⟩, ⟨(some 70), (.mov (.t 10)), (some (68, true))⟩, ⟨(some 71), (.mov (.t 7)), (some (68, true))⟩, ⟨(some 72), (.bin .sub (.t 70) (.t 71)), (some (68, true))⟩, ⟨(some 73), (.mov (.t 10)), (some (68, true))⟩, ⟨(some 74), (.slc 0 (.t 69) (some (.t 72)) (some (.t 73)) none), (some (68, true))⟩, ⟨(some 75), (.mov (.t 1)), (some (68, true))⟩, ⟨(some 76), (.bin .eql (.t 74) (.t 75)), (some (68, true))⟩, ⟨(some 77), (.pick (.t 68) (.t 76) (.c (.bool false))), none⟩]) (.cond (.t 77) (.seq (.region false [⟨(some 78), (.mov (.t 10)), none⟩, ⟨(some 79), (.mov (.t 7)), none⟩, ⟨(some 80), (.bin .sub (.t 78) (.t 79)), none⟩, ⟨(some 4), (.mov (.t 80)), none⟩]) .ret) .skip))))))))
def x_bytealg_IndexRabinKarp_string_1 : RCode := (.seq (.seq (.region false [⟨(some 18), (.mov (.t 9)), none⟩, ⟨(some 19), (.mov (.t 7)), none⟩, ⟨(some 20), (.bin .lss (.t 18) (.t 19)), none⟩]) (.cond (.t 20) .skip (.exit 0))) (.seq (.block 1 (.region false [⟨(some 23), (.mov (.t 8)), none⟩, ⟨(some 24), (.bin .mul (.t 23) (.c (.int .u32 16777619))), none⟩, ⟨(some 25), (.mov (.t 0)), none⟩, ⟨(some 26), (.mov (.t 9)), none⟩, ⟨(some 27), (.idx (.t 25) (.t 26)), none⟩, ⟨(some 28), (.conv .u32 (.t 27)), none⟩, ⟨(some 29), (.bin .add (.t 24) (.t 28)), none⟩, ⟨(some 8), (.mov (.t 29)), none⟩])) (.region false [⟨(some 21), (.mov (.t 9)), none⟩, ⟨(some 22), (.bin .add (.t 21) (.c (.int .i64 1))), none⟩, ⟨(some 9), (.mov (.t 22)), none⟩])))
def x_bytealg_IndexRabinKarp_string : RFunc := ⟨81, [(.tmp 4)], (.seq (.region false [⟨(some 4), (.mov (.c (.int .i64 0))), none⟩]) (.seq (.region false [⟨(some 12), (.mov (.t 1)), none⟩, ⟨(some 13), (.call n_bytealg_hashStr_string [(.t 12)]), none⟩, ⟨(some 11), (.mov (.t 13)), none⟩, ⟨(some 14), (.ext (.t 11) 0), none⟩, ⟨(some 15), (.ext (.t 11) 1), none⟩, ⟨(some 5), (.mov (.t 14)), none⟩, ⟨(some 6), (.mov (.t 15)), none⟩]) (.seq (.region false [⟨(some 16), (.mov (.t 1)), none⟩, ⟨(some 17), (.len true (.t 16)), none⟩, ⟨(some 7), (.mov (.t 17)), none⟩]) (.seq (.region false [⟨(some 8), (.mov (.c (.int .u32 0))), none⟩]) (.seq (.seq (.region false [⟨(some 9), (.mov (.c (.int .i64 0))), none⟩]) (.block 0 (.loop x_bytealg_IndexRabinKarp_string_1))) (.seq (.seq (.region false [⟨(some 30), (.mov (.t 8)), none⟩, ⟨(some 31), (.mov (.t 5)), none⟩, ⟨(some 32), (.bin .eql (.t 30) (.t 31)), none⟩, ⟨(some 33), (.mov (.t 32)), none⟩, ⟨(some 34), (.mov (.t 0)), (some (33, true))⟩, ⟨(some 35), (.mov (.t 7)), (some (33, true))⟩, ⟨(some 36), (.slc 0 (.t 34) none (some (.t 35)) none), (some (33, true))⟩, ⟨(some 37), (.mov (.t 1)), (some (33, true))⟩, ⟨(some 38), (.bin .eql (.t 36) (.t 37)), (some (33, true))⟩, ⟨(some 39), (.pick (.t 33) (.t 38) (.c (.bool false))), none⟩]) (.cond (.t 39) (.seq (.region false [⟨(some 4), (.mov (.c (.int .i64 0))), none⟩]) .ret) .skip)) (.seq (.seq (.region false [⟨(some 40), (.mov (.t 7)), none⟩, ⟨(some 10), (.mov (.t 40)), none⟩]) (.block 2 (.loop x_bytealg_IndexRabinKarp_string_0))) (.seq (.region false [⟨(some 4), (.mov (.c (.int .i64 (-1)))), none⟩]) .ret))))))))⟩
def x_bytealg_hashStr_string_0 : RCode := (.seq (.seq (.region false [⟨(some 24), (.mov (.t 8)), none⟩, ⟨(some 25), (.bin .gtr (.t 24) (.c (.int .i64 0))), none⟩]) (.cond (.t 25) .skip (.exit 2))) (.seq (.block 3 (.seq (.seq (.region false [⟨(some 28), (.mov (.t 8)), none⟩, ⟨(some 29), (.bin .and (.t 28) (.c (.int .i64 1))), none⟩, ⟨(some 30), (.bin .neq (.t 29) (.c (.int .i64 0))), none⟩]) (.cond (.t 30) (.region false [⟨(some 31), (.mov (.t 6)), none⟩, ⟨(some 32), (.mov (.t 7)), none⟩, ⟨(some 33), (.bin .mul (.t 31) (.t 32)), none⟩, ⟨(some 6), (.mov (.t 33)), none⟩]) .skip)) (.region false [⟨(some 34), (.mov (.t 7)), none⟩, ⟨(some 35), (.mov (.t 7)), none⟩, ⟨(some 36), (.bin .mul (.t 34) (.t 35)), none⟩, ⟨(some 7), (.mov (.t 36)), none⟩]))) (.region false [⟨(some 26), (.mov (.t 8)), none⟩, ⟨(some 27), (.bin .shr (.t 26) (.c (.int .u64 1))), none⟩, ⟨(some 8), (.mov (.t 27)), none⟩])))
def x_bytealg_hashStr_string_1 : RCode := (.seq (.seq (.region false [⟨(some 9), (.mov (.t 5)), none⟩, ⟨(some 10), (.mov (.t 0)), none⟩, ⟨(some 11), (.len true (.t 10)), none⟩, ⟨(some 12), (.bin .lss (.t 9) (.t 11)), none⟩]) (.cond (.t 12) .skip (.exit 0))) (.seq (.block 1 (.region false [⟨(some 15), (.mov (.t 4)), none⟩, ⟨(some 16), (.bin .mul (.t 15) (.c (.int .u32 16777619))), none⟩, ⟨(some 17), (.mov (.t 0)), none⟩, ⟨(some 18), (.mov (.t 5)), none⟩, ⟨(some 19), (.idx (.t 17) (.t 18)), none⟩, ⟨(some 20), (.conv .u32 (.t 19)), none⟩, ⟨(some 21), (.bin .add (.t 16) (.t 20)), none⟩, ⟨(some 4), (.mov (.t 21)), none⟩])) (.region false [⟨(some 13), (.mov (.t 5)), none⟩, ⟨(some 14), (.bin .add (.t 13) (.c (.int .i64 1))), none⟩, ⟨(some 5), (.mov (.t 14)), none⟩])))
def x_bytealg_hashStr_string : RFunc := ⟨39, [(.tmp 2), (.tmp 3)], (.seq (.region false [⟨(some 2), (.mov (.c (.int .u32 0))), none⟩, ⟨(some 3), (.mov (.c (.int .u32 0))), none⟩]) (.seq (.region false [⟨(some 4), (.mov (.c (.int .u32 0))), none⟩]) (.seq (.seq (.region false [⟨(some 5), (.mov (.c (.int .i64 0))), none⟩]) (.block 0 (.loop x_bytealg_hashStr_string_1))) (.seq (.region false [⟨(some 6), (.mov (.c (.int .u32 1))), none⟩, ⟨(some 7), (.mov (.c (.int .u32 16777619))), none⟩]) (.seq (.seq (.region false [⟨(some 22), (.mov (.t 0)), none⟩, ⟨(some 23), (.len true (.t 22)), none⟩, ⟨(some 8), (.mov (.t 23)), none⟩]) (.block 2 (.loop x_bytealg_hashStr_string_0))) (.seq (.region false [⟨(some 37), (.mov (.t 4)), none⟩, ⟨(some 38), (.mov (.t 6)), none⟩, ⟨(some 2), (.mov (.t 37)), none⟩, ⟨(some 3), (.mov (.t 38)), none⟩]) .ret))))))⟩
end Go.Abs.Q

/- The resolved functions are the program's. -/
namespace Go.Abs.Q
open Go.Proofs
theorem res_law27_GoalAgree : resFunc Try.prog ctxF n_law27_GoalAgree = some x_law27_GoalAgree := by kernel_rfl
theorem res_law27_GoalInject : resFunc Try.prog ctxF n_law27_GoalInject = some x_law27_GoalInject := by kernel_rfl
theorem res_law27_GoalAssigned : resFunc Try.prog ctxF n_law27_GoalAssigned = some x_law27_GoalAssigned := by kernel_rfl
theorem res_law27_GoalFewer : resFunc Try.prog ctxF n_law27_GoalFewer = some x_law27_GoalFewer := by kernel_rfl
theorem res_law27_GoalFresh : resFunc Try.prog ctxF n_law27_GoalFresh = some x_law27_GoalFresh := by kernel_rfl
theorem res_law27_GoalHonest : resFunc Try.prog ctxF n_law27_GoalHonest = some x_law27_GoalHonest := by kernel_rfl
theorem res_law27_awake : resFunc Try.prog ctxF n_law27_awake = some x_law27_awake := by kernel_rfl
theorem res_ref27_Few : resFunc Try.prog ctxF n_ref27_Few = some x_ref27_Few := by kernel_rfl
theorem res_goal_Agree : resFunc Try.prog ctxF n_goal_Agree = some x_goal_Agree := by kernel_rfl
theorem res_ref27_Agree : resFunc Try.prog ctxF n_ref27_Agree = some x_ref27_Agree := by kernel_rfl
theorem res_goal_Inject : resFunc Try.prog ctxF n_goal_Inject = some x_goal_Inject := by kernel_rfl
theorem res_ref27_Possible : resFunc Try.prog ctxF n_ref27_Possible = some x_ref27_Possible := by kernel_rfl
theorem res_ref27_CheckInject : resFunc Try.prog ctxF n_ref27_CheckInject = some x_ref27_CheckInject := by kernel_rfl
theorem res_goal_CheckInject : resFunc Try.prog ctxF n_goal_CheckInject = some x_goal_CheckInject := by kernel_rfl
theorem res_goal_Fresh : resFunc Try.prog ctxF n_goal_Fresh = some x_goal_Fresh := by kernel_rfl
theorem res_slices_Clone_int : resFunc Try.prog ctxF n_slices_Clone_int = some x_slices_Clone_int := by kernel_rfl
theorem res_ref27_Fresh : resFunc Try.prog ctxF n_ref27_Fresh = some x_ref27_Fresh := by kernel_rfl
theorem res_ref15_Few : resFunc Try.prog ctxF n_ref15_Few = some x_ref15_Few := by kernel_rfl
theorem res_goal_Honest : resFunc Try.prog ctxF n_goal_Honest = some x_goal_Honest := by kernel_rfl
theorem res_ref27_Honest : resFunc Try.prog ctxF n_ref27_Honest = some x_ref27_Honest := by kernel_rfl
theorem res_law27_moment : resFunc Try.prog ctxF n_law27_moment = some x_law27_moment := by kernel_rfl
theorem res_ref01_Few : resFunc Try.prog ctxF n_ref01_Few = some x_ref01_Few := by kernel_rfl
theorem res_goal_fits : resFunc Try.prog ctxF n_goal_fits = some x_goal_fits := by kernel_rfl
theorem res_ref27_Fits : resFunc Try.prog ctxF n_ref27_Fits = some x_ref27_Fits := by kernel_rfl
theorem res_goal_kind : resFunc Try.prog ctxF n_goal_kind = some x_goal_kind := by kernel_rfl
theorem res_goal_assigner_assign : resFunc Try.prog ctxF n_goal_assigner_assign = some x_goal_assigner_assign := by kernel_rfl
theorem res_ref27_kind : resFunc Try.prog ctxF n_ref27_kind = some x_ref27_kind := by kernel_rfl
theorem res_ref27_assign : resFunc Try.prog ctxF n_ref27_assign = some x_ref27_assign := by kernel_rfl
theorem res_slices_Contains_int : resFunc Try.prog ctxF n_slices_Contains_int = some x_slices_Contains_int := by kernel_rfl
theorem res_goal_equal : resFunc Try.prog ctxF n_goal_equal = some x_goal_equal := by kernel_rfl
theorem res_ref27_Equal : resFunc Try.prog ctxF n_ref27_Equal = some x_ref27_Equal := by kernel_rfl
theorem res_slices_ContainsFunc_string : resFunc Try.prog ctxF n_slices_ContainsFunc_string = some x_slices_ContainsFunc_string := by kernel_rfl
theorem res_goal_Honest_1 : resFunc Try.prog ctxF n_goal_Honest_1 = some x_goal_Honest_1 := by kernel_rfl
theorem res_cast_Honest : resFunc Try.prog ctxF n_cast_Honest = some x_cast_Honest := by kernel_rfl
theorem res_ref15_Honest : resFunc Try.prog ctxF n_ref15_Honest = some x_ref15_Honest := by kernel_rfl
theorem res_ref01_Atom : resFunc Try.prog ctxF n_ref01_Atom = some x_ref01_Atom := by kernel_rfl
theorem res_ref01_budget : resFunc Try.prog ctxF n_ref01_budget = some x_ref01_budget := by kernel_rfl
theorem res_slices_Index_int : resFunc Try.prog ctxF n_slices_Index_int = some x_slices_Index_int := by kernel_rfl
theorem res_slices_EqualFunc_Term : resFunc Try.prog ctxF n_slices_EqualFunc_Term = some x_slices_EqualFunc_Term := by kernel_rfl
theorem res_goal_equal_1 : resFunc Try.prog ctxF n_goal_equal_1 = some x_goal_equal_1 := by kernel_rfl
theorem res_term_Compare : resFunc Try.prog ctxF n_term_Compare = some x_term_Compare := by kernel_rfl
theorem res_ref01_Lists : resFunc Try.prog ctxF n_ref01_Lists = some x_ref01_Lists := by kernel_rfl
theorem res_slices_IndexFunc_string : resFunc Try.prog ctxF n_slices_IndexFunc_string = some x_slices_IndexFunc_string := by kernel_rfl
theorem res_cast_Valid : resFunc Try.prog ctxF n_cast_Valid = some x_cast_Valid := by kernel_rfl
theorem res_slices_Contains_string : resFunc Try.prog ctxF n_slices_Contains_string = some x_slices_Contains_string := by kernel_rfl
theorem res_ref15_Valid : resFunc Try.prog ctxF n_ref15_Valid = some x_ref15_Valid := by kernel_rfl
theorem res_ref15_find : resFunc Try.prog ctxF n_ref15_find = some x_ref15_find := by kernel_rfl
theorem res_term_sign : resFunc Try.prog ctxF n_term_sign = some x_term_sign := by kernel_rfl
theorem res_term_Size : resFunc Try.prog ctxF n_term_Size = some x_term_Size := by kernel_rfl
theorem res_strings_Compare : resFunc Try.prog ctxF n_strings_Compare = some x_strings_Compare := by kernel_rfl
theorem res_ref01_Same : resFunc Try.prog ctxF n_ref01_Same = some x_ref01_Same := by kernel_rfl
theorem res_term_Valid : resFunc Try.prog ctxF n_term_Valid = some x_term_Valid := by kernel_rfl
theorem res_cast_agent : resFunc Try.prog ctxF n_cast_agent = some x_cast_agent := by kernel_rfl
theorem res_strings_Contains : resFunc Try.prog ctxF n_strings_Contains = some x_strings_Contains := by kernel_rfl
theorem res_slices_Index_string : resFunc Try.prog ctxF n_slices_Index_string = some x_slices_Index_string := by kernel_rfl
theorem res_ref01_IsName : resFunc Try.prog ctxF n_ref01_IsName = some x_ref01_IsName := by kernel_rfl
theorem res_ref15_hash : resFunc Try.prog ctxF n_ref15_hash = some x_ref15_hash := by kernel_rfl
theorem res_ref01_Compare : resFunc Try.prog ctxF n_ref01_Compare = some x_ref01_Compare := by kernel_rfl
theorem res_term_check : resFunc Try.prog ctxF n_term_check = some x_term_check := by kernel_rfl
theorem res_strings_Index : resFunc Try.prog ctxF n_strings_Index = some x_strings_Index := by kernel_rfl
theorem res_ref01_letter : resFunc Try.prog ctxF n_ref01_letter = some x_ref01_letter := by kernel_rfl
theorem res_ref01_digit : resFunc Try.prog ctxF n_ref01_digit = some x_ref01_digit := by kernel_rfl
theorem res_ref01_number : resFunc Try.prog ctxF n_ref01_number = some x_ref01_number := by kernel_rfl
theorem res_ref01_Size : resFunc Try.prog ctxF n_ref01_Size = some x_ref01_Size := by kernel_rfl
theorem res_term_isName : resFunc Try.prog ctxF n_term_isName = some x_term_isName := by kernel_rfl
theorem res_term_part : resFunc Try.prog ctxF n_term_part = some x_term_part := by kernel_rfl
theorem res_bytealg_Cutover : resFunc Try.prog ctxF n_bytealg_Cutover = some x_bytealg_Cutover := by kernel_rfl
theorem res_bytealg_IndexRabinKarp_string : resFunc Try.prog ctxF n_bytealg_IndexRabinKarp_string = some x_bytealg_IndexRabinKarp_string := by kernel_rfl
theorem res_bytealg_hashStr_string : resFunc Try.prog ctxF n_bytealg_hashStr_string = some x_bytealg_hashStr_string := by kernel_rfl
end Go.Abs.Q

/- What holds when code ends: for loops, whose end is known only by what holds there. -/
namespace Go.Abs

/-- The code ends, so that Ψ holds. -/
def Ends (r : Option (Ex × St)) (Ψ : Ex → Fr → AH → Prop) : Prop := match r with | some (e, fr, h) => Ψ e fr h | none => False
@[congr] theorem Ends_congr {r r' : Option (Ex × St)} {Ψ : Ex → Fr → AH → Prop} (h : r = r') : Ends r Ψ = Ends r' Ψ := by rw [h]
@[simp] theorem Ends_some (e : Ex) (fr : Fr) (h : AH) (Ψ : Ex → Fr → AH → Prop) : Ends (some (e, fr, h)) Ψ = Ψ e fr h := _root_.id rfl

def SQ (O : Orc) (c : Ctx) (y : RCode) (Ψ : Ex → Fr → AH → Prop) : Ex → Fr → AH → Prop
  | .normal, fr, h => Ends (evalCode O c y (fr, h)) Ψ
  | e, fr, h => Ψ e fr h
section
variable (O : Orc) (c : Ctx) (y : RCode) (Ψ : Ex → Fr → AH → Prop)
@[simp] theorem SQ_n (fr : Fr) (h : AH) : SQ O c y Ψ .normal fr h = Ends (evalCode O c y (fr, h)) Ψ := _root_.id rfl
@[simp] theorem SQ_r (fr : Fr) (h : AH) : SQ O c y Ψ .ret fr h = Ψ .ret fr h := _root_.id rfl
@[simp] theorem SQ_e (i : Nat) (fr : Fr) (h : AH) : SQ O c y Ψ (.exit i) fr h = Ψ (.exit i) fr h := _root_.id rfl
@[simp] theorem Ends_sqn (r : Option (Ex × St)) : Ends (sqn r O c y) Ψ = Ends r (SQ O c y Ψ) := by
  cases r with
  | none => rfl
  | some x => obtain ⟨e, fr, h⟩ := x; cases e <;> rfl
end

def BL (id : Nat) (Ψ : Ex → Fr → AH → Prop) : Ex → Fr → AH → Prop
  | .exit i, fr, h => if i = id then Ψ .normal fr h else Ψ (.exit i) fr h
  | e, fr, h => Ψ e fr h
@[simp] theorem BL_n (id : Nat) (Ψ : Ex → Fr → AH → Prop) (fr : Fr) (h : AH) : BL id Ψ .normal fr h = Ψ .normal fr h := _root_.id rfl
@[simp] theorem BL_r (id : Nat) (Ψ : Ex → Fr → AH → Prop) (fr : Fr) (h : AH) : BL id Ψ .ret fr h = Ψ .ret fr h := _root_.id rfl
@[simp] theorem BL_e (id i : Nat) (Ψ : Ex → Fr → AH → Prop) (fr : Fr) (h : AH) : BL id Ψ (.exit i) fr h = if i = id then Ψ .normal fr h else Ψ (.exit i) fr h := _root_.id rfl
@[simp] theorem Ends_kbl (id : Nat) (r : Option (Ex × St)) (Ψ : Ex → Fr → AH → Prop) : Ends (kbl id r) Ψ = Ends r (BL id Ψ) := by
  cases r with
  | none => rfl
  | some x =>
    obtain ⟨e, fr, h⟩ := x
    cases e with
    | exit i =>
      by_cases hi : i = id
      · subst hi; simp [kbl, BL]
      · simp [kbl, BL, hi]
    | _ => rfl

theorem Ends.mono {r : Option (Ex × St)} {Φ Ψ : Ex → Fr → AH → Prop} (h : Ends r Φ) (k : ∀ e fr h, Φ e fr h → Ψ e fr h) : Ends r Ψ := by
  cases r with
  | none => exact h.elim
  | some x => exact k _ _ _ h

theorem Ends.elim' {r : Option (Ex × St)} {Φ : Ex → Fr → AH → Prop} (h : Ends r Φ) : ∃ e fr h', r = some (e, fr, h') ∧ Φ e fr h' := by
  cases r with
  | none => exact h.elim
  | some x => exact ⟨_, _, _, rfl, h⟩

/-- A loop, by an invariant with a number that falls. -/
theorem Ends_lp {step : St → Option (Ex × St)} {Ψ : Ex → Fr → AH → Prop} (Inv : Nat → Fr → AH → Prop)
    (H : ∀ n fr h, Inv n fr h → Ends (step (fr, h)) fun e fr' h' => (e = .normal ∧ ∃ m, m < n ∧ Inv m fr' h') ∨ (e ≠ .normal ∧ Ψ e fr' h')) :
    ∀ (n : Nat) (fr : Fr) (h : AH), Inv n fr h → Ends (lp step (fr, h)) Ψ := by
  intro n
  induction n using Nat.strongRecOn with
  | _ n ih =>
    intro fr h hi
    obtain ⟨e, fr', h', he, hp⟩ := (H n fr h hi).elim'
    rcases hp with ⟨rfl, m, hm, hi'⟩ | ⟨hne, hp⟩
    · obtain ⟨e2, fr2, h2, he2, hp2⟩ := (ih m hm fr' h' hi').elim'
      rw [lp_go he he2]
      exact hp2
    · cases e with
      | normal => exact absurd rfl hne
      | exit i => rw [lp_exit he]; exact hp
      | ret => rw [lp_ret he]; exact hp

/-- A loop over a list: what is done, what is to do. -/
theorem Ends_list {α : Type} {step : St → Option (Ex × St)} {Ψ : Ex → Fr → AH → Prop} (all : List α) (Inv : List α → Fr → AH → Prop)
    (last : ∀ fr h, Inv all fr h → Ends (step (fr, h)) fun e fr' h' => e ≠ .normal ∧ Ψ e fr' h')
    (next : ∀ done x rest, done ++ x :: rest = all → ∀ fr h, Inv done fr h → Ends (step (fr, h)) fun e fr' h' => (e = .normal ∧ Inv (done ++ [x]) fr' h') ∨ (e ≠ .normal ∧ Ψ e fr' h')) :
    ∀ (fr : Fr) (h : AH), Inv [] fr h → Ends (lp step (fr, h)) Ψ := by
  intro fr h hi
  refine Ends_lp (fun n fr h => ∃ done rest, done ++ rest = all ∧ rest.length = n ∧ Inv done fr h) (fun n fr h ⟨done, rest, he, hn, hi⟩ => ?_) all.length fr h ⟨[], all, rfl, rfl, hi⟩
  cases rest with
  | nil =>
    rw [List.append_nil] at he
    subst he
    exact (last fr h hi).mono fun e fr' h' hp => .inr hp
  | cons x rest =>
    refine (next done x rest he fr h hi).mono fun e fr' h' hp => ?_
    rcases hp with ⟨h1, h2⟩ | hp
    · exact .inl ⟨h1, rest.length, by simp at hn; omega, done ++ [x], rest, by simpa using he, rfl, h2⟩
    · exact .inr hp

/-- At a function's end. -/
def FIN (rs : List RRes) (r : AV) : Ex → Fr → AH → Prop
  | .exit _, _, _ => False
  | _, fr, h => fin rs fr h = some r
@[simp] theorem FIN_n (rs : List RRes) (r : AV) (fr : Fr) (h : AH) : FIN rs r .normal fr h = (fin rs fr h = some r) := _root_.id rfl
@[simp] theorem FIN_r (rs : List RRes) (r : AV) (fr : Fr) (h : AH) : FIN rs r .ret fr h = (fin rs fr h = some r) := _root_.id rfl

theorem pc_ends {C : Cfg} {f : FuncId} {rf : RFunc} {args : List AV} {r : AV} (hs : C.spec f = none) (hc : C.code f = some rf) (hl : args.length ≤ rf.ntmps)
    (H : ∀ fr : Fr, fr.length = rf.ntmps → (∀ i, look fr i = args.getD i undefA) → Ends (evalCode (lim C) (C.ctx f) rf.body (fr, ⟨[], []⟩)) (FIN rf.results r)) : pc C f args = some r := by
  refine pc_run hs hc hl fun fr h1 h2 => ?_
  obtain ⟨e, fr', h', he, hp⟩ := (H fr h1 h2).elim'
  rw [he]
  cases e with
  | exit i => exact hp.elim
  | normal => exact hp
  | ret => exact hp

def RFIN (rs : List RRes) (Φ : AV → AH → Prop) : Ex → Fr → AH → Prop
  | .exit _, _, _ => False
  | _, fr, h => ∃ vs, resA fr h rs = some vs ∧ Φ (tupled vs) h
@[simp] theorem RFIN_n (rs : List RRes) (Φ : AV → AH → Prop) (fr : Fr) (h : AH) : RFIN rs Φ .normal fr h = (∃ vs, resA fr h rs = some vs ∧ Φ (tupled vs) h) := _root_.id rfl
@[simp] theorem RFIN_r (rs : List RRes) (Φ : AV → AH → Prop) (fr : Fr) (h : AH) : RFIN rs Φ .ret fr h = (∃ vs, resA fr h rs = some vs ∧ Φ (tupled vs) h) := _root_.id rfl

theorem rc_ends {C : Cfg} {f : FuncId} {rf : RFunc} {args : List AV} {h : AH} {Φ : AV → AH → Prop} (hc : C.code f = some rf) (hl : args.length ≤ rf.ntmps)
    (H : ∀ fr : Fr, fr.length = rf.ntmps → (∀ i, look fr i = args.getD i undefA) → Ends (evalCode (lim C) (C.ctx f) rf.body (fr, h)) (RFIN rf.results Φ)) : ∃ v h', rc C f args h = some (v, h') ∧ Φ v h' := by
  obtain ⟨hl', hlook⟩ := look_start hl
  obtain ⟨e, fr', h', he, hp⟩ := (H _ hl' hlook).elim'
  have key : ∃ vs, resA fr' h' rf.results = some vs ∧ Φ (tupled vs) h' := by
    cases e with
    | exit i => exact hp.elim
    | normal => exact hp
    | ret => exact hp
  obtain ⟨vs, hv, hΦ⟩ := key
  refine ⟨tupled vs, h', rc_of C ?_, hΦ⟩
  unfold rawA
  simp only [hc]
  unfold evalBody
  rw [he]
  cases e with
  | exit i => exact hp.elim
  | normal => simp only [hv]; rfl
  | ret => simp only [hv]; rfl

end Go.Abs

/- The settings under which the functions are taken. -/
namespace Go.Abs.Q
open Go.Proofs

def cmpBytes (a b : ByteArray) : Int := if Op.bytesLess a.toList b.toList then -1 else if a.toList = b.toList then 0 else 1
def specCmp : List AV → Option AV
  | [.str a, .str b] => some (.int .i64 (cmpBytes a b))
  | _ => none
def specF (f : FuncId) : Option (List AV → Option AV) := if f = n_bytealg_CompareString then some specCmp else none
noncomputable def Q : Cfg := ⟨resFunc Try.prog ctxF, ctxF, specF⟩
@[simp] theorem Q_ctx (f : FuncId) : Q.ctx f = ctxF f := _root_.id rfl
@[simp] theorem ctxF_raw (f : FuncId) : (ctxF f).raw = rawF := _root_.id rfl
@[simp] theorem ctxF_mut (f : FuncId) : (ctxF f).mutApp = mutF f := _root_.id rfl
theorem pc_cmp (a b : ByteArray) : pc Q n_bytealg_CompareString [.str a, .str b] = some (.int .i64 (cmpBytes a b)) := by
  apply pc_of
  unfold pureA
  rfl
theorem pcQ {f : FuncId} {rf : RFunc} {args : List AV} {r : AV} (hc : resFunc Try.prog ctxF f = some rf) (hs : specF f = none) (hl : args.length ≤ rf.ntmps)
    (H : ∀ fr : Fr, fr.length = rf.ntmps → (∀ i, look fr i = args.getD i undefA) → Ends (evalCode (lim Q) (ctxF f) rf.body (fr, ⟨[], []⟩)) (FIN rf.results r)) : pc Q f args = some r :=
  pc_ends (C := Q) hs hc hl H
theorem rcQ {f : FuncId} {rf : RFunc} {args : List AV} {h : AH} {Φ : AV → AH → Prop} (hc : resFunc Try.prog ctxF f = some rf) (hl : args.length ≤ rf.ntmps)
    (H : ∀ fr : Fr, fr.length = rf.ntmps → (∀ i, look fr i = args.getD i undefA) → Ends (evalCode (lim Q) (ctxF f) rf.body (fr, h)) (RFIN rf.results Φ)) : ∃ v h', rc Q f args h = some (v, h') ∧ Φ v h' :=
  rc_ends (C := Q) hc hl H
end Go.Abs.Q

/- Contracts: comparing numbers, sizes of terms. -/
namespace Go.Abs.Q
attribute [local simp] look_set_ne look_set_eq fin tupled code_loop

def cmpI (a b : Int) : Int := if a < b then -1 else if b < a then 1 else 0

theorem pc_sign (a b : Int) : pc Q n_term_sign [.int .i64 a, .int .i64 b] = some (.int .i64 (cmpI a b)) := by
  refine pcQ res_term_sign rfl (by simp [x_term_sign]) fun fr hl ha => ?_
  have h0 := ha 0
  have h1 := ha 1
  simp [x_term_sign] at hl h0 h1 ⊢
  by_cases h : a < b
  · simp [*, cmpI]
  · by_cases h' : b < a <;> simp [*, cmpI]

theorem pc_number (a b : Int) : pc Q n_ref01_number [.int .i64 a, .int .i64 b] = some (.int .i64 (cmpI a b)) := by
  refine pcQ res_ref01_number rfl (by simp [x_ref01_number]) fun fr hl ha => ?_
  have h0 := ha 0
  have h1 := ha 1
  simp [x_ref01_number] at hl h0 h1 ⊢
  by_cases h : a < b
  · simp [*, cmpI]
  · by_cases h' : b < a <;> simp [*, cmpI]
end Go.Abs.Q

/- Contracts: sizes of terms. -/
namespace Go.Abs.Q
attribute [local simp] look_set_ne look_set_eq fin tupled code_loop raw_term_Size raw_ref01_Size

theorem pc_Size : ∀ (n : Nat) (t : Tm), t.size ≤ n → t.size ≤ 1099511627776 → pc Q n_term_Size [tmV t] = some (.int .i64 t.size) := by
  intro n
  induction n with
  | zero => intro t h; have := t.size_pos; omega
  | succ n ih =>
    intro t hn hb
    obtain ⟨k, nm, s, m, kids⟩ := t
    have hsz : Tm.size (.mk k nm s m kids) = 1 + Tm.sizes kids := rfl
    refine pcQ res_term_Size rfl (by simp [x_term_Size]) fun fr hl ha => ?_
    have h0 := ha 0
    clear ha
    simp [x_term_Size, tmV] at hl h0 ⊢
    simp [*]
    refine (Ends_list (Ψ := fun e fr h => e = .exit 0 ∧ look fr 3 = .int .i64 (1 + Tm.sizes kids : Nat) ∧ fr.length = 19) kids
      (fun done fr h => fr.length = 19 ∧ look fr 3 = .int .i64 (1 + Tm.sizes done : Nat) ∧ look fr 7 = sl m 4 (tmVs kids) ∧ look fr 8 = .int .i64 kids.length ∧ look fr 9 = .int .i64 done.length) ?_ ?_ _ _ ?_).mono ?_
    · rintro fr h ⟨hl, h3, h7, h8, h9⟩
      simp [x_term_Size_0, *]
    · rintro done t rest he fr h ⟨hl, h3, h7, h8, h9⟩
      have hget : nth (tmVs kids) done.length = some (tmV t) := nth_tmVs (by rw [← he]; simp)
      have hlt : done.length < kids.length := by rw [← he]; simp
      have hts : t.size ≤ Tm.sizes kids := Tm.size_le (by rw [← he]; simp)
      have hT := ih t (by omega) (by omega)
      have hlen := Tm.length_le kids
      have hsum : Tm.sizes done + (t.size + Tm.sizes rest) = Tm.sizes kids := by rw [← he, Tm.sizes_append]; rfl
      have hw1 : IntKind.i64.wrap (1 + (Tm.sizes done : Int) + (t.size : Int)) = 1 + (Tm.sizes (done ++ [t]) : Int) := by
        rw [Tm.sizes_append, wrap_id (by omega) (by omega)]
        simp only [Tm.sizes]
        omega
      have hw2 : IntKind.i64.wrap ((done.length : Int) + 1) = ((done ++ [t]).length : Nat) := by
        rw [wrap_id (by omega) (by omega)]
        simp
      obtain ⟨tk, tn, ts, tm, tl⟩ := t
      simp only [tmV] at hT hget
      simp [x_term_Size_0, *]
    · simp [*, Tm.sizes, tmVs_map]
    · rintro e fr h ⟨rfl, h3, hl⟩
      simp [*]
end Go.Abs.Q

/- Contracts: sizes of terms, the reference's; comparing strings and terms. -/
namespace Go.Abs.Q
attribute [local simp] look_set_ne look_set_eq fin tupled code_loop raw_term_Size raw_ref01_Size raw_bytealg_CompareString raw_strings_Compare raw_term_sign raw_ref01_number raw_term_Compare raw_ref01_Compare

theorem pc_refSize : ∀ (n : Nat) (t : Tm), t.size ≤ n → t.size ≤ 1099511627776 → pc Q n_ref01_Size [tmV t] = some (.int .i64 t.size) := by
  intro n
  induction n with
  | zero => intro t h; have := t.size_pos; omega
  | succ n ih =>
    intro t hn hb
    obtain ⟨k, nm, s, m, kids⟩ := t
    have hsz : Tm.size (.mk k nm s m kids) = 1 + Tm.sizes kids := rfl
    refine pcQ res_ref01_Size rfl (by simp [x_ref01_Size]) fun fr hl ha => ?_
    have h0 := ha 0
    clear ha
    simp [x_ref01_Size, tmV] at hl h0 ⊢
    simp [h0]
    refine (Ends_list (Ψ := fun e fr h => e = .exit 0 ∧ look fr 3 = .int .i64 (1 + Tm.sizes kids : Nat) ∧ fr.length = 21) kids
      (fun done fr h => fr.length = 21 ∧ look fr 1 = .ptr 0 0 ∧ h = ⟨[[.int .i64 k, .str nm, .int .i64 s, sl m 4 (tmVs kids)]], []⟩ ∧ look fr 3 = .int .i64 (1 + Tm.sizes done : Nat) ∧ look fr 4 = .int .i64 done.length) ?_ ?_ _ _ ?_).mono ?_
    · rintro fr h ⟨hl, h1, rfl, h3, h4⟩
      simp [x_ref01_Size_0, tmVs_map, *]
    · rintro done t rest he fr h ⟨hl, h1, rfl, h3, h4⟩
      have hget : nth (tmVs kids) done.length = some (tmV t) := nth_tmVs (by rw [← he]; simp)
      have hlt : done.length < kids.length := by rw [← he]; simp
      have hts : t.size ≤ Tm.sizes kids := Tm.size_le (by rw [← he]; simp)
      have hT := ih t (by omega) (by omega)
      have hlen := Tm.length_le kids
      have hsum : Tm.sizes done + (t.size + Tm.sizes rest) = Tm.sizes kids := by rw [← he, Tm.sizes_append]; rfl
      have hw1 : IntKind.i64.wrap (1 + (Tm.sizes done : Int) + (t.size : Int)) = 1 + (Tm.sizes (done ++ [t]) : Int) := by
        rw [Tm.sizes_append, wrap_id (by omega) (by omega)]
        simp only [Tm.sizes]
        omega
      have hw2 : IntKind.i64.wrap ((done.length : Int) + 1) = ((done ++ [t]).length : Nat) := by
        rw [wrap_id (by omega) (by omega)]
        simp
      obtain ⟨tk, tn, ts, tm, tl⟩ := t
      simp only [tmV] at hT hget
      simp [x_ref01_Size_0, *]
    · simp [*, Tm.sizes]
    · rintro e fr h ⟨rfl, h3, hl⟩
      simp [*]

theorem pc_strCmp (a b : ByteArray) : pc Q n_strings_Compare [.str a, .str b] = some (.int .i64 (cmpBytes a b)) := by
  refine pcQ res_strings_Compare rfl (by simp [x_strings_Compare]) fun fr hl ha => ?_
  have h0 := ha 0
  have h1 := ha 1
  clear ha
  simp [x_strings_Compare] at hl h0 h1 ⊢
  simp [*, pc_cmp]

def nz (a b : Int) : Int := if a = 0 then b else a
mutual
def cmpT : Tm → Tm → Int
  | .mk k n s _ l, .mk k' n' s' _ l' => nz (cmpI (1 + Tm.sizes l : Nat) (1 + Tm.sizes l' : Nat)) (nz (cmpI k k') (nz (cmpBytes n n') (nz (cmpI s s') (nz (cmpI l.length l'.length) (cmpTs l l')))))
def cmpTs : List Tm → List Tm → Int
  | t :: l, t' :: l' => nz (cmpT t t') (cmpTs l l')
  | _, _ => 0
end

theorem cmpI_len {a b : Nat} (h : cmpI (a : Int) (b : Int) = 0) : a = b := by
  unfold cmpI at h
  split at h
  · omega
  · split at h <;> omega
theorem cmpTs_nil (l : List Tm) : cmpTs [] l = 0 := by cases l <;> rfl

theorem pc_Compare : ∀ (n : Nat) (t t' : Tm), t.size ≤ n → t.size ≤ 1099511627776 → t'.size ≤ 1099511627776 → pc Q n_term_Compare [tmV t, tmV t'] = some (.int .i64 (cmpT t t')) := by
  intro n
  induction n with
  | zero => intro t t' h; have := t.size_pos; omega
  | succ n ih =>
    intro t t' hn hb hb'
    have hS := pc_Size _ t (Nat.le_refl _) hb
    have hS' := pc_Size _ t' (Nat.le_refl _) hb'
    obtain ⟨k, nm, s, m, l⟩ := t
    obtain ⟨k', nm', s', m', l'⟩ := t'
    have hsz : Tm.size (.mk k nm s m l) = 1 + Tm.sizes l := rfl
    have hsz' : Tm.size (.mk k' nm' s' m' l') = 1 + Tm.sizes l' := rfl
    have hlen := Tm.length_le l
    simp only [tmV, hsz, hsz'] at hS hS'
    have loop : ∀ (fr : Fr) (c : Int), fr.length = 65 → look fr 2 = .ptr 0 0 → look fr 3 = .ptr 1 0 → look fr 5 = .int .i64 c → look fr 6 = .int .i64 0 → (c = 0 → l.length = l'.length) →
        Ends (lp (evalCode (lim Q) (ctxF n_term_Compare) x_term_Compare_0) (fr, ⟨[[.int .i64 k, .str nm, .int .i64 s, sl m 4 (tmVs l)], [.int .i64 k', .str nm', .int .i64 s', sl m' 4 (tmVs l')]], []⟩))
          fun e fr' _ => e = .exit 0 ∧ fr'.length = 65 ∧ look fr' 5 = .int .i64 (nz c (cmpTs l l')) := by
      intro fr c hl h2 h3 h5 h6 hc
      refine Ends_lp (fun n fr h => ∃ i c', i + n = l.length ∧ fr.length = 65 ∧ look fr 2 = .ptr 0 0 ∧ look fr 3 = .ptr 1 0 ∧ look fr 5 = .int .i64 c' ∧ look fr 6 = .int .i64 (i : Nat) ∧ (c' = 0 → l.length = l'.length) ∧
        nz c' (cmpTs (l.drop i) (l'.drop i)) = nz c (cmpTs l l') ∧ h = ⟨[[.int .i64 k, .str nm, .int .i64 s, sl m 4 (tmVs l)], [.int .i64 k', .str nm', .int .i64 s', sl m' 4 (tmVs l')]], []⟩) ?_ l.length fr _ ⟨0, c, by omega, hl, h2, h3, h5, h6, hc, rfl, rfl⟩
      rintro n fr h ⟨i, c', hi, hl, h2, h3, h5, h6, hc', hr, rfl⟩
      by_cases hc0 : c' = 0
      · subst hc0
        have hle := hc' rfl
        by_cases hlt : i < l.length
        · have hx : nth (tmVs l) i = some (tmV l[i]) := nth_tmVs (by simp [hlt])
          have hx' : nth (tmVs l') i = some (tmV (l'[i]'(by omega))) := nth_tmVs (by simp [show i < l'.length by omega])
          have s1 := Tm.size_le (List.getElem_mem hlt)
          have s2 := Tm.size_le (List.getElem_mem (show i < l'.length by omega))
          have hT := ih l[i] (l'[i]'(by omega)) (by omega) (by omega) (by omega)
          have hw : IntKind.i64.wrap ((i : Int) + 1) = (i : Int) + 1 := wrap_id (by omega) (by omega)
          rw [List.drop_eq_getElem_cons hlt, List.drop_eq_getElem_cons (show i < l'.length by omega)] at hr
          simp only [cmpTs, nz, if_true] at hr
          generalize l[i] = t at *
          generalize l'[i]'(by omega) = t' at *
          obtain ⟨tk, tn, ts, tm, tl⟩ := t
          obtain ⟨tk', tn', ts', tm', tl'⟩ := t'
          simp only [tmV] at hT hx hx'
          clear ih hS hS' hc hsz hsz'
          simp [x_term_Compare_0, hl, h2, h3, h5, h6, hlt, hx, hx', hT, hw]
          exact ⟨n - 1, by omega, i + 1, by omega, by simp, fun _ => hle, hr⟩
        · have h0 : l.length ≤ i := by omega
          rw [List.drop_eq_nil_of_le h0, cmpTs_nil] at hr
          clear ih hS hS' hc hsz hsz' hle hc'
          simp [x_term_Compare_0, hl, h2, h3, h5, h6, hlt]
          exact hr
      · clear ih hS hS' hc hsz hsz'
        simp [x_term_Compare_0, *]
        simpa [nz, hc0] using hr
    refine pcQ res_term_Compare rfl (by simp [x_term_Compare]) fun fr hl ha => ?_
    have h0 := ha 0
    have h1 := ha 1
    clear ha ih
    simp [x_term_Compare, tmV] at hl h0 h1 ⊢
    by_cases e0 : cmpI (1 + (Tm.sizes l : Int)) (1 + (Tm.sizes l' : Int)) = 0
    · by_cases e1 : cmpI k k' = 0
      · by_cases e2 : cmpBytes nm nm' = 0
        · by_cases e3 : cmpI s s' = 0
          · by_cases e4 : cmpI (l.length : Int) (l'.length : Int) = 0
            · simp [e0, e1, e2, e3, e4, h0, h1, hl, hS, hS', pc_sign, pc_strCmp]
              refine (loop _ (0) (by simp [hl]) (by simp [hl]) (by simp [hl]) (by simp [hl]) (by simp [hl]) ?_).mono ?_
              · intro hc
                exact cmpI_len e4
              · rintro e fr h ⟨rfl, hl, h5⟩
                simp [hl, h5, cmpT, nz, e0, e1, e2, e3, e4]
            · simp [e0, e1, e2, e3, e4, h0, h1, hl, hS, hS', pc_sign, pc_strCmp]
              refine (loop _ (cmpI (l.length : Int) (l'.length : Int)) (by simp [hl]) (by simp [hl]) (by simp [hl]) (by simp [hl]) (by simp [hl]) ?_).mono ?_
              · intro hc
                exact absurd hc e4
              · rintro e fr h ⟨rfl, hl, h5⟩
                simp [hl, h5, cmpT, nz, e0, e1, e2, e3, e4]
          · simp [e0, e1, e2, e3, h0, h1, hl, hS, hS', pc_sign, pc_strCmp]
            refine (loop _ (cmpI s s') (by simp [hl]) (by simp [hl]) (by simp [hl]) (by simp [hl]) (by simp [hl]) ?_).mono ?_
            · intro hc
              exact absurd hc e3
            · rintro e fr h ⟨rfl, hl, h5⟩
              simp [hl, h5, cmpT, nz, e0, e1, e2, e3]
        · simp [e0, e1, e2, h0, h1, hl, hS, hS', pc_sign, pc_strCmp]
          refine (loop _ (cmpBytes nm nm') (by simp [hl]) (by simp [hl]) (by simp [hl]) (by simp [hl]) (by simp [hl]) ?_).mono ?_
          · intro hc
            exact absurd hc e2
          · rintro e fr h ⟨rfl, hl, h5⟩
            simp [hl, h5, cmpT, nz, e0, e1, e2]
      · simp [e0, e1, h0, h1, hl, hS, hS', pc_sign, pc_strCmp]
        refine (loop _ (cmpI k k') (by simp [hl]) (by simp [hl]) (by simp [hl]) (by simp [hl]) (by simp [hl]) ?_).mono ?_
        · intro hc
          exact absurd hc e1
        · rintro e fr h ⟨rfl, hl, h5⟩
          simp [hl, h5, cmpT, nz, e0, e1]
    · simp [e0, h0, h1, hl, hS, hS', pc_sign, pc_strCmp]
      refine (loop _ (cmpI (1 + (Tm.sizes l : Int)) (1 + (Tm.sizes l' : Int))) (by simp [hl]) (by simp [hl]) (by simp [hl]) (by simp [hl]) (by simp [hl]) ?_).mono ?_
      · intro hc
        exact absurd hc e0
      · rintro e fr h ⟨rfl, hl, h5⟩
        simp [hl, h5, cmpT, nz, e0]
end Go.Abs.Q

/- Contracts: comparing terms, the reference's. -/
namespace Go.Abs.Q
attribute [local simp] look_set_ne look_set_eq fin tupled code_loop raw_term_Size raw_ref01_Size raw_bytealg_CompareString raw_strings_Compare raw_term_sign raw_ref01_number raw_term_Compare raw_ref01_Compare

theorem pc_refCompare : ∀ (n : Nat) (t t' : Tm), t.size ≤ n → t.size ≤ 1099511627776 → t'.size ≤ 1099511627776 → pc Q n_ref01_Compare [tmV t, tmV t'] = some (.int .i64 (cmpT t t')) := by
  intro n
  induction n with
  | zero => intro t t' h; have := t.size_pos; omega
  | succ n ih =>
    intro t t' hn hb hb'
    have hS := pc_refSize _ t (Nat.le_refl _) hb
    have hS' := pc_refSize _ t' (Nat.le_refl _) hb'
    obtain ⟨k, nm, s, m, l⟩ := t
    obtain ⟨k', nm', s', m', l'⟩ := t'
    have hsz : Tm.size (.mk k nm s m l) = 1 + Tm.sizes l := rfl
    have hsz' : Tm.size (.mk k' nm' s' m' l') = 1 + Tm.sizes l' := rfl
    have hlen := Tm.length_le l
    simp only [tmV, hsz, hsz'] at hS hS'
    have loop : ∀ (fr : Fr), fr.length = 76 → look fr 2 = .ptr 0 0 → look fr 3 = .ptr 1 0 → look fr 9 = .int .i64 0 → l.length = l'.length →
        Ends (lp (evalCode (lim Q) (ctxF n_ref01_Compare) x_ref01_Compare_0) (fr, ⟨[[.int .i64 k, .str nm, .int .i64 s, sl m 4 (tmVs l)], [.int .i64 k', .str nm', .int .i64 s', sl m' 4 (tmVs l')]], []⟩))
          fun e fr' _ => fr'.length = 76 ∧ (e = .exit 0 ∧ cmpTs l l' = 0 ∨ e = .ret ∧ look fr' 4 = .int .i64 (cmpTs l l')) := by
      intro fr hl h2 h3 h9 hle
      refine Ends_lp (fun n fr h => ∃ i, i + n = l.length ∧ fr.length = 76 ∧ look fr 2 = .ptr 0 0 ∧ look fr 3 = .ptr 1 0 ∧ look fr 9 = .int .i64 (i : Nat) ∧
        cmpTs (l.drop i) (l'.drop i) = cmpTs l l' ∧ h = ⟨[[.int .i64 k, .str nm, .int .i64 s, sl m 4 (tmVs l)], [.int .i64 k', .str nm', .int .i64 s', sl m' 4 (tmVs l')]], []⟩) ?_ l.length fr _ ⟨0, by omega, hl, h2, h3, h9, rfl, rfl⟩
      rintro n fr h ⟨i, hi, hl, h2, h3, h9, hr, rfl⟩
      by_cases hlt : i < l.length
      · have hx : nth (tmVs l) i = some (tmV l[i]) := nth_tmVs (by simp [hlt])
        have hx' : nth (tmVs l') i = some (tmV (l'[i]'(by omega))) := nth_tmVs (by simp [show i < l'.length by omega])
        have s1 := Tm.size_le (List.getElem_mem hlt)
        have s2 := Tm.size_le (List.getElem_mem (show i < l'.length by omega))
        have hT := ih l[i] (l'[i]'(by omega)) (by omega) (by omega) (by omega)
        have hw : IntKind.i64.wrap ((i : Int) + 1) = (i : Int) + 1 := wrap_id (by omega) (by omega)
        rw [List.drop_eq_getElem_cons hlt, List.drop_eq_getElem_cons (show i < l'.length by omega)] at hr
        simp only [cmpTs, nz] at hr
        generalize l[i] = t at *
        generalize l'[i]'(by omega) = t' at *
        obtain ⟨tk, tn, ts, tm, tl⟩ := t
        obtain ⟨tk', tn', ts', tm', tl'⟩ := t'
        simp only [tmV] at hT hx hx'
        by_cases hc : cmpT (Tm.mk tk tn ts tm tl) (Tm.mk tk' tn' ts' tm' tl') = 0
        · rw [if_pos hc] at hr
          simp [x_ref01_Compare_0, hl, h2, h3, h9, hlt, hx, hx', hT, hw, hc]
          exact ⟨n - 1, by omega, i + 1, by omega, by simp, hr⟩
        · rw [if_neg hc] at hr
          simp [x_ref01_Compare_0, hl, h2, h3, h9, hlt, hx, hx', hT, hw, hc]
          exact hr
      · have h0 : l.length ≤ i := by omega
        rw [List.drop_eq_nil_of_le h0, cmpTs_nil] at hr
        simp [x_ref01_Compare_0, hl, h2, h3, h9, hlt]
        exact hr.symm
    refine pcQ res_ref01_Compare rfl (by simp [x_ref01_Compare]) fun fr hl ha => ?_
    have h0 := ha 0
    have h1 := ha 1
    clear ha ih
    simp [x_ref01_Compare, tmV] at hl h0 h1 ⊢
    by_cases e0 : cmpI (1 + (Tm.sizes l : Int)) (1 + (Tm.sizes l' : Int)) = 0
    · by_cases e1 : cmpI k k' = 0
      · by_cases e2 : Op.bytesLess nm.toList nm'.toList = true
        · simp [e0, e1, e2, h0, h1, hl, hS, hS', pc_number]
          simp [cmpT, nz, e0, e1, e2, cmpBytes]
        · by_cases e3 : nm.toList = nm'.toList
          · have e2' := e2
            rw [e3] at e2'
            by_cases e5 : cmpI s s' = 0
            · by_cases e4 : cmpI (l.length : Int) (l'.length : Int) = 0
              · simp [e0, e1, e2, e2', e3, e5, e4, h0, h1, hl, hS, hS', pc_number]
                refine (loop _ (by simp [hl]) (by simp [hl]) (by simp [hl]) (by simp [hl]) (cmpI_len e4)).mono ?_
                rintro e fr h ⟨hl, ⟨rfl, hz⟩ | ⟨rfl, h5⟩⟩
                · simp [hl, cmpT, nz, e0, e1, e2, e2', e3, e5, e4, cmpBytes, hz]
                · simp [hl, h5, cmpT, nz, e0, e1, e2, e2', e3, e5, e4, cmpBytes]
              · simp [e0, e1, e2, e2', e3, e5, e4, h0, h1, hl, hS, hS', pc_number]
                simp [cmpT, nz, e0, e1, e2, e2', e3, e5, e4, cmpBytes]
            · simp [e0, e1, e2, e2', e3, e5, h0, h1, hl, hS, hS', pc_number]
              simp [cmpT, nz, e0, e1, e2, e2', e3, e5, cmpBytes]
          · simp [e0, e1, e2, e3, h0, h1, hl, hS, hS', pc_number]
            simp [cmpT, nz, e0, e1, e2, e3, cmpBytes]
      · simp [e0, e1, h0, h1, hl, hS, hS', pc_number]
        simp [cmpT, nz, e0, e1, cmpBytes]
    · simp [e0, h0, h1, hl, hS, hS', pc_number]
      simp [cmpT, nz, e0, cmpBytes]
end Go.Abs.Q

/- Contracts: equality of lists of terms and of moments. -/
namespace Go.Abs.Q
attribute [local simp] look_set_ne look_set_eq fin tupled code_loop raw_term_Compare raw_ref01_Compare raw_goal_equal_1 raw_ref01_Same raw_slices_EqualFunc_Term raw_ref01_Lists

def eqT (t t' : Tm) : Bool := decide (cmpT t t' = 0)
def eqTs : List Tm → List Tm → Bool
  | [], [] => true
  | t :: l, t' :: l' => eqT t t' && eqTs l l'
  | _, _ => false
theorem eqTs_len : ∀ {l l' : List Tm}, eqTs l l' = true → l.length = l'.length
  | [], [], _ => rfl
  | [], _ :: _, h => by simp [eqTs] at h
  | _ :: _, [], h => by simp [eqTs] at h
  | _ :: _, _ :: _, h => by simp [eqTs] at h; simp [eqTs_len h.2]

theorem pc_equal1 (t t' : Tm) (h : t.size ≤ 1099511627776) (h' : t'.size ≤ 1099511627776) : pc Q n_goal_equal_1 [tmV t, tmV t'] = some (.bool (eqT t t')) := by
  have hC := pc_Compare _ t t' (Nat.le_refl _) h h'
  refine pcQ res_goal_equal_1 rfl (by simp [x_goal_equal_1]) fun fr hl ha => ?_
  have h0 := ha 0
  have h1 := ha 1
  clear ha h h'
  obtain ⟨tk, tn, ts, tm, tl⟩ := t
  obtain ⟨tk', tn', ts', tm', tl'⟩ := t'
  simp only [tmV] at hC
  simp [x_goal_equal_1, tmV] at hl h0 h1 ⊢
  simp [h0, h1, hl, hC, eqT]

theorem pc_Same (t t' : Tm) (h : t.size ≤ 1099511627776) (h' : t'.size ≤ 1099511627776) : pc Q n_ref01_Same [tmV t, tmV t'] = some (.bool (eqT t t')) := by
  have hC := pc_refCompare _ t t' (Nat.le_refl _) h h'
  refine pcQ res_ref01_Same rfl (by simp [x_ref01_Same]) fun fr hl ha => ?_
  have h0 := ha 0
  have h1 := ha 1
  clear ha h h'
  obtain ⟨tk, tn, ts, tm, tl⟩ := t
  obtain ⟨tk', tn', ts', tm', tl'⟩ := t'
  simp only [tmV] at hC
  simp [x_ref01_Same, tmV] at hl h0 h1 ⊢
  simp [h0, h1, hl, hC, eqT]

theorem pc_EqualFunc (m m' : Bool × Bool) (l l' : List Tm) (h : Tm.sizes l ≤ 1099511627776) (h' : Tm.sizes l' ≤ 1099511627776) :
    pc Q n_slices_EqualFunc_Term [sl m 4 (tmVs l), sl m' 4 (tmVs l'), .fn n_goal_equal_1 []] = some (.bool (eqTs l l')) := by
  refine pcQ res_slices_EqualFunc_Term rfl (by simp [x_slices_EqualFunc_Term]) fun fr hl ha => ?_
  have h0 := ha 0
  have h1 := ha 1
  have h2 := ha 2
  clear ha
  simp [x_slices_EqualFunc_Term] at hl h0 h1 h2 ⊢
  have hlen := Tm.length_le l
  by_cases hle : l.length = l'.length
  · have hle' : (l.length : Int) = (l'.length : Int) := by omega
    simp [h0, h1, hl, hle]
    refine (Ends_lp (Ψ := fun e fr h => fr.length = 32 ∧ (e = .exit 0 ∧ eqTs l l' = true ∨ e = .ret ∧ look fr 6 = .bool false ∧ eqTs l l' = false))
      (fun n fr h => ∃ i, i + n = l.length ∧ fr.length = 32 ∧ look fr 1 = sl m' 4 (tmVs l') ∧ look fr 2 = .fn n_goal_equal_1 [] ∧ look fr 15 = sl m 4 (tmVs l) ∧ look fr 16 = .int .i64 l.length ∧ look fr 17 = .int .i64 (i : Nat) ∧ eqTs (l.drop i) (l'.drop i) = eqTs l l') ?_ l.length _ _ ?_).mono ?_
    · rintro n fr h ⟨i, hi, hl, h1, h2, h15, h16, h17, hr⟩
      by_cases hlt : i < l.length
      · have hx : nth (tmVs l) i = some (tmV l[i]) := nth_tmVs (by simp [hlt])
        have hx' : nth (tmVs l') i = some (tmV (l'[i]'(by omega))) := nth_tmVs (by simp [show i < l'.length by omega])
        have s1 := Tm.size_le (List.getElem_mem hlt)
        have s2 := Tm.size_le (List.getElem_mem (show i < l'.length by omega))
        have hT := pc_equal1 l[i] (l'[i]'(by omega)) (by omega) (by omega)
        have hw : IntKind.i64.wrap ((i : Int) + 1) = (i : Int) + 1 := wrap_id (by omega) (by omega)
        rw [List.drop_eq_getElem_cons hlt, List.drop_eq_getElem_cons (show i < l'.length by omega)] at hr
        simp only [eqTs] at hr
        generalize l[i] = t at *
        generalize l'[i]'(by omega) = t' at *
        obtain ⟨tk, tn, ts, tm, tl⟩ := t
        obtain ⟨tk', tn', ts', tm', tl'⟩ := t'
        simp only [tmV] at hT hx hx'
        cases hc : eqT (Tm.mk tk tn ts tm tl) (Tm.mk tk' tn' ts' tm' tl') with
        | true =>
          rw [hc] at hT hr
          simp [x_slices_EqualFunc_Term_0, hl, h1, h2, h15, h16, h17, hlt, hx, hx', hT, hw]
          exact ⟨n - 1, by omega, i + 1, by omega, by simp, by simpa using hr⟩
        | false =>
          rw [hc] at hT hr
          simp [x_slices_EqualFunc_Term_0, hl, h1, h2, h15, h16, h17, hlt, hx, hx', hT, hw]
          simpa using hr.symm
      · have e0 : l.length ≤ i := by omega
        rw [List.drop_eq_nil_of_le e0, List.drop_eq_nil_of_le (by omega)] at hr
        simp [x_slices_EqualFunc_Term_0, hl, h16, h17, hlt]
        exact hr.symm
    · exact ⟨0, by omega, by simp [hl], by simp [h1], by simp [h2], by simp [hl], by simp [hl, hle], by simp [hl], rfl⟩
    · rintro e fr h ⟨hl, ⟨rfl, he⟩ | ⟨rfl, h6, he⟩⟩
      · simp [hl, he]
      · simp [hl, h6, he]
  · have hle' : ¬(l.length : Int) = (l'.length : Int) := by omega
    have hf : eqTs l l' = false := by
      cases hq : eqTs l l' with
      | false => rfl
      | true => exact absurd (eqTs_len hq) hle
    simp [h0, h1, hl, hle', hf]

theorem pc_Lists (m m' : Bool × Bool) (l l' : List Tm) (h : Tm.sizes l ≤ 1099511627776) (h' : Tm.sizes l' ≤ 1099511627776) :
    pc Q n_ref01_Lists [sl m 4 (tmVs l), sl m' 4 (tmVs l')] = some (.bool (eqTs l l')) := by
  refine pcQ res_ref01_Lists rfl (by simp [x_ref01_Lists]) fun fr hl ha => ?_
  have h0 := ha 0
  have h1 := ha 1
  clear ha
  simp [x_ref01_Lists] at hl h0 h1 ⊢
  have hlen := Tm.length_le l
  by_cases hle : l.length = l'.length
  · have hle' : (l.length : Int) = (l'.length : Int) := by omega
    simp [h0, h1, hl, hle]
    refine (Ends_lp (Ψ := fun e fr h => fr.length = 27 ∧ (e = .exit 0 ∧ eqTs l l' = true ∨ e = .ret ∧ look fr 4 = .bool false ∧ eqTs l l' = false))
      (fun n fr h => ∃ i, i + n = l.length ∧ fr.length = 27 ∧ look fr 0 = sl m 4 (tmVs l) ∧ look fr 1 = sl m' 4 (tmVs l') ∧ look fr 5 = .int .i64 (i : Nat) ∧ eqTs (l.drop i) (l'.drop i) = eqTs l l') ?_ l.length _ _ ?_).mono ?_
    · rintro n fr h ⟨i, hi, hl, h0, h1, h5, hr⟩
      by_cases hlt : i < l.length
      · have hx : nth (tmVs l) i = some (tmV l[i]) := nth_tmVs (by simp [hlt])
        have hx' : nth (tmVs l') i = some (tmV (l'[i]'(by omega))) := nth_tmVs (by simp [show i < l'.length by omega])
        have s1 := Tm.size_le (List.getElem_mem hlt)
        have s2 := Tm.size_le (List.getElem_mem (show i < l'.length by omega))
        have hT := pc_Same l[i] (l'[i]'(by omega)) (by omega) (by omega)
        have hw : IntKind.i64.wrap ((i : Int) + 1) = (i : Int) + 1 := wrap_id (by omega) (by omega)
        rw [List.drop_eq_getElem_cons hlt, List.drop_eq_getElem_cons (show i < l'.length by omega)] at hr
        simp only [eqTs] at hr
        generalize l[i] = t at *
        generalize l'[i]'(by omega) = t' at *
        obtain ⟨tk, tn, ts, tm, tl⟩ := t
        obtain ⟨tk', tn', ts', tm', tl'⟩ := t'
        simp only [tmV] at hT hx hx'
        cases hc : eqT (Tm.mk tk tn ts tm tl) (Tm.mk tk' tn' ts' tm' tl') with
        | true =>
          rw [hc] at hT hr
          simp [x_ref01_Lists_0, hl, h0, h1, h5, hlt, hx, hx', hT, hw]
          exact ⟨n - 1, by omega, i + 1, by omega, by simp, by simpa using hr⟩
        | false =>
          rw [hc] at hT hr
          simp [x_ref01_Lists_0, hl, h0, h1, h5, hlt, hx, hx', hT, hw]
          simpa using hr.symm
      · have e0 : l.length ≤ i := by omega
        rw [List.drop_eq_nil_of_le e0, List.drop_eq_nil_of_le (by omega)] at hr
        simp [x_ref01_Lists_0, hl, h0, h5, hlt]
        exact hr.symm
    · exact ⟨0, by omega, by simp [hl], by simp [h0], by simp [h1], by simp [hl], rfl⟩
    · rintro e fr h ⟨hl, ⟨rfl, he⟩ | ⟨rfl, h6, he⟩⟩
      · simp [hl, he]
      · simp [hl, h6, he]
  · have hle' : ¬(l.length : Int) = (l'.length : Int) := by omega
    have hf : eqTs l l' = false := by
      cases hq : eqTs l l' with
      | false => rfl
      | true => exact absurd (eqTs_len hq) hle
    simp [h0, h1, hl, hle', hf]

/-- A moment. -/
structure Mo where
  kind : Int
  number : Int
  role : Int
  am : Bool × Bool
  agents : List ByteArray
  goal : Int
  tm : Bool × Bool
  terms : List Tm
def moV (x : Mo) : AV := .agg [.int .i64 x.kind, .int .i64 x.number, .int .i64 x.role, sl x.am 1 (x.agents.map .str), .int .i64 x.goal, sl x.tm 4 (tmVs x.terms)]
def eqM (a b : Mo) : Bool := decide (a.goal = b.goal) && eqTs a.terms b.terms

theorem pc_equal (a b : Mo) (h : Tm.sizes a.terms ≤ 1099511627776) (h' : Tm.sizes b.terms ≤ 1099511627776) : pc Q n_goal_equal [moV a, moV b] = some (.bool (eqM a b)) := by
  have hE := pc_EqualFunc a.tm b.tm a.terms b.terms h h'
  refine pcQ res_goal_equal rfl (by simp [x_goal_equal]) fun fr hl ha => ?_
  have h0 := ha 0
  have h1 := ha 1
  clear ha h h'
  simp [x_goal_equal, moV] at hl h0 h1 ⊢
  by_cases hg : a.goal = b.goal
  · simp [h0, h1, hl, hE, hg, eqM]
  · simp [h0, h1, hl, hE, hg, eqM]

theorem pc_Equal (a b : Mo) (h : Tm.sizes a.terms ≤ 1099511627776) (h' : Tm.sizes b.terms ≤ 1099511627776) : pc Q n_ref27_Equal [moV a, moV b] = some (.bool (eqM a b)) := by
  have hE := pc_Lists a.tm b.tm a.terms b.terms h h'
  refine pcQ res_ref27_Equal rfl (by simp [x_ref27_Equal]) fun fr hl ha => ?_
  have h0 := ha 0
  have h1 := ha 1
  clear ha h h'
  simp [x_ref27_Equal, moV] at hl h0 h1 ⊢
  by_cases hg : a.goal = b.goal
  · simp [h0, h1, hl, hE, hg, eqM]
  · simp [h0, h1, hl, hE, hg, eqM]
end Go.Abs.Q

/- Contracts: fitting moments. -/
namespace Go.Abs.Q
attribute [local simp] look_set_ne look_set_eq fin tupled code_loop raw_goal_kind raw_ref27_kind raw_goal_equal raw_ref27_Equal raw_goal_fits raw_ref27_Fits

def mosV (m : Bool × Bool) (l : List Mo) : AV := sl m 6 (l.map moV)
def atI (l : List Mo) (i : Int) : Option Mo := if 0 ≤ i then l[i.toNat]? else none
def kindB (l : List Mo) (i k : Int) : Bool := match atI l i with | some x => decide (x.kind = k) | none => false
def fitsB (l : List Mo) (b c : Int) : Bool := match atI l b, atI l c with | some x, some y => decide (x.kind = 4) && decide (y.kind = 5) && decide (b < c) && eqM x y | _, _ => false
/-- The moments' terms are not great. -/
def fine (l : List Mo) : Prop := ∀ x ∈ l, Tm.sizes x.terms ≤ 1099511627776

theorem atI_some {l : List Mo} {i : Int} {x : Mo} (h : atI l i = some x) : 0 ≤ i ∧ i < l.length ∧ l[i.toNat]? = some x ∧ x ∈ l := by
  unfold atI at h
  split at h
  · have := (List.getElem?_eq_some_iff.1 h).1
    exact ⟨by assumption, by omega, h, List.mem_of_getElem? h⟩
  · cases h
theorem atI_none {l : List Mo} {i : Int} (h : atI l i = none) : ¬(0 ≤ i ∧ i < l.length) := by
  unfold atI at h
  split at h
  · have := List.getElem?_eq_none_iff.1 h
    omega
  · omega

theorem pc_kind (m : Bool × Bool) (l : List Mo) (i k : Int) : pc Q n_goal_kind [mosV m l, .int .i64 i, .int .i64 k] = some (.bool (kindB l i k)) := by
  refine pcQ res_goal_kind rfl (by simp [x_goal_kind]) fun fr hl ha => ?_
  have h0 := ha 0
  have h1 := ha 1
  have h2 := ha 2
  clear ha
  simp [x_goal_kind, mosV] at hl h0 h1 h2
  cases hx : atI l i with
  | none =>
    have hn := atI_none hx
    by_cases hi : 0 ≤ i
    · have hi' : ¬(i < l.length) := by omega
      simp [x_goal_kind, h0, h1, h2, hl, hi, hi', kindB, hx]
    · simp [x_goal_kind, h0, h1, h2, hl, hi, kindB, hx]
  | some x =>
    obtain ⟨g1, g2, g3, _⟩ := atI_some hx
    have hn := nth_map (f := moV) g3
    simp only [moV] at hn
    simp [x_goal_kind, h0, h1, h2, hl, g1, g2, hn, kindB, hx]

theorem pc_refkind (m : Bool × Bool) (l : List Mo) (i k : Int) : pc Q n_ref27_kind [mosV m l, .int .i64 i, .int .i64 k] = some (.bool (kindB l i k)) := by
  refine pcQ res_ref27_kind rfl (by simp [x_ref27_kind]) fun fr hl ha => ?_
  have h0 := ha 0
  have h1 := ha 1
  have h2 := ha 2
  clear ha
  simp [x_ref27_kind, mosV] at hl h0 h1 h2
  cases hx : atI l i with
  | none =>
    have hn := atI_none hx
    by_cases hi : 0 ≤ i
    · have hi' : ¬(i < l.length) := by omega
      simp [x_ref27_kind, h0, h1, h2, hl, hi, hi', kindB, hx]
    · simp [x_ref27_kind, h0, h1, h2, hl, hi, kindB, hx]
  | some x =>
    obtain ⟨g1, g2, g3, _⟩ := atI_some hx
    have hn := nth_map (f := moV) g3
    simp only [moV] at hn
    simp [x_ref27_kind, h0, h1, h2, hl, g1, g2, hn, kindB, hx]

theorem pc_fits (m : Bool × Bool) (l : List Mo) (hf : fine l) (b c : Int) : pc Q n_goal_fits [mosV m l, .int .i64 b, .int .i64 c] = some (.bool (fitsB l b c)) := by
  have hk := pc_kind m l
  refine pcQ res_goal_fits rfl (by simp [x_goal_fits]) fun fr hl ha => ?_
  have h0 := ha 0
  have h1 := ha 1
  have h2 := ha 2
  clear ha
  simp [x_goal_fits, mosV] at hl h0 h1 h2 hk
  cases hx : atI l b with
  | none => simp [x_goal_fits, h0, h1, h2, hl, hk, fitsB, kindB, hx]
  | some x =>
    obtain ⟨g1, g2, g3, g4⟩ := atI_some hx
    by_cases hxk : x.kind = 4
    · cases hy : atI l c with
      | none => simp [x_goal_fits, h0, h1, h2, hl, hk, fitsB, kindB, hx, hy, hxk]
      | some y =>
        obtain ⟨k1, k2, k3, k4⟩ := atI_some hy
        have hn := nth_map (f := moV) g3
        have hn' := nth_map (f := moV) k3
        have hE := pc_equal x y (hf x g4) (hf y k4)
        simp only [moV] at hn hn' hE
        by_cases hyk : y.kind = 5
        · by_cases hbc : b < c
          · rw [hxk] at hn hE
            rw [hyk] at hn' hE
            simp [x_goal_fits, h0, h1, h2, hl, hk, fitsB, kindB, hx, hy, hxk, hyk, hbc, g1, k1, hn, hn', hE]
          · simp [x_goal_fits, h0, h1, h2, hl, hk, fitsB, kindB, hx, hy, hxk, hyk, hbc]
        · simp [x_goal_fits, h0, h1, h2, hl, hk, fitsB, kindB, hx, hy, hxk, hyk]
    · have hv : fitsB l b c = false := by
        unfold fitsB
        rw [hx]
        cases atI l c <;> simp [hxk]
      rw [hv]
      simp [x_goal_fits, h0, h1, h2, hl, hk, kindB, hx, hxk]


theorem pc_refFits (m : Bool × Bool) (l : List Mo) (hf : fine l) (b c : Int) : pc Q n_ref27_Fits [mosV m l, .int .i64 b, .int .i64 c] = some (.bool (fitsB l b c)) := by
  have hk := pc_refkind m l
  refine pcQ res_ref27_Fits rfl (by simp [x_ref27_Fits]) fun fr hl ha => ?_
  have h0 := ha 0
  have h1 := ha 1
  have h2 := ha 2
  clear ha
  simp [x_ref27_Fits, mosV] at hl h0 h1 h2 hk
  cases hx : atI l b with
  | none => simp [x_ref27_Fits, h0, h1, h2, hl, hk, fitsB, kindB, hx]
  | some x =>
    obtain ⟨g1, g2, g3, g4⟩ := atI_some hx
    by_cases hxk : x.kind = 4
    · cases hy : atI l c with
      | none => simp [x_ref27_Fits, h0, h1, h2, hl, hk, fitsB, kindB, hx, hy, hxk]
      | some y =>
        obtain ⟨k1, k2, k3, k4⟩ := atI_some hy
        have hn := nth_map (f := moV) g3
        have hn' := nth_map (f := moV) k3
        have hE := pc_Equal x y (hf x g4) (hf y k4)
        simp only [moV] at hn hn' hE
        by_cases hyk : y.kind = 5
        · by_cases hbc : b < c
          · rw [hxk] at hn hE
            rw [hyk] at hn' hE
            simp [x_ref27_Fits, h0, h1, h2, hl, hk, fitsB, kindB, hx, hy, hxk, hyk, hbc, g1, k1, hn, hn', hE]
          · simp [x_ref27_Fits, h0, h1, h2, hl, hk, fitsB, kindB, hx, hy, hxk, hyk, hbc]
        · simp [x_ref27_Fits, h0, h1, h2, hl, hk, fitsB, kindB, hx, hy, hxk, hyk]
    · have hv : fitsB l b c = false := by
        unfold fitsB
        rw [hx]
        cases atI l c <;> simp [hxk]
      rw [hv]
      simp [x_ref27_Fits, h0, h1, h2, hl, hk, kindB, hx, hxk]

end Go.Abs.Q

/- Contracts: the first fitting Begin. -/
namespace Go.Abs.Q
attribute [local simp] look_set_ne look_set_eq fin tupled code_loop raw_goal_fits raw_ref27_Fits raw_goal_Agree raw_ref27_Agree

/-- The first Begin that fits, from an index on. -/
def agreeFrom (l : List Mo) (c : Int) : Nat → Nat → AV
  | 0, _ => .tup [.int .i64 0, .bool false]
  | n + 1, i => if fitsB l i c = true then .tup [.int .i64 i, .bool true] else agreeFrom l c n (i + 1)
def agreeV (l : List Mo) (c : Int) : AV := agreeFrom l c l.length 0

theorem pc_Agree (m : Bool × Bool) (l : List Mo) (hf : fine l) (hlen : l.length ≤ 1099511627776) (c : Int) : pc Q n_goal_Agree [mosV m l, .int .i64 c] = some (agreeV l c) := by
  refine pcQ res_goal_Agree rfl (by simp [x_goal_Agree]) fun fr hl ha => ?_
  have hk := pc_fits m l hf
  have h0 := ha 0
  have h1 := ha 1
  clear ha
  simp [x_goal_Agree, mosV] at hl h0 h1 hk
  simp [x_goal_Agree, hl, h0, h1]
  refine (Ends_lp (Ψ := fun e fr h => fr.length = 18 ∧ (e = .exit 0 ∧ agreeV l c = .tup [.int .i64 0, .bool false] ∨ e = .ret ∧ agreeV l c = .tup [look fr 4, look fr 5] ∧ ∃ i, look fr 4 = .int .i64 i ∧ look fr 5 = .bool true))
    (fun n fr h => ∃ i, i + n = l.length ∧ fr.length = 18 ∧ look fr 0 = sl m 6 (l.map moV) ∧ look fr 1 = .int .i64 c ∧ look fr 8 = .int .i64 l.length ∧ look fr 9 = .int .i64 (i : Nat) ∧ agreeFrom l c n i = agreeV l c) ?_ l.length _ _ ?_).mono ?_
  · rintro n fr h ⟨i, hi, hl, h0, h1, h8, h9, hr⟩
    by_cases hlt : i < l.length
    · have hw : IntKind.i64.wrap ((i : Int) + 1) = (i : Int) + 1 := wrap_id (by omega) (by omega)
      obtain ⟨n, rfl⟩ : ∃ q, n = q + 1 := ⟨n - 1, by omega⟩
      simp only [agreeFrom] at hr
      cases hc : fitsB l i c with
      | true =>
        rw [if_pos hc] at hr
        simp [x_goal_Agree_0, hl, h0, h1, h8, h9, hlt, hk, hw, hc]
        exact hr.symm
      | false =>
        rw [if_neg (by simp [hc])] at hr
        simp [x_goal_Agree_0, hl, h0, h1, h8, h9, hlt, hk, hw, hc]
        exact ⟨n, by omega, i + 1, by omega, by simp, hr⟩
    · obtain rfl : n = 0 := by omega
      simp [x_goal_Agree_0, hl, h8, h9, hlt]
      exact hr.symm
  · exact ⟨0, by omega, by simp [hl], by simp [h0], by simp [h1], by simp [hl], by simp [hl], rfl⟩
  · rintro e fr h ⟨hl, ⟨rfl, he⟩ | ⟨rfl, he, i, h4, h5⟩⟩
    · simp [hl, he]
    · simp [hl, he, h4, h5]

theorem pc_refAgree (m : Bool × Bool) (l : List Mo) (hf : fine l) (hlen : l.length ≤ 1099511627776) (c : Int) : pc Q n_ref27_Agree [mosV m l, .int .i64 c] = some (agreeV l c) := by
  refine pcQ res_ref27_Agree rfl (by simp [x_ref27_Agree]) fun fr hl ha => ?_
  have hk := pc_refFits m l hf
  have h0 := ha 0
  have h1 := ha 1
  clear ha
  simp [x_ref27_Agree, mosV] at hl h0 h1 hk
  simp [x_ref27_Agree, hl]
  refine (Ends_lp (Ψ := fun e fr h => fr.length = 18 ∧ (e = .exit 0 ∧ agreeV l c = .tup [.int .i64 0, .bool false] ∨ e = .ret ∧ agreeV l c = .tup [look fr 4, look fr 5] ∧ ∃ i, look fr 4 = .int .i64 i ∧ look fr 5 = .bool true))
    (fun n fr h => ∃ i, i + n = l.length ∧ fr.length = 18 ∧ look fr 0 = sl m 6 (l.map moV) ∧ look fr 1 = .int .i64 c ∧ look fr 6 = .int .i64 (i : Nat) ∧ agreeFrom l c n i = agreeV l c) ?_ l.length _ _ ?_).mono ?_
  · rintro n fr h ⟨i, hi, hl, h0, h1, h9, hr⟩
    by_cases hlt : i < l.length
    · have hw : IntKind.i64.wrap ((i : Int) + 1) = (i : Int) + 1 := wrap_id (by omega) (by omega)
      obtain ⟨n, rfl⟩ : ∃ q, n = q + 1 := ⟨n - 1, by omega⟩
      simp only [agreeFrom] at hr
      cases hc : fitsB l i c with
      | true =>
        rw [if_pos hc] at hr
        simp [x_ref27_Agree_0, hl, h0, h1, h9, hlt, hk, hw, hc]
        exact hr.symm
      | false =>
        rw [if_neg (by simp [hc])] at hr
        simp [x_ref27_Agree_0, hl, h0, h1, h9, hlt, hk, hw, hc]
        exact ⟨n, by omega, i + 1, by omega, by simp, hr⟩
    · obtain rfl : n = 0 := by omega
      simp [x_ref27_Agree_0, hl, h0, h9, hlt]
      exact hr.symm
  · exact ⟨0, by omega, by simp [hl], by simp [h0], by simp [h1], by simp [hl], rfl⟩
  · rintro e fr h ⟨hl, ⟨rfl, he⟩ | ⟨rfl, he, i, h4, h5⟩⟩
    · simp [hl, he]
    · simp [hl, he, h4, h5]
end Go.Abs.Q

/- Contracts: small lists of terms and moments. -/
namespace Go.Abs.Q
attribute [local simp] look_set_ne look_set_eq fin tupled code_loop raw_ref01_budget raw_ref01_Few raw_ref27_Few

mutual
def bud : Tm → Int → Int
  | .mk _ n _ _ l, most => if most ≤ 0 ∨ (40 : Int) < n.size then -1 else buds l (most - 1)
def buds : List Tm → Int → Int
  | [], most => most
  | t :: l, most => if bud t most < 0 then -1 else buds l (bud t most)
end
mutual
theorem bud_le : ∀ (t : Tm) (m : Int), bud t m ≤ m ∨ bud t m = -1
  | .mk _ n _ _ l, m => by
    simp only [bud]
    split
    · exact .inr rfl
    · rcases buds_le l (m - 1) with h | h
      · exact .inl (by omega)
      · exact .inr h
theorem buds_le : ∀ (l : List Tm) (m : Int), buds l m ≤ m ∨ buds l m = -1
  | [], m => .inl (Int.le_refl _)
  | t :: l, m => by
    simp only [buds]
    split
    · exact .inr rfl
    · rename_i hb
      rcases bud_le t m with h | h
      · rcases buds_le l (bud t m) with h' | h'
        · exact .inl (by omega)
        · exact .inr h'
      · omega
end

theorem pc_budget : ∀ (n : Nat) (t : Tm) (most : Int), t.size ≤ n → t.size ≤ 1099511627776 → most ≤ 9223372036854775807 → pc Q n_ref01_budget [tmV t, .int .i64 most] = some (.int .i64 (bud t most)) := by
  intro n
  induction n with
  | zero => intro t _ h; have := t.size_pos; omega
  | succ n ih =>
    intro t most hn hb hm
    obtain ⟨k, nm, s, m, kids⟩ := t
    have hsz : Tm.size (.mk k nm s m kids) = 1 + Tm.sizes kids := rfl
    have hlen := Tm.length_le kids
    refine pcQ res_ref01_budget rfl (by simp [x_ref01_budget]) fun fr hl ha => ?_
    have h0 := ha 0
    have h1 := ha 1
    clear ha
    simp [x_ref01_budget, tmV] at hl h0 h1
    by_cases h2 : most ≤ 0
    · simp [x_ref01_budget, hl, h0, h1, h2, bud]
    by_cases h3 : (40 : Int) < nm.size
    · simp [x_ref01_budget, hl, h0, h1, h2, h3, bud]
    have hw0 : IntKind.i64.wrap (most - 1) = most - 1 := wrap_id (by omega) (by omega)
    simp [x_ref01_budget, hl, h0, h1, h2, h3, hw0]
    refine (Ends_lp (Ψ := fun e fr h => fr.length = 33 ∧ (e = .exit 0 ∧ look fr 1 = .int .i64 (buds kids (most - 1)) ∨ e = .ret ∧ look fr 4 = .int .i64 (-1) ∧ buds kids (most - 1) = -1))
      (fun n fr h => ∃ i cur, i + n = kids.length ∧ fr.length = 33 ∧ cur ≤ 9223372036854775807 ∧ look fr 1 = .int .i64 cur ∧ look fr 2 = .ptr 0 0 ∧ look fr 5 = .int .i64 (i : Nat) ∧ buds (kids.drop i) cur = buds kids (most - 1) ∧
        h = ⟨[[.int .i64 k, .str nm, .int .i64 s, sl m 4 (tmVs kids)]], []⟩) ?_ kids.length _ _ ?_).mono ?_
    · rintro n fr h ⟨i, cur, hi, hl, hcur, h1, h2, h5, hr, rfl⟩
      by_cases hlt : i < kids.length
      · have hx : nth (tmVs kids) i = some (tmV kids[i]) := nth_tmVs (by simp [hlt])
        have s1 := Tm.size_le (List.getElem_mem hlt)
        have hT := ih kids[i] cur (by omega) (by omega) hcur
        have hle := bud_le kids[i] cur
        have hw : IntKind.i64.wrap ((i : Int) + 1) = (i : Int) + 1 := wrap_id (by omega) (by omega)
        rw [List.drop_eq_getElem_cons hlt] at hr
        simp only [buds] at hr
        generalize kids[i] = t at *
        obtain ⟨tk, tn, ts, tm, tl⟩ := t
        simp only [tmV] at hT hx
        by_cases hc : bud (Tm.mk tk tn ts tm tl) cur < 0
        · rw [if_pos hc] at hr
          simp [x_ref01_budget_0, hl, h1, h2, h5, hlt, hx, hT, hw, hc]
          exact hr.symm
        · rw [if_neg hc] at hr
          simp [x_ref01_budget_0, hl, h1, h2, h5, hlt, hx, hT, hw, hc]
          refine ⟨n - 1, by omega, i + 1, by omega, _, ?_, rfl, by simp, hr⟩
          omega
      · have h0 : kids.length ≤ i := by omega
        rw [List.drop_eq_nil_of_le h0] at hr
        simp only [buds] at hr
        simp [x_ref01_budget_0, hl, h1, h2, h5, hlt]
        exact hr
    · exact ⟨0, most - 1, by omega, by simp [hl], by omega, by simp [hl], by simp [hl], by simp [hl], rfl, rfl⟩
    · rintro e fr h ⟨hl, ⟨rfl, h1⟩ | ⟨rfl, h4, he⟩⟩
      · simp [hl, h1, bud, h2, h3]
      · simp [hl, h4, he, bud, h2, h3]

def fewL : List Tm → Int → Bool
  | [], _ => true
  | t :: l, most => if bud t most < 0 then false else fewL l (bud t most)
def fewT (l : List Tm) (n most : Int) : Bool := if n < l.length then false else fewL l most

theorem pc_Few (m : Bool × Bool) (l : List Tm) (q most : Int) (h : Tm.sizes l ≤ 1099511627776) (hm : most ≤ 9223372036854775807) : pc Q n_ref01_Few [sl m 4 (tmVs l), .int .i64 q, .int .i64 most] = some (.bool (fewT l q most)) := by
  have hlen := Tm.length_le l
  refine pcQ res_ref01_Few rfl (by simp [x_ref01_Few]) fun fr hl ha => ?_
  have h0 := ha 0
  have h1 := ha 1
  have h2 := ha 2
  clear ha
  simp [x_ref01_Few] at hl h0 h1 h2
  by_cases hq : q < l.length
  · simp [x_ref01_Few, hl, h0, h1, hq, fewT]
  simp [x_ref01_Few, hl, h0, h1, hq]
  refine (Ends_lp (Ψ := fun e fr h => fr.length = 26 ∧ (e = .exit 0 ∧ fewL l most = true ∨ e = .ret ∧ look fr 6 = .bool false ∧ fewL l most = false))
    (fun n fr h => ∃ i cur, i + n = l.length ∧ fr.length = 26 ∧ cur ≤ 9223372036854775807 ∧ look fr 0 = sl m 4 (tmVs l) ∧ look fr 2 = .int .i64 cur ∧ look fr 7 = .int .i64 (i : Nat) ∧ fewL (l.drop i) cur = fewL l most) ?_ l.length _ _ ?_).mono ?_
  · rintro n fr h ⟨i, cur, hi, hl, hcur, h0, h2, h7, hr⟩
    by_cases hlt : i < l.length
    · have hx : nth (tmVs l) i = some (tmV l[i]) := nth_tmVs (by simp [hlt])
      have s1 := Tm.size_le (List.getElem_mem hlt)
      have hT := pc_budget _ l[i] cur (Nat.le_refl _) (by omega) hcur
      have hle := bud_le l[i] cur
      have hw : IntKind.i64.wrap ((i : Int) + 1) = (i : Int) + 1 := wrap_id (by omega) (by omega)
      rw [List.drop_eq_getElem_cons hlt] at hr
      simp only [fewL] at hr
      generalize l[i] = t at *
      obtain ⟨tk, tn, ts, tm, tl⟩ := t
      simp only [tmV] at hT hx
      by_cases hc : bud (Tm.mk tk tn ts tm tl) cur < 0
      · rw [if_pos hc] at hr
        simp [x_ref01_Few_0, hl, h0, h2, h7, hlt, hx, hT, hw, hc]
        exact hr.symm
      · rw [if_neg hc] at hr
        simp [x_ref01_Few_0, hl, h0, h2, h7, hlt, hx, hT, hw, hc]
        refine ⟨n - 1, by omega, i + 1, by omega, _, ?_, rfl, by simp, hr⟩
        omega
    · have e0 : l.length ≤ i := by omega
      rw [List.drop_eq_nil_of_le e0] at hr
      simp only [fewL] at hr
      simp [x_ref01_Few_0, hl, h0, h7, hlt]
      exact hr.symm
  · exact ⟨0, most, by omega, by simp [hl], by omega, by simp [h0], by simp [h2], by simp [hl], rfl⟩
  · rintro e fr h ⟨hl, ⟨rfl, he⟩ | ⟨rfl, h4, he⟩⟩
    · simp [hl, he, fewT, hq]
    · simp [hl, h4, he, fewT, hq]
end Go.Abs.Q

/- Contracts: small lists of moments. -/
namespace Go.Abs.Q
attribute [local simp] look_set_ne look_set_eq fin tupled code_loop raw_ref01_Few raw_ref27_Few

def totM : List Mo → Nat
  | [] => 0
  | x :: l => Tm.sizes x.terms + totM l
theorem totM_fine {l : List Mo} (h : totM l ≤ 1099511627776) : fine l := by
  induction l with
  | nil => intro x hx; cases hx
  | cons y l ih =>
    simp only [totM] at h
    intro x hx
    rcases List.mem_cons.1 hx with rfl | hx
    · omega
    · exact ih (by omega) x hx

def fewMs : List Mo → List Tm → Bool
  | [], acc => fewT acc 200 1000
  | x :: l, acc => if (10 : Int) < x.agents.length then false else fewMs l (acc ++ x.terms)
def fewM (l : List Mo) : Bool := if (60 : Int) < l.length then false else fewMs l []

/-- A list of terms that grows. -/
def Gro (acc : List Tm) (v : AV) (h : AH) : Prop := (acc = [] ∧ v = .vs true 0 [] ∧ h = ⟨[], []⟩) ∨ (acc ≠ [] ∧ v = .sl 0 acc.length 0 acc.length ∧ h = ⟨[], [⟨tmVs acc, 4, false⟩]⟩)

theorem tmVs_append (a b : List Tm) : tmVs (a ++ b) = tmVs a ++ tmVs b := by simp [tmVs_map]

theorem Gro_app {acc : List Tm} {v : AV} {h : AH} (hg : Gro acc v h) (m : Bool × Bool) (l : List Tm) (hb : Tm.sizes acc + Tm.sizes l ≤ 1099511627776) :
    ∃ v' h', appendA (ctxF n_ref27_Few) h 4 56 v (sl m 4 (tmVs l)) = some (v', h') ∧ Gro (acc ++ l) v' h' := by
  have h1 := Tm.length_le acc
  have h2 := Tm.length_le l
  rcases hg with ⟨rfl, rfl, rfl⟩ | ⟨hne, rfl, rfl⟩
  · cases l with
    | nil => exact ⟨_, _, by simp [tmVs], .inl ⟨rfl, rfl, rfl⟩⟩
    | cons t l =>
      have hr : (t :: l).length * 56 ≤ roomA ∧ (t :: l).length ≤ maxLen := by
        simp only [roomA, maxLen]
        omega
      refine ⟨_, _, ?_, .inr ⟨by simp, rfl, rfl⟩⟩
      rw [app_nil, sl_elems, Option.bind_some, tmVs_length, if_neg (by simp), if_pos hr]
      simp [mutF]
  · have hr : (acc.length + l.length) * 56 ≤ roomA ∧ acc.length + l.length ≤ maxLen := by
      simp only [roomA, maxLen]
      omega
    refine ⟨_, _, ?_, .inr ⟨by simp [hne], rfl, rfl⟩⟩
    rw [app_view, sl_elems]
    simp [hr, tmVs_append]

theorem Gro_few {acc : List Tm} {v : AV} {h : AH} (hg : Gro acc v h) (hb : Tm.sizes acc ≤ 1099511627776) :
    ∃ u, frz h true v = some u ∧ pc Q n_ref01_Few [u, .int .i64 200, .int .i64 1000] = some (.bool (fewT acc 200 1000)) := by
  rcases hg with ⟨rfl, rfl, rfl⟩ | ⟨hne, rfl, rfl⟩
  · exact ⟨_, frz_nil _ _, pc_Few (true, false) [] 200 1000 (by simp [Tm.sizes]) (by omega)⟩
  · refine ⟨sl (false, true) 4 (tmVs acc), ?_, pc_Few _ acc 200 1000 hb (by omega)⟩
    have h0 : List.take acc.length (tmVs acc) = tmVs acc := List.take_of_length_le (by simp)
    simp [h0]

theorem pc_FewM (m : Bool × Bool) (l : List Mo) (hb : totM l ≤ 1099511627776) : pc Q n_ref27_Few [mosV m l] = some (.bool (fewM l)) := by
  refine pcQ res_ref27_Few rfl (by simp [x_ref27_Few]) fun fr hl ha => ?_
  have h0 := ha 0
  clear ha
  simp [x_ref27_Few, mosV] at hl h0
  by_cases hq : (60 : Int) < l.length
  · simp [x_ref27_Few, hl, h0, hq, fewM]
  simp [x_ref27_Few, hl, h0, hq]
  refine (Ends_lp (Ψ := fun e fr h => fr.length = 30 ∧ (e = .exit 0 ∧ (∃ acc, Gro acc (look fr 3) h ∧ Tm.sizes acc ≤ 1099511627776 ∧ fewT acc 200 1000 = fewMs l []) ∨ e = .ret ∧ look fr 2 = .bool false ∧ fewMs l [] = false))
    (fun n fr h => ∃ i acc, i + n = l.length ∧ fr.length = 30 ∧ Tm.sizes acc + totM (l.drop i) ≤ 1099511627776 ∧ look fr 0 = sl m 6 (l.map moV) ∧ Gro acc (look fr 3) h ∧ look fr 4 = .int .i64 (i : Nat) ∧ fewMs (l.drop i) acc = fewMs l []) ?_ l.length _ _ ?_).mono ?_
  · rintro n fr h ⟨i, acc, hi, hl, hs, h0, h3, h4, hr⟩
    by_cases hlt : i < l.length
    · have hx := nth_map (f := moV) (List.getElem?_eq_getElem hlt)
      have hw : IntKind.i64.wrap ((i : Int) + 1) = (i : Int) + 1 := wrap_id (by omega) (by omega)
      rw [List.drop_eq_getElem_cons hlt] at hr hs
      simp only [fewMs, totM] at hr hs
      generalize l[i] = x at *
      simp only [moV] at hx
      by_cases hc : (10 : Int) < x.agents.length
      · rw [if_pos hc] at hr
        simp [x_ref27_Few_0, hl, h0, h4, hlt, hx, hw, hc]
        exact hr.symm
      · rw [if_neg hc] at hr
        obtain ⟨v', h', ha, hg⟩ := Gro_app h3 x.tm x.terms (by omega)
        simp [x_ref27_Few_0, hl, h0, h4, hlt, hx, hw, hc, ha]
        refine ⟨n - 1, by omega, i + 1, by omega, _, ?_, hg, by simp, hr⟩
        rw [Tm.sizes_append]
        omega
    · have e0 : l.length ≤ i := by omega
      rw [List.drop_eq_nil_of_le e0] at hr hs
      simp only [fewMs, totM] at hr hs
      simp [x_ref27_Few_0, hl, h0, h4, hlt]
      exact ⟨acc, h3, by omega, hr⟩
  · exact ⟨0, [], by omega, by simp [hl], by simpa [Tm.sizes] using hb, by simp [h0], .inl ⟨rfl, by simp [hl], rfl⟩, by simp [hl], rfl⟩
  · rintro e fr h ⟨hl, ⟨rfl, acc, hg, hs, he⟩ | ⟨rfl, h4, he⟩⟩
    · obtain ⟨u, hu, hp⟩ := Gro_few hg hs
      simp [hl, hu, hp, fewM, hq, he]
    · simp [hl, h4, he, fewM, hq]
end Go.Abs.Q

/- Readings of terms and moments as abstract values. -/
namespace Go.Abs.Q
open Go.Proofs
open Go.Proofs.Ytpkegmgepnhfnaa (Rows.uptoBulk Rows.uptoBulkAll)

theorem c3 : Try.prog.cellsOf 3 = 1 := by kernel_rfl
theorem c9 : Try.prog.cellsOf 9 = 1 := by kernel_rfl
theorem c36 : Try.prog.cellsOf 36 = 1 := by kernel_rfl
theorem c37 : Try.prog.cellsOf 37 = 1 := by kernel_rfl
theorem c65 : Try.prog.cellsOf 65 = 4 := by kernel_rfl
theorem c39 : Try.prog.cellsOf 39 = 6 := by kernel_rfl

variable {w : World}

theorem sizes_sum (l : List Tm) : (l.map Tm.size).sum = Tm.sizes l := by
  induction l with
  | nil => rfl
  | cons t l ih => simp [Tm.sizes, ih]

theorem opens_tm : ∀ n, Opens Try.prog w 65 (fun t : Tm => (tmV t).cells) (fun _ => True) Tm.size n := by
  intro n
  induction n using Nat.strongRecOn with
  | _ n ih =>
    intro H enc cs x hx
    obtain ⟨m, xs, rfl, hcl, hxl, hx1, hf⟩ := struct_parts Try.underlying65 c65 (fun i f hi => by
      rcases i with _ | _ | _ | _ | i
      · cases hi; exact ⟨rfl, c3⟩
      · cases hi; exact ⟨rfl, c9⟩
      · cases hi; exact ⟨rfl, c3⟩
      · cases hi; exact ⟨rfl, c37⟩
      · simp at hi) hx
    obtain ⟨v0, y0, hv0, hy0, h0⟩ := hf 0 _ rfl
    obtain ⟨v1, y1, hv1, hy1, h1⟩ := hf 1 _ rfl
    obtain ⟨v2, y2, hv2, hy2, h2⟩ := hf 2 _ rfl
    obtain ⟨v3, y3, hv3, hy3, h3⟩ := hf 3 _ rfl
    obtain ⟨k, -, w0, cv0⟩ := opens_int (w := w) Try.underlying3 m enc _ _ h0
    obtain ⟨nm, -, w1, cv1⟩ := opens_str (w := w) Try.underlying9 m enc _ _ h1
    obtain ⟨s, -, w2, cv2⟩ := opens_int (w := w) Try.underlying3 m enc _ _ h2
    cases m with
    | zero => simp [DataW.trod] at h3
    | succ m =>
      obtain ⟨⟨bk, kids⟩, -, w3, cv3⟩ := opens_slice (w := w) Try.underlying37 c65 (by omega) (ih m (by omega)) enc _ _ h3
      have hcs : cs = [v0, v1, v2, v3] := by
        match cs, hcl with
        | [a, b, c, d], _ => simp at hv0 hv1 hv2 hv3; simp [hv0, hv1, hv2, hv3]
      have hxs : xs = [y0, y1, y2, y3] := by
        match xs, hxl with
        | [a, b, c, d], _ => simp at hy0 hy1 hy2 hy3; simp [hy0, hy1, hy2, hy3]
      subst hcs hxs
      refine ⟨.mk k nm s (false, bk) kids, trivial, ?_, ?_⟩
      · rw [hx1]
        dsimp only at w0 w1 w2 w3
        rw [sizes_sum] at w3
        simp only [Tm.size, List.map_cons, List.map_nil, Rows.uptoBulk, Rows.uptoBulkAll]
        omega
      · dsimp only at cv0 cv1 cv2 cv3
        simp only [tmV, cells_agg]
        rw [tmVs_map]
        exact CV_cons cv0 (CV_cons cv1 (CV_cons cv2 cv3))

def moW (x : Mo) : Nat := x.agents.length + Tm.sizes x.terms + 1

theorem sum_ge {α : Type} {f : α → Nat} (h : ∀ a, 1 ≤ f a) : ∀ l : List α, l.length ≤ (l.map f).sum
  | [] => by simp
  | a :: l => by have := h a; have := sum_ge h l; simp; omega

theorem opens_mo (n : Nat) : Opens Try.prog w 39 (fun x : Mo => (moV x).cells) (fun _ => True) moW n := by
  intro H enc cs x hx
  obtain ⟨m, xs, rfl, hcl, hxl, hx1, hf⟩ := struct_parts Try.underlying39 c39 (fun i f hi => by
    rcases i with _ | _ | _ | _ | _ | _ | i
    · cases hi; exact ⟨rfl, c3⟩
    · cases hi; exact ⟨rfl, c3⟩
    · cases hi; exact ⟨rfl, c3⟩
    · cases hi; exact ⟨rfl, c36⟩
    · cases hi; exact ⟨rfl, c3⟩
    · cases hi; exact ⟨rfl, c37⟩
    · simp at hi) hx
  obtain ⟨v0, y0, hv0, hy0, h0⟩ := hf 0 _ rfl
  obtain ⟨v1, y1, hv1, hy1, h1⟩ := hf 1 _ rfl
  obtain ⟨v2, y2, hv2, hy2, h2⟩ := hf 2 _ rfl
  obtain ⟨v3, y3, hv3, hy3, h3⟩ := hf 3 _ rfl
  obtain ⟨v4, y4, hv4, hy4, h4⟩ := hf 4 _ rfl
  obtain ⟨v5, y5, hv5, hy5, h5⟩ := hf 5 _ rfl
  obtain ⟨k, -, w0, cv0⟩ := opens_int (w := w) Try.underlying3 m enc _ _ h0
  obtain ⟨nb, -, w1, cv1⟩ := opens_int (w := w) Try.underlying3 m enc _ _ h1
  obtain ⟨ro, -, w2, cv2⟩ := opens_int (w := w) Try.underlying3 m enc _ _ h2
  obtain ⟨go, -, w4, cv4⟩ := opens_int (w := w) Try.underlying3 m enc _ _ h4
  cases m with
  | zero => simp [DataW.trod] at h3
  | succ m =>
    obtain ⟨⟨ba, ags⟩, -, w3, cv3⟩ := opens_slice (w := w) (enc := AV.str) Try.underlying36 c9 (by omega) (opens_str (w := w) Try.underlying9 m) enc _ _ h3
    obtain ⟨⟨bt, tms⟩, -, w5, cv5⟩ := opens_slice (w := w) Try.underlying37 c65 (by omega) (opens_tm m) enc _ _ h5
    have hcs : cs = [v0, v1, v2, v3, v4, v5] := by
      match cs, hcl with
      | [a, b, c, d, e, f], _ => simp at hv0 hv1 hv2 hv3 hv4 hv5; simp [hv0, hv1, hv2, hv3, hv4, hv5]
    have hxs : xs = [y0, y1, y2, y3, y4, y5] := by
      match xs, hxl with
      | [a, b, c, d, e, f], _ => simp at hy0 hy1 hy2 hy3 hy4 hy5; simp [hy0, hy1, hy2, hy3, hy4, hy5]
    subst hcs hxs
    refine ⟨⟨k, nb, ro, (false, ba), ags, go, (false, bt), tms⟩, trivial, ?_, ?_⟩
    · rw [hx1]
      dsimp only at w0 w1 w2 w3 w4 w5
      rw [sizes_sum] at w5
      have := sum_ge (f := fun s : ByteArray => s.size + 1) (fun s => by omega) ags
      simp only [moW, List.map_cons, List.map_nil, Rows.uptoBulk, Rows.uptoBulkAll]
      omega
    · dsimp only at cv0 cv1 cv2 cv3 cv4 cv5
      simp only [moV, cells_agg]
      rw [tmVs_map]
      exact CV_cons cv0 (CV_cons cv1 (CV_cons cv2 (CV_cons cv3 (CV_cons cv4 cv5))))

theorem totM_le (l : List Mo) : totM l ≤ (l.map moW).sum := by
  induction l with
  | nil => simp [totM]
  | cons x l ih => simp only [totM, List.map_cons, List.sum_cons]; have e : moW x = x.agents.length + Tm.sizes x.terms + 1 := rfl; omega

theorem opens_mos (n : Nat) : Opens Try.prog w 22 (fun l : Bool × List Mo => [mosV (false, l.1) l.2]) (fun _ => True) (fun l => (l.2.map moW).sum + 1) n := by
  intro H enc cs x hx
  cases n with
  | zero => simp [DataW.trod] at hx
  | succ n =>
    obtain ⟨l, -, h1, h2⟩ := opens_slice (w := w) Try.underlying22 c39 (by omega) (opens_mo n) enc _ _ hx
    exact ⟨l, trivial, h1, h2⟩
end Go.Abs.Q

/- Contracts: copies of slices. -/
namespace Go.Abs.Q
attribute [local simp] look_set_ne look_set_eq fin tupled code_loop

def cloneM (m : Bool × Bool) (xs : List AV) : Bool × Bool := if xs.isEmpty then (true, m.2) else (false, true)

theorem frzRes_nil (h : AH) (sz : Nat) : frzRes h (.vs true 0 []) = some (sl (true, false) sz []) := by rw [← sl_nil sz]; rfl
@[simp] theorem frzRes_view (h : AH) (k n off len : Nat) : frzRes h (.sl k n off len) = frz1 h true (.sl k n off len) := _root_.id rfl

theorem pc_CloneInt (m : Bool × Bool) (xs : List AV) (hb : xs.length ≤ 1099511627776) : pc Q n_slices_Clone_int [sl m 1 xs] = some (sl (cloneM m xs) 1 xs) := by
  refine pcQ res_slices_Clone_int rfl (by simp [x_slices_Clone_int]) fun fr hl ha => ?_
  have h0 := ha 0
  clear ha
  simp [x_slices_Clone_int] at hl h0
  have hr : xs.length * 8 ≤ roomA ∧ xs.length ≤ maxLen := by simp only [roomA, maxLen]; omega
  cases xs with
  | nil =>
    cases hm : m.2 with
    | false => simp [x_slices_Clone_int, hl, h0, nqA_sl, hm, cloneM, frzRes_nil _ 1]
    | true => simp [x_slices_Clone_int, hl, h0, nqA_sl, hm, cloneM, sliceParts, app_sl]
  | cons x xs =>
    simp at hr
    simp [x_slices_Clone_int, hl, h0, nqA_sl, cloneM, sliceParts, app_sl, hr]
end Go.Abs.Q

/- Contracts: two equal claims of different sessions. -/
namespace Go.Abs.Q
attribute [local simp] look_set_ne look_set_eq fin tupled code_loop raw_goal_kind raw_ref27_kind raw_goal_equal raw_ref27_Equal raw_goal_Fresh raw_ref27_Fresh

def intsV (m : Bool × Bool) (cs : List Int) : AV := sl m 1 (cs.map (AV.int .i64))
def clash (l : List Mo) (a b : Int) : Bool := match atI l a, atI l b with | some x, some y => decide (x.kind = 5) && decide (y.kind = 5) && eqM x y && !decide (x.number = y.number) | _, _ => false
def freshIn (l : List Mo) (b : Int) : List Int → Option Int
  | [] => none
  | a :: r => if clash l a b = true then some a else freshIn l b r
def freshFrom (l : List Mo) (done : List Int) : List Int → AV
  | [] => .tup [.int .i64 0, .int .i64 0, .bool true]
  | b :: r => match freshIn l b done with | some a => .tup [.int .i64 a, .int .i64 b, .bool false] | none => freshFrom l (done ++ [b]) r

theorem slcA_sl (h : AH) (m : Bool × Bool) (sz : Nat) (hsz : 0 < sz) (xs : List AV) (lo hi : Option Int) : slcA h sz (sl m sz xs) (some lo) (some hi) (some none) =
    if 0 ≤ lo.getD 0 ∧ lo.getD 0 ≤ hi.getD xs.length ∧ hi.getD xs.length ≤ xs.length then
      some (sl (m.1 && decide (hi.getD xs.length = xs.length), m.2 || !xs.isEmpty) sz ((xs.drop (lo.getD 0).toNat).take (hi.getD xs.length - lo.getD 0).toNat), h) else none := by
  have hz : (if (xs.isEmpty && !m.2) = true then 0 else sz) = sz ∨ xs.length = 0 := by
    cases xs with
    | nil => exact .inr rfl
    | cons x xs => exact .inl rfl
  simp only [slcA, sl, sliceA]
  rw [if_pos ⟨hsz, hz⟩]
  by_cases hc : 0 ≤ lo.getD 0 ∧ lo.getD 0 ≤ hi.getD xs.length ∧ hi.getD xs.length ≤ xs.length
  · rw [if_pos hc, if_pos hc]
    have e : ((if (xs.isEmpty && !m.2) = true then 0 else sz) : Nat) = (if (((xs.drop (lo.getD 0).toNat).take (hi.getD xs.length - lo.getD 0).toNat).isEmpty && !(m.2 || !xs.isEmpty)) = true then 0 else sz) := by
      cases xs with
      | nil => simp
      | cons x xs => simp
    rw [e]
  · rw [if_neg hc, if_neg hc]
end Go.Abs.Q

/- Contracts: two equal claims of different sessions: the loops. -/
namespace Go.Abs.Q
attribute [local simp] look_set_ne look_set_eq fin tupled code_loop raw_goal_kind raw_ref27_kind raw_goal_equal raw_ref27_Equal raw_goal_Fresh raw_ref27_Fresh

theorem fresh_inner (m mm : Bool × Bool) (l : List Mo) (hf : fine l) (b : Int) (cs : List Int) (hlen : cs.length ≤ 1099511627776) (done : List Int) (hd : done.length ≤ cs.length) (c1 c11 c12 c13 : AV) (fr : Fr) (h : AH) (hl : fr.length = 62)
    (h0 : look fr 0 = sl m 6 (l.map moV)) (h1 : look fr 1 = c1) (h8 : look fr 8 = .int .i64 b) (h11 : look fr 11 = c11) (h12 : look fr 12 = c12) (h13 : look fr 13 = c13) (h20 : look fr 20 = sl mm 1 (done.map (AV.int .i64))) (h21 : look fr 21 = .int .i64 done.length) (h22 : look fr 22 = .int .i64 0) :
    Ends (lp (evalCode (lim Q) (ctxF n_goal_Fresh) x_goal_Fresh_0) (fr, h)) fun e fr' h' => fr'.length = 62 ∧ h' = h ∧ look fr' 0 = sl m 6 (l.map moV) ∧ look fr' 1 = c1 ∧ look fr' 11 = c11 ∧ look fr' 12 = c12 ∧ look fr' 13 = c13 ∧
      (e = .exit 2 ∧ freshIn l b done = none ∨ e = .ret ∧ ∃ a, freshIn l b done = some a ∧ look fr' 4 = .int .i64 a ∧ look fr' 5 = .int .i64 b ∧ look fr' 6 = .bool false) := by
  have hk := pc_kind m l
  simp only [mosV] at hk
  refine Ends_lp (fun n fr h' => ∃ i, i + n = done.length ∧ h' = h ∧ fr.length = 62 ∧ look fr 0 = sl m 6 (l.map moV) ∧ look fr 1 = c1 ∧ look fr 8 = .int .i64 b ∧ look fr 11 = c11 ∧ look fr 12 = c12 ∧ look fr 13 = c13 ∧
    look fr 20 = sl mm 1 (done.map (AV.int .i64)) ∧ look fr 21 = .int .i64 done.length ∧ look fr 22 = .int .i64 (i : Nat) ∧ freshIn l b (done.drop i) = freshIn l b done) ?_ done.length fr h ⟨0, by omega, rfl, hl, h0, h1, h8, h11, h12, h13, h20, h21, h22, rfl⟩
  clear h0 h1 h8 h11 h12 h13 h20 h21 h22 hl
  rintro n fr h' ⟨i, hi, rfl, hl, h0, h1, h8, h11, h12, h13, h20, h21, h22, hr⟩
  by_cases hlt : i < done.length
  · have hx := nth_map (f := AV.int .i64) (List.getElem?_eq_getElem hlt)
    have hw : IntKind.i64.wrap ((i : Int) + 1) = (i : Int) + 1 := wrap_id (by omega) (by omega)
    rw [List.drop_eq_getElem_cons hlt] at hr
    simp only [freshIn] at hr
    generalize done[i] = a at *
    have yes : clash l a b = true → freshIn l b done = some a := fun hc => by rw [if_pos hc] at hr; exact hr.symm
    have no : ¬clash l a b = true → freshIn l b (done.drop (i + 1)) = freshIn l b done := fun hc => by rw [if_neg hc] at hr; exact hr
    have fwd : ¬clash l a b = true → ∃ m_1, m_1 < n ∧ ∃ i_1, i_1 + m_1 = done.length ∧ (i : Int) + 1 = (i_1 : Nat) ∧ freshIn l b (done.drop i_1) = freshIn l b done := fun hc => ⟨n - 1, by omega, i + 1, by omega, by simp, no hc⟩
    cases hA : atI l a with
    | none =>
      have hc : ¬clash l a b = true := by simp [clash, hA]
      simp [x_goal_Fresh_0, hl, h0, h1, h8, h11, h12, h13, h20, h21, h22, hlt, hx, hw, hk, kindB, hA]
      exact fwd hc
    | some x =>
      obtain ⟨g1, g2, g3, g4⟩ := atI_some hA
      by_cases hxk : x.kind = 5
      case neg =>
        have hc : ¬clash l a b = true := by
          simp only [clash, hA]
          cases atI l b <;> simp [hxk]
        simp [x_goal_Fresh_0, hl, h0, h1, h8, h11, h12, h13, h20, h21, h22, hlt, hx, hw, hk, kindB, hA, hxk]
        exact fwd hc
      cases hB : atI l b with
      | none =>
        have hc : ¬clash l a b = true := by simp [clash, hA, hB]
        simp [x_goal_Fresh_0, hl, h0, h1, h8, h11, h12, h13, h20, h21, h22, hlt, hx, hw, hk, kindB, hA, hxk, hB]
        exact fwd hc
      | some y =>
        obtain ⟨k1, k2, k3, k4⟩ := atI_some hB
        by_cases hyk : y.kind = 5
        case neg =>
          have hc : ¬clash l a b = true := by simp [clash, hA, hB, hyk]
          simp [x_goal_Fresh_0, hl, h0, h1, h8, h11, h12, h13, h20, h21, h22, hlt, hx, hw, hk, kindB, hA, hxk, hB, hyk]
          exact fwd hc
        have hn := nth_map (f := moV) g3
        have hn' := nth_map (f := moV) k3
        have hE := pc_equal x y (hf x g4) (hf y k4)
        simp only [moV] at hn hn' hE
        rw [hxk] at hn hE
        rw [hyk] at hn' hE
        cases hq : eqM x y with
        | false =>
          rw [hq] at hE
          have hc : ¬clash l a b = true := by simp [clash, hA, hB, hq]
          simp [x_goal_Fresh_0, hl, h0, h1, h8, h11, h12, h13, h20, h21, h22, hlt, hx, hw, hk, kindB, hA, hxk, hB, hyk, g1, k1, hn, hn', hE]
          exact fwd hc
        | true =>
          rw [hq] at hE
          by_cases hnum : x.number = y.number
          · have hc : ¬clash l a b = true := by simp [clash, hA, hB, hq, hnum]
            rw [hnum] at hn hE
            simp [x_goal_Fresh_0, hl, h0, h1, h8, h11, h12, h13, h20, h21, h22, hlt, hx, hw, hk, kindB, hA, hxk, hB, hyk, g1, k1, hn, hn', hE, hnum]
            exact fwd hc
          · have hc : clash l a b = true := by simp [clash, hA, hB, hq, hnum, hxk, hyk]
            simp [x_goal_Fresh_0, hl, h0, h1, h8, h11, h12, h13, h20, h21, h22, hlt, hx, hw, hk, kindB, hA, hxk, hB, hyk, g1, k1, hn, hn', hE, hnum]
            exact yes hc
  · have e0 : done.length ≤ i := by omega
    rw [List.drop_eq_nil_of_le e0] at hr
    simp only [freshIn] at hr
    simp [x_goal_Fresh_0, hl, h0, h1, h11, h12, h13, h21, h22, hlt]
    exact hr.symm
end Go.Abs.Q

namespace Go.Abs.Q
attribute [local simp] look_set_ne look_set_eq fin tupled code_loop raw_goal_kind raw_ref27_kind raw_goal_equal raw_ref27_Equal raw_goal_Fresh raw_ref27_Fresh

def freshV (l : List Mo) (cs : List Int) : AV := freshFrom l [] cs

theorem pc_Fresh (m mc : Bool × Bool) (l : List Mo) (hf : fine l) (cs : List Int) (hlen : cs.length ≤ 1099511627776) : pc Q n_goal_Fresh [mosV m l, intsV mc cs] = some (freshV l cs) := by
  refine pcQ res_goal_Fresh rfl (by simp [x_goal_Fresh]) fun fr hl ha => ?_
  have h0 := ha 0
  have h1 := ha 1
  clear ha
  simp [x_goal_Fresh, mosV, intsV] at hl h0 h1
  simp [x_goal_Fresh, hl, h1]
  refine (Ends_lp (Ψ := fun e fr h => fr.length = 62 ∧ h = ⟨[], []⟩ ∧ (e = .exit 0 ∧ freshV l cs = .tup [.int .i64 0, .int .i64 0, .bool true] ∨ e = .ret ∧ ∃ a b, freshV l cs = .tup [.int .i64 a, .int .i64 b, .bool false] ∧ look fr 4 = .int .i64 a ∧ look fr 5 = .int .i64 b ∧ look fr 6 = .bool false))
    (fun n fr h => ∃ i, i + n = cs.length ∧ h = ⟨[], []⟩ ∧ fr.length = 62 ∧ look fr 0 = sl m 6 (l.map moV) ∧ look fr 1 = sl mc 1 (cs.map (AV.int .i64)) ∧ look fr 11 = sl mc 1 (cs.map (AV.int .i64)) ∧ look fr 12 = .int .i64 cs.length ∧ look fr 13 = .int .i64 (i : Nat) ∧ freshFrom l (cs.take i) (cs.drop i) = freshV l cs) ?_ cs.length _ _ ?_).mono ?_
  · rintro n fr h ⟨i, hi, rfl, hl, h0, h1, h11, h12, h13, hr⟩
    by_cases hlt : i < cs.length
    · have hx := nth_map (f := AV.int .i64) (List.getElem?_eq_getElem hlt)
      have hw : IntKind.i64.wrap ((i : Int) + 1) = (i : Int) + 1 := wrap_id (by omega) (by omega)
      have htk : (cs.take i).length = i := by simp; omega
      have hr' : freshFrom l (cs.take i) (cs[i] :: cs.drop (i + 1)) = freshV l cs := by rw [← List.drop_eq_getElem_cons hlt]; exact hr
      have hnext : cs.take (i + 1) = cs.take i ++ [cs[i]] := by rw [List.take_succ_eq_append_getElem hlt]
      simp only [freshFrom] at hr'
      rw [← hnext] at hr'
      generalize cs[i] = b at *
      have hs : slcA ⟨[], []⟩ 1 (sl mc 1 (cs.map (AV.int .i64))) (some none) (some (some (i : Int))) (some none) = some (sl (mc.1 && decide ((i : Int) = (cs.length : Int)), mc.2 || !cs.isEmpty) 1 ((cs.take i).map (AV.int .i64)), ⟨[], []⟩) := by
        rw [slcA_sl _ _ _ (by omega)]
        have : (i : Int) ≤ (cs.length : Int) := by omega
        simp [this, List.map_take]
      simp [x_goal_Fresh_1, hl, h0, h1, h11, h12, h13, hlt, hx, hw, boundA, hs]
      refine (fresh_inner m (mc.1 && decide ((i : Int) = (cs.length : Int)), mc.2 || !cs.isEmpty) l hf b cs hlen (cs.take i) (by omega) (sl mc 1 (cs.map (AV.int .i64))) (sl mc 1 (cs.map (AV.int .i64))) (.int .i64 cs.length) (.int .i64 (i : Nat)) _ _ (by simp [hl]) (by simp [hl, h0]) (by simp [hl, h1]) (by simp [hl]) (by simp [hl, h11]) (by simp [hl, h12]) (by simp [hl, h13]) (by simp [hl]) (by simp [hl]) (by simp [hl])).mono ?_
      rintro e fr' h' ⟨hl', rfl, k0, k1, k11, k12, k13, ⟨rfl, hn⟩ | ⟨rfl, a, ha, k4, k5, k6⟩⟩
      · rw [hn] at hr'
        simp [hl', k0, k1, k11, k12, k13, hw]
        exact ⟨n - 1, by omega, i + 1, by omega, by simp, hr'⟩
      · rw [ha] at hr'
        simp [hl', k4, k5, k6]
        exact hr'.symm
    · have e0 : cs.length ≤ i := by omega
      rw [List.drop_eq_nil_of_le e0] at hr
      simp only [freshFrom] at hr
      simp [x_goal_Fresh_1, hl, h12, h13, hlt]
      exact hr.symm
  · exact ⟨0, by omega, rfl, by simp [hl], by simp [h0], by simp [h1], by simp [hl], by simp [hl], by simp [hl], rfl⟩
  · rintro e fr h ⟨hl, rfl, ⟨rfl, he⟩ | ⟨rfl, a, b, he, h4, h5, h6⟩⟩
    · simp [hl, he]
    · simp [hl, he, h4, h5, h6]
end Go.Abs.Q
