/- A part of the proof. -/
import Derived.Test.YthcbgdmeacaglaaGreatDoorTE11
set_option linter.all false
namespace Go.Abs.Q
def bs (l : List Nat) : ByteArray := ⟨(l.map UInt8.ofNat).toArray⟩
def n_law47_TranslateEnvironment : FuncId := 3
def n_law47_awake : FuncId := 4
def n_ref15_Few : FuncId := 5
def n_translate_Environment : FuncId := 6
def n_ref47_Environment : FuncId := 7
def n_ref47_SameClauses : FuncId := 8
def n_cast_Valid : FuncId := 17
def n_translate_variable : FuncId := 18
def n_translate_app : FuncId := 19
def n_translate_from : FuncId := 20
def n_translate_atom : FuncId := 21
def n_ref15_Valid : FuncId := 22
def n_ref47_parse : FuncId := 23
def n_ref47_att : FuncId := 24
def n_ref15_Agent : FuncId := 25
def n_ref01_App : FuncId := 26
def n_ref44_Same : FuncId := 27
def n_ref22_item : FuncId := 33
def n_slices_Index_string : FuncId := 38
def n_translate_assignments : FuncId := 42
def n_translate_replaced : FuncId := 43
def n_ref01_Compare : FuncId := 52
def n_term_Valid : FuncId := 53
def n_cast_agent : FuncId := 54
def n_strings_Contains : FuncId := 55
def n_slices_Contains_string : FuncId := 56
def n_translate_att : FuncId := 57
def n_ref01_IsName : FuncId := 58
def n_ref15_hash : FuncId := 59
def n_ref15_find : FuncId := 60
def n_ref01_Atom : FuncId := 61
def n_ref44_Compare : FuncId := 62
def n_ref22_readFresh : FuncId := 69
def n_ref22_readStep : FuncId := 70
def n_ref22_readGoal : FuncId := 71
def n_slices_Clone_Fact : FuncId := 78
def n_clause_Canonical : FuncId := 80
def n_translate_translator_fresh : FuncId := 82
def n_slices_Clone_string : FuncId := 83
def n_ref01_Size : FuncId := 91
def n_ref01_number : FuncId := 95
def n_term_check : FuncId := 96
def n_strings_Index : FuncId := 97
def n_ref01_letter : FuncId := 98
def n_ref01_digit : FuncId := 99
def n_ref44_number : FuncId := 100
def n_ref44_Facts : FuncId := 101
def n_clause_set : FuncId := 118
def n_slices_SortStableFunc_Fact : FuncId := 119
def n_clause_Canonical_2 : FuncId := 123
def n_clause_Canonical_3 : FuncId := 126
def n_clause_flat : FuncId := 127
def n_clause_each : FuncId := 128
def n_slices_ContainsFunc_Term : FuncId := 130
def n_ref03_match : FuncId := 137
def n_term_isName : FuncId := 139
def n_scope_Resolve : FuncId := 144
def n_compile_newKnower : FuncId := 146
def n_compile_knows_1 : FuncId := 147
def n_compile_knower_can : FuncId := 148
def n_compile_params : FuncId := 149
def n_compile_raw : FuncId := 151
def n_compile_newSide : FuncId := 154
def n_compile_side_receive : FuncId := 155
def n_compile_knower_form : FuncId := 156
def n_compile_side_matches : FuncId := 157
def n_machine_bound : FuncId := 160
def n_clause_facts : FuncId := 161
def n_clause_has : FuncId := 163
def n_slices_stableCmpFunc_Fact : FuncId := 164
def n_term_Compare : FuncId := 168
def n_term_walk : FuncId := 171
def n_term_ofKind_1 : FuncId := 172
def n_term_ordered : FuncId := 173
def n_slices_IndexFunc_Term : FuncId := 174
def n_term_part : FuncId := 177
def n_stringslite_IndexByte : FuncId := 178
def n_scope_Resolve_1 : FuncId := 185
def n_term_Format : FuncId := 193
def n_slices_Delete_string : FuncId := 194
def n_slices_Clone_Step : FuncId := 195
def n_slices_Clone_Goal : FuncId := 196
def n_slices_Clone_Term : FuncId := 198
def n_compile_knower_blind : FuncId := 201
def n_compile_side_receive_1 : FuncId := 202
def n_compile_find : FuncId := 203
def n_compile_knower_hidden : FuncId := 204
def n_slices_Concat_Term : FuncId := 205
def n_machine_has : FuncId := 206
def n_machine_scope_block : FuncId := 208
def n_slices_SortFunc_Term : FuncId := 209
def n_slices_insertionSortCmpFunc_Fact : FuncId := 212
def n_slices_symMergeCmpFunc_Fact : FuncId := 213
def n_term_sign : FuncId := 215
def n_term_Size : FuncId := 216
def n_strings_Compare : FuncId := 217
def n_slices_CompactFunc_Term : FuncId := 219
def n_scope_declared : FuncId := 225
def n_scope_changed : FuncId := 230
def n_view_add : FuncId := 233
def n_term_Subterms_1 : FuncId := 239
def n_term_write : FuncId := 241
def n_strings_Builder_String : FuncId := 242
def n_compile_side_through : FuncId := 243
def n_slices_Grow_Term : FuncId := 248
def n_machine_scope_bind : FuncId := 252
def n_slices_pdqsortCmpFunc_Term : FuncId := 254
def n_slices_rotateCmpFunc_Fact : FuncId := 257
def n_bytealg_CompareString : FuncId := 258
def n_scope_declared_1 : FuncId := 267
def n_strings_Builder_WriteString : FuncId := 279
def n_strings_Builder_WriteByte : FuncId := 280
def n_slices_insertionSortCmpFunc_Term : FuncId := 283
def n_slices_heapSortCmpFunc_Term : FuncId := 284
def n_slices_breakPatternsCmpFunc_Term : FuncId := 285
def n_slices_choosePivotCmpFunc_Term : FuncId := 286
def n_slices_reverseRangeCmpFunc_Term : FuncId := 287
def n_slices_partialInsertionSortCmpFunc_Term : FuncId := 288
def n_slices_partitionEqualCmpFunc_Term : FuncId := 289
def n_slices_partitionCmpFunc_Term : FuncId := 290
def n_slices_swapRangeCmpFunc_Fact : FuncId := 293
def n_knowledge_set_composed : FuncId := 308
def n_knowledge_set_opened : FuncId := 309
def n_knowledge_set_raised : FuncId := 311
def n_slices_Insert_Term : FuncId := 313
def n_slices_Clone_set_Term : FuncId := 314
def n_strings_Builder_copyCheck : FuncId := 315
def n_slices_siftDownCmpFunc_Term : FuncId := 320
def n_slices_xorshift_Next : FuncId := 322
def n_slices_medianAdjacentCmpFunc_Term : FuncId := 323
def n_slices_medianCmpFunc_Term : FuncId := 324
def n_exponent_collect : FuncId := 332
def n_abi_NoEscape : FuncId := 349
def n_theory_Symbols : FuncId := 351
def n_slices_order2CmpFunc_Term : FuncId := 352
def n_exponent_insert : FuncId := 359
def n_xor_eliminate : FuncId := 368
def n_xor_system_reduce : FuncId := 369
def n_xor_system_row : FuncId := 370
def n_knowledge_set_unknown : FuncId := 376
def n_theory_Symbols_1 : FuncId := 379
def n_slices_Insert_Power : FuncId := 384
def n_slices_Delete_Power : FuncId := 386
def n_xor_bits_flip : FuncId := 398
def n_xor_bits_xor : FuncId := 399
def n_xor_system_column : FuncId := 400
def n_slices_DeleteFunc_Power : FuncId := 403
def n_slices_Clone_Power : FuncId := 404
def n_exponent_solve : FuncId := 406
def n_exponent_start : FuncId := 420
def n_exponent_elimination_reduce : FuncId := 421
def n_exponent_columns : FuncId := 428
def n_slices_Clone_LPower_LPower : FuncId := 429
def n_exponent_elimination_column : FuncId := 431
def n_exponent_elimination_subtract : FuncId := 432
def n_strings_Builder_Reset : FuncId := 453
def rawF (f : FuncId) : Bool := f == n_ref22_item || f == n_ref22_readFresh || f == n_ref22_readStep || f == n_ref22_readGoal || f == n_slices_Clone_Fact || f == n_clause_Canonical || f == n_term_check || f == n_clause_set || f == n_slices_SortStableFunc_Fact || f == n_clause_Canonical_2 || f == n_clause_Canonical_3 || f == n_clause_flat || f == n_clause_each || f == n_slices_ContainsFunc_Term || f == n_ref03_match || f == n_compile_newKnower || f == n_compile_knows_1 || f == n_compile_knower_can || f == n_compile_newSide || f == n_compile_side_receive || f == n_compile_knower_form || f == n_compile_side_matches || f == n_clause_facts || f == n_slices_stableCmpFunc_Fact || f == n_term_walk || f == n_term_ofKind_1 || f == n_term_ordered || f == n_slices_IndexFunc_Term || f == n_scope_Resolve_1 || f == n_slices_Delete_string || f == n_slices_Clone_Step || f == n_slices_Clone_Goal || f == n_slices_Clone_Term || f == n_compile_knower_blind || f == n_compile_side_receive_1 || f == n_compile_knower_hidden || f == n_machine_scope_block || f == n_slices_SortFunc_Term || f == n_slices_insertionSortCmpFunc_Fact || f == n_slices_symMergeCmpFunc_Fact || f == n_slices_CompactFunc_Term || f == n_view_add || f == n_term_Subterms_1 || f == n_term_write || f == n_strings_Builder_String || f == n_compile_side_through || f == n_slices_Grow_Term || f == n_machine_scope_bind || f == n_slices_pdqsortCmpFunc_Term || f == n_slices_rotateCmpFunc_Fact || f == n_scope_declared_1 || f == n_strings_Builder_WriteString || f == n_strings_Builder_WriteByte || f == n_slices_insertionSortCmpFunc_Term || f == n_slices_heapSortCmpFunc_Term || f == n_slices_breakPatternsCmpFunc_Term || f == n_slices_choosePivotCmpFunc_Term || f == n_slices_reverseRangeCmpFunc_Term || f == n_slices_partialInsertionSortCmpFunc_Term || f == n_slices_partitionEqualCmpFunc_Term || f == n_slices_partitionCmpFunc_Term || f == n_slices_swapRangeCmpFunc_Fact || f == n_slices_Insert_Term || f == n_slices_Clone_set_Term || f == n_strings_Builder_copyCheck || f == n_slices_siftDownCmpFunc_Term || f == n_slices_xorshift_Next || f == n_slices_medianAdjacentCmpFunc_Term || f == n_slices_medianCmpFunc_Term || f == n_exponent_collect || f == n_abi_NoEscape || f == n_slices_order2CmpFunc_Term || f == n_exponent_insert || f == n_xor_eliminate || f == n_xor_system_reduce || f == n_xor_system_row || f == n_theory_Symbols_1 || f == n_slices_Insert_Power || f == n_slices_Delete_Power || f == n_xor_bits_flip || f == n_xor_bits_xor || f == n_xor_system_column || f == n_slices_DeleteFunc_Power || f == n_slices_Clone_Power || f == n_exponent_solve || f == n_exponent_start || f == n_exponent_elimination_reduce || f == n_slices_Clone_LPower_LPower || f == n_exponent_elimination_column || f == n_exponent_elimination_subtract || f == n_strings_Builder_Reset
def mutF (f : FuncId) : Bool := f == n_slices_Clone_Fact || f == n_slices_Clone_string || f == n_clause_set || f == n_clause_facts || f == n_term_ofKind_1 || f == n_slices_Clone_Step || f == n_slices_Clone_Goal || f == n_slices_Clone_Term || f == n_slices_Concat_Term || f == n_term_Subterms_1 || f == n_slices_Clone_set_Term || f == n_xor_eliminate || f == n_slices_Clone_Power || f == n_exponent_columns || f == n_slices_Clone_LPower_LPower
@[simp] def oV (d a : Nat) : RO := ⟨some d, .mov (.t a), none⟩
@[simp] def oF (d k a : Nat) : RO := ⟨some d, .faddr k (.t a), none⟩
@[simp] def oL (d a : Nat) : RO := ⟨some d, .ld false 1 (.t a), none⟩
@[simp] def oA (d n a : Nat) : RO := ⟨some d, .ld true n (.t a), none⟩
@[simp] def oN (d a : Nat) : RO := ⟨some d, .len false (.t a), none⟩
@[simp] def oI (d s a b : Nat) : RO := ⟨some d, .iaddr s (.t a) (.t b), none⟩
@[simp] def oC (d : Nat) (v : AV) : RO := ⟨some d, .mov (.c v), none⟩
@[simp] def oK (d : Nat) (f : FuncId) (l : List Opd) : RO := ⟨some d, .call f l, none⟩
@[simp] def oB (d a : Nat) : RO := ⟨some d, .box (.t a), none⟩
@[simp] def oZ (d : Nat) (v : AV) : RO := ⟨some d, .alloc v, none⟩
@[simp] def oW (n a b : Nat) : RO := ⟨none, .st n (.t a) (.t b), none⟩
@[simp] def oJ (d a : Nat) : RO := ⟨some d, .bin .add (.t a) (.c (.int .i64 1)), none⟩
@[simp] def oE (d a b : Nat) : RO := ⟨some d, .bin .lss (.t a) (.t b), none⟩
@[simp] def oU (d a : Nat) : RO := ⟨some d, .un .not (.t a), none⟩
@[simp] def oO (d : Nat) (p : ROp) : RO := ⟨some d, p, none⟩
@[simp] def oG (d g : Nat) (p : ROp) : RO := ⟨some d, p, some (g, true)⟩
@[simp] def oH (d g : Nat) (p : ROp) : RO := ⟨some d, p, some (g, false)⟩
@[simp] def pV (a : Nat) : ROp := ROp.mov (.t a)
@[simp] def pF (k a : Nat) : ROp := ROp.faddr k (.t a)
@[simp] def pL (a : Nat) : ROp := ROp.ld false 1 (.t a)
@[simp] def pA (n a : Nat) : ROp := ROp.ld true n (.t a)
@[simp] def pI (n : Int) : AV := AV.int .i64 n
@[simp] def rG (l : List RO) : RCode := RCode.region false l
@[simp] def rD (l : List RO) : RCode := RCode.region true l
def rawvF (f : FuncId) : Bool := f == n_clause_flat || f == n_clause_each || f == n_slices_ContainsFunc_Term || f == n_compile_side_receive || f == n_slices_stableCmpFunc_Fact || f == n_term_walk || f == n_slices_IndexFunc_Term || f == n_slices_insertionSortCmpFunc_Fact || f == n_slices_symMergeCmpFunc_Fact || f == n_scope_declared || f == n_scope_changed || f == n_slices_pdqsortCmpFunc_Term || f == n_slices_rotateCmpFunc_Fact || f == n_slices_insertionSortCmpFunc_Term || f == n_slices_heapSortCmpFunc_Term || f == n_slices_breakPatternsCmpFunc_Term || f == n_slices_choosePivotCmpFunc_Term || f == n_slices_reverseRangeCmpFunc_Term || f == n_slices_partialInsertionSortCmpFunc_Term || f == n_slices_partitionEqualCmpFunc_Term || f == n_slices_partitionCmpFunc_Term || f == n_slices_swapRangeCmpFunc_Fact || f == n_slices_siftDownCmpFunc_Term || f == n_slices_xorshift_Next || f == n_slices_medianAdjacentCmpFunc_Term || f == n_slices_medianCmpFunc_Term || f == n_theory_Symbols || f == n_slices_order2CmpFunc_Term
def roF (f : FuncId) : Bool := f == n_translate_translator_fresh || f == n_scope_Resolve || f == n_clause_has || f == n_compile_find || f == n_machine_has || f == n_view_add || f == n_knowledge_set_composed || f == n_knowledge_set_opened || f == n_knowledge_set_raised || f == n_knowledge_set_unknown
def noBF (f : FuncId) : Bool := f == n_slices_Clone_Step || f == n_slices_Clone_Goal || f == n_slices_Clone_Term || f == n_slices_SortFunc_Term || f == n_view_add || f == n_slices_Grow_Term || f == n_slices_Insert_Term || f == n_slices_Clone_set_Term || f == n_slices_Insert_Power || f == n_slices_Clone_Power || f == n_slices_Clone_LPower_LPower
def rspF (f : FuncId) : Bool := f == n_translate_assignments || f == n_compile_raw || f == n_term_Format || f == n_slices_Grow_Term || f == n_bytealg_CompareString || f == n_slices_Insert_Term || f == n_slices_Insert_Power
def rbF (f : FuncId) : Bool := f == n_machine_bound || f == n_compile_params
def rbgF (f g : FuncId) : Bool := ((f == n_machine_bound) && (g == n_slices_Concat_Term)) || ((f == n_compile_params) && (g == n_slices_Clone_string))
def rstF (f : FuncId) : Bool := f == n_clause_Canonical || f == n_compile_knower_form || f == n_compile_side_matches
def layF (f : FuncId) : Bool := f == n_translate_replaced
def ctxF (f : FuncId) : Ctx := { raw := if rbF f then fun g => rawF g || rbgF f g else rawF, mutApp := mutF f, rawv := rawvF f, ro := roF f, noB := noBF, rst := rstF f, lay := layF f }
@[simp] theorem noB_ref22_item : noBF n_ref22_item = false := rfl
@[simp] theorem noB_ref22_readFresh : noBF n_ref22_readFresh = false := rfl
@[simp] theorem noB_ref22_readStep : noBF n_ref22_readStep = false := rfl
@[simp] theorem noB_ref22_readGoal : noBF n_ref22_readGoal = false := rfl
@[simp] theorem noB_slices_Clone_Fact : noBF n_slices_Clone_Fact = false := rfl
@[simp] theorem ro_clause_Canonical : roF n_clause_Canonical = false := rfl
@[simp] theorem noB_clause_Canonical : noBF n_clause_Canonical = false := rfl
@[simp] theorem ro_translate_translator_fresh : roF n_translate_translator_fresh = true := rfl
@[simp] theorem noB_term_check : noBF n_term_check = false := rfl
@[simp] theorem noB_clause_set : noBF n_clause_set = false := rfl
@[simp] theorem noB_slices_SortStableFunc_Fact : noBF n_slices_SortStableFunc_Fact = false := rfl
@[simp] theorem noB_clause_Canonical_2 : noBF n_clause_Canonical_2 = false := rfl
@[simp] theorem noB_clause_Canonical_3 : noBF n_clause_Canonical_3 = false := rfl
@[simp] theorem rawv_clause_flat : rawvF n_clause_flat = true := rfl
@[simp] theorem noB_clause_flat : noBF n_clause_flat = false := rfl
@[simp] theorem rawv_clause_each : rawvF n_clause_each = true := rfl
@[simp] theorem noB_clause_each : noBF n_clause_each = false := rfl
@[simp] theorem noB_slices_ContainsFunc_Term : noBF n_slices_ContainsFunc_Term = false := rfl
@[simp] theorem noB_ref03_match : noBF n_ref03_match = false := rfl
@[simp] theorem ro_scope_Resolve : roF n_scope_Resolve = true := rfl
@[simp] theorem noB_compile_newKnower : noBF n_compile_newKnower = false := rfl
@[simp] theorem noB_compile_knows_1 : noBF n_compile_knows_1 = false := rfl
@[simp] theorem noB_compile_knower_can : noBF n_compile_knower_can = false := rfl
@[simp] theorem noB_compile_newSide : noBF n_compile_newSide = false := rfl
@[simp] theorem rawv_compile_side_receive : rawvF n_compile_side_receive = true := rfl
@[simp] theorem ro_compile_side_receive : roF n_compile_side_receive = false := rfl
@[simp] theorem noB_compile_side_receive : noBF n_compile_side_receive = false := rfl
@[simp] theorem noB_compile_knower_form : noBF n_compile_knower_form = false := rfl
@[simp] theorem noB_compile_side_matches : noBF n_compile_side_matches = false := rfl
@[simp] theorem noB_clause_facts : noBF n_clause_facts = false := rfl
@[simp] theorem ro_clause_has : roF n_clause_has = true := rfl
@[simp] theorem noB_slices_stableCmpFunc_Fact : noBF n_slices_stableCmpFunc_Fact = false := rfl
@[simp] theorem rawv_term_walk : rawvF n_term_walk = true := rfl
@[simp] theorem noB_term_walk : noBF n_term_walk = false := rfl
@[simp] theorem noB_term_ofKind_1 : noBF n_term_ofKind_1 = false := rfl
@[simp] theorem noB_term_ordered : noBF n_term_ordered = false := rfl
@[simp] theorem rawv_slices_IndexFunc_Term : rawvF n_slices_IndexFunc_Term = true := rfl
@[simp] theorem noB_slices_IndexFunc_Term : noBF n_slices_IndexFunc_Term = false := rfl
@[simp] theorem noB_scope_Resolve_1 : noBF n_scope_Resolve_1 = false := rfl
@[simp] theorem noB_slices_Delete_string : noBF n_slices_Delete_string = false := rfl
@[simp] theorem noB_slices_Clone_Step : noBF n_slices_Clone_Step = true := rfl
@[simp] theorem noB_slices_Clone_Goal : noBF n_slices_Clone_Goal = true := rfl
@[simp] theorem noB_slices_Clone_Term : noBF n_slices_Clone_Term = true := rfl
@[simp] theorem noB_compile_knower_blind : noBF n_compile_knower_blind = false := rfl
@[simp] theorem noB_compile_side_receive_1 : noBF n_compile_side_receive_1 = false := rfl
@[simp] theorem ro_compile_find : roF n_compile_find = true := rfl
@[simp] theorem noB_compile_knower_hidden : noBF n_compile_knower_hidden = false := rfl
@[simp] theorem ro_machine_has : roF n_machine_has = true := rfl
@[simp] theorem noB_machine_scope_block : noBF n_machine_scope_block = false := rfl
@[simp] theorem noB_slices_SortFunc_Term : noBF n_slices_SortFunc_Term = true := rfl
@[simp] theorem rawv_slices_insertionSortCmpFunc_Fact : rawvF n_slices_insertionSortCmpFunc_Fact = true := rfl
@[simp] theorem noB_slices_insertionSortCmpFunc_Fact : noBF n_slices_insertionSortCmpFunc_Fact = false := rfl
@[simp] theorem rawv_slices_symMergeCmpFunc_Fact : rawvF n_slices_symMergeCmpFunc_Fact = true := rfl
@[simp] theorem noB_slices_symMergeCmpFunc_Fact : noBF n_slices_symMergeCmpFunc_Fact = false := rfl
@[simp] theorem rawv_slices_CompactFunc_Term : rawvF n_slices_CompactFunc_Term = false := rfl
@[simp] theorem noB_slices_CompactFunc_Term : noBF n_slices_CompactFunc_Term = false := rfl
@[simp] theorem rawv_scope_declared : rawvF n_scope_declared = true := rfl
@[simp] theorem ro_scope_declared : roF n_scope_declared = false := rfl
@[simp] theorem rawv_scope_changed : rawvF n_scope_changed = true := rfl
@[simp] theorem ro_view_add : roF n_view_add = true := rfl
@[simp] theorem noB_view_add : noBF n_view_add = true := rfl
@[simp] theorem noB_term_Subterms_1 : noBF n_term_Subterms_1 = false := rfl
@[simp] theorem noB_term_write : noBF n_term_write = false := rfl
@[simp] theorem noB_strings_Builder_String : noBF n_strings_Builder_String = false := rfl
@[simp] theorem noB_compile_side_through : noBF n_compile_side_through = false := rfl
@[simp] theorem noB_slices_Grow_Term : noBF n_slices_Grow_Term = true := rfl
@[simp] theorem noB_machine_scope_bind : noBF n_machine_scope_bind = false := rfl
@[simp] theorem rawv_slices_pdqsortCmpFunc_Term : rawvF n_slices_pdqsortCmpFunc_Term = true := rfl
@[simp] theorem noB_slices_pdqsortCmpFunc_Term : noBF n_slices_pdqsortCmpFunc_Term = false := rfl
@[simp] theorem noB_slices_rotateCmpFunc_Fact : noBF n_slices_rotateCmpFunc_Fact = false := rfl
@[simp] theorem noB_scope_declared_1 : noBF n_scope_declared_1 = false := rfl
@[simp] theorem noB_strings_Builder_WriteString : noBF n_strings_Builder_WriteString = false := rfl
@[simp] theorem noB_strings_Builder_WriteByte : noBF n_strings_Builder_WriteByte = false := rfl
@[simp] theorem rawv_slices_insertionSortCmpFunc_Term : rawvF n_slices_insertionSortCmpFunc_Term = true := rfl
@[simp] theorem noB_slices_insertionSortCmpFunc_Term : noBF n_slices_insertionSortCmpFunc_Term = false := rfl
@[simp] theorem noB_slices_heapSortCmpFunc_Term : noBF n_slices_heapSortCmpFunc_Term = false := rfl
@[simp] theorem noB_slices_breakPatternsCmpFunc_Term : noBF n_slices_breakPatternsCmpFunc_Term = false := rfl
@[simp] theorem noB_slices_choosePivotCmpFunc_Term : noBF n_slices_choosePivotCmpFunc_Term = false := rfl
@[simp] theorem noB_slices_reverseRangeCmpFunc_Term : noBF n_slices_reverseRangeCmpFunc_Term = false := rfl
@[simp] theorem rawv_slices_partialInsertionSortCmpFunc_Term : rawvF n_slices_partialInsertionSortCmpFunc_Term = true := rfl
@[simp] theorem noB_slices_partialInsertionSortCmpFunc_Term : noBF n_slices_partialInsertionSortCmpFunc_Term = false := rfl
@[simp] theorem rawv_slices_partitionEqualCmpFunc_Term : rawvF n_slices_partitionEqualCmpFunc_Term = true := rfl
@[simp] theorem noB_slices_partitionEqualCmpFunc_Term : noBF n_slices_partitionEqualCmpFunc_Term = false := rfl
@[simp] theorem rawv_slices_partitionCmpFunc_Term : rawvF n_slices_partitionCmpFunc_Term = true := rfl
@[simp] theorem noB_slices_partitionCmpFunc_Term : noBF n_slices_partitionCmpFunc_Term = false := rfl
@[simp] theorem noB_slices_swapRangeCmpFunc_Fact : noBF n_slices_swapRangeCmpFunc_Fact = false := rfl
@[simp] theorem ro_knowledge_set_composed : roF n_knowledge_set_composed = true := rfl
@[simp] theorem ro_knowledge_set_opened : roF n_knowledge_set_opened = true := rfl
@[simp] theorem ro_knowledge_set_raised : roF n_knowledge_set_raised = true := rfl
@[simp] theorem noB_slices_Insert_Term : noBF n_slices_Insert_Term = true := rfl
@[simp] theorem noB_slices_Clone_set_Term : noBF n_slices_Clone_set_Term = true := rfl
@[simp] theorem noB_strings_Builder_copyCheck : noBF n_strings_Builder_copyCheck = false := rfl
@[simp] theorem rawv_slices_siftDownCmpFunc_Term : rawvF n_slices_siftDownCmpFunc_Term = true := rfl
@[simp] theorem noB_slices_siftDownCmpFunc_Term : noBF n_slices_siftDownCmpFunc_Term = false := rfl
@[simp] theorem noB_slices_xorshift_Next : noBF n_slices_xorshift_Next = false := rfl
@[simp] theorem noB_slices_medianAdjacentCmpFunc_Term : noBF n_slices_medianAdjacentCmpFunc_Term = false := rfl
@[simp] theorem noB_slices_medianCmpFunc_Term : noBF n_slices_medianCmpFunc_Term = false := rfl
@[simp] theorem noB_exponent_collect : noBF n_exponent_collect = false := rfl
@[simp] theorem noB_abi_NoEscape : noBF n_abi_NoEscape = false := rfl
@[simp] theorem rawv_theory_Symbols : rawvF n_theory_Symbols = true := rfl
@[simp] theorem ro_theory_Symbols : roF n_theory_Symbols = false := rfl
@[simp] theorem rawv_slices_order2CmpFunc_Term : rawvF n_slices_order2CmpFunc_Term = true := rfl
@[simp] theorem noB_slices_order2CmpFunc_Term : noBF n_slices_order2CmpFunc_Term = false := rfl
@[simp] theorem noB_exponent_insert : noBF n_exponent_insert = false := rfl
@[simp] theorem noB_xor_eliminate : noBF n_xor_eliminate = false := rfl
@[simp] theorem noB_xor_system_reduce : noBF n_xor_system_reduce = false := rfl
@[simp] theorem noB_xor_system_row : noBF n_xor_system_row = false := rfl
@[simp] theorem ro_knowledge_set_unknown : roF n_knowledge_set_unknown = true := rfl
@[simp] theorem noB_theory_Symbols_1 : noBF n_theory_Symbols_1 = false := rfl
@[simp] theorem noB_slices_Insert_Power : noBF n_slices_Insert_Power = true := rfl
@[simp] theorem noB_slices_Delete_Power : noBF n_slices_Delete_Power = false := rfl
@[simp] theorem noB_xor_bits_flip : noBF n_xor_bits_flip = false := rfl
@[simp] theorem noB_xor_bits_xor : noBF n_xor_bits_xor = false := rfl
@[simp] theorem noB_xor_system_column : noBF n_xor_system_column = false := rfl
@[simp] theorem rawv_slices_DeleteFunc_Power : rawvF n_slices_DeleteFunc_Power = false := rfl
@[simp] theorem noB_slices_DeleteFunc_Power : noBF n_slices_DeleteFunc_Power = false := rfl
@[simp] theorem noB_slices_Clone_Power : noBF n_slices_Clone_Power = true := rfl
@[simp] theorem noB_exponent_solve : noBF n_exponent_solve = false := rfl
@[simp] theorem noB_exponent_start : noBF n_exponent_start = false := rfl
@[simp] theorem noB_exponent_elimination_reduce : noBF n_exponent_elimination_reduce = false := rfl
@[simp] theorem noB_slices_Clone_LPower_LPower : noBF n_slices_Clone_LPower_LPower = true := rfl
@[simp] theorem noB_exponent_elimination_column : noBF n_exponent_elimination_column = false := rfl
@[simp] theorem noB_exponent_elimination_subtract : noBF n_exponent_elimination_subtract = false := rfl
@[simp] theorem noB_strings_Builder_Reset : noBF n_strings_Builder_Reset = false := rfl
@[simp] theorem lay_law47_TranslateEnvironment : (ctxF n_law47_TranslateEnvironment).lay = false := _root_.id rfl
@[simp] theorem rb_law47_TranslateEnvironment : (ctxF n_law47_TranslateEnvironment).raw = rawF := _root_.id rfl
@[simp] theorem lay_law47_awake : (ctxF n_law47_awake).lay = false := _root_.id rfl
@[simp] theorem rb_law47_awake : (ctxF n_law47_awake).raw = rawF := _root_.id rfl
@[simp] theorem lay_ref15_Few : (ctxF n_ref15_Few).lay = false := _root_.id rfl
@[simp] theorem rb_ref15_Few : (ctxF n_ref15_Few).raw = rawF := _root_.id rfl
@[simp] theorem lay_translate_Environment : (ctxF n_translate_Environment).lay = false := _root_.id rfl
@[simp] theorem rb_translate_Environment : (ctxF n_translate_Environment).raw = rawF := _root_.id rfl
@[simp] theorem lay_ref47_Environment : (ctxF n_ref47_Environment).lay = false := _root_.id rfl
@[simp] theorem rb_ref47_Environment : (ctxF n_ref47_Environment).raw = rawF := _root_.id rfl
@[simp] theorem lay_ref47_SameClauses : (ctxF n_ref47_SameClauses).lay = false := _root_.id rfl
@[simp] theorem rb_ref47_SameClauses : (ctxF n_ref47_SameClauses).raw = rawF := _root_.id rfl
@[simp] theorem lay_cast_Valid : (ctxF n_cast_Valid).lay = false := _root_.id rfl
@[simp] theorem rb_cast_Valid : (ctxF n_cast_Valid).raw = rawF := _root_.id rfl
@[simp] theorem lay_translate_variable : (ctxF n_translate_variable).lay = false := _root_.id rfl
@[simp] theorem rb_translate_variable : (ctxF n_translate_variable).raw = rawF := _root_.id rfl
@[simp] theorem lay_translate_app : (ctxF n_translate_app).lay = false := _root_.id rfl
@[simp] theorem rb_translate_app : (ctxF n_translate_app).raw = rawF := _root_.id rfl
@[simp] theorem lay_translate_from : (ctxF n_translate_from).lay = false := _root_.id rfl
@[simp] theorem rb_translate_from : (ctxF n_translate_from).raw = rawF := _root_.id rfl
@[simp] theorem lay_translate_atom : (ctxF n_translate_atom).lay = false := _root_.id rfl
@[simp] theorem rb_translate_atom : (ctxF n_translate_atom).raw = rawF := _root_.id rfl
@[simp] theorem lay_ref15_Valid : (ctxF n_ref15_Valid).lay = false := _root_.id rfl
@[simp] theorem rb_ref15_Valid : (ctxF n_ref15_Valid).raw = rawF := _root_.id rfl
@[simp] theorem lay_ref47_parse : (ctxF n_ref47_parse).lay = false := _root_.id rfl
@[simp] theorem rb_ref47_parse : (ctxF n_ref47_parse).raw = rawF := _root_.id rfl
@[simp] theorem lay_ref47_att : (ctxF n_ref47_att).lay = false := _root_.id rfl
@[simp] theorem rb_ref47_att : (ctxF n_ref47_att).raw = rawF := _root_.id rfl
@[simp] theorem lay_ref15_Agent : (ctxF n_ref15_Agent).lay = false := _root_.id rfl
@[simp] theorem rb_ref15_Agent : (ctxF n_ref15_Agent).raw = rawF := _root_.id rfl
@[simp] theorem lay_ref01_App : (ctxF n_ref01_App).lay = false := _root_.id rfl
@[simp] theorem rb_ref01_App : (ctxF n_ref01_App).raw = rawF := _root_.id rfl
@[simp] theorem lay_ref44_Same : (ctxF n_ref44_Same).lay = false := _root_.id rfl
@[simp] theorem rb_ref44_Same : (ctxF n_ref44_Same).raw = rawF := _root_.id rfl
@[simp] theorem lay_slices_Index_string : (ctxF n_slices_Index_string).lay = false := _root_.id rfl
@[simp] theorem rb_slices_Index_string : (ctxF n_slices_Index_string).raw = rawF := _root_.id rfl
@[simp] theorem lay_ref01_Compare : (ctxF n_ref01_Compare).lay = false := _root_.id rfl
@[simp] theorem rb_ref01_Compare : (ctxF n_ref01_Compare).raw = rawF := _root_.id rfl
@[simp] theorem lay_term_Valid : (ctxF n_term_Valid).lay = false := _root_.id rfl
@[simp] theorem rb_term_Valid : (ctxF n_term_Valid).raw = rawF := _root_.id rfl
@[simp] theorem lay_cast_agent : (ctxF n_cast_agent).lay = false := _root_.id rfl
@[simp] theorem rb_cast_agent : (ctxF n_cast_agent).raw = rawF := _root_.id rfl
@[simp] theorem lay_strings_Contains : (ctxF n_strings_Contains).lay = false := _root_.id rfl
@[simp] theorem rb_strings_Contains : (ctxF n_strings_Contains).raw = rawF := _root_.id rfl
@[simp] theorem lay_slices_Contains_string : (ctxF n_slices_Contains_string).lay = false := _root_.id rfl
@[simp] theorem rb_slices_Contains_string : (ctxF n_slices_Contains_string).raw = rawF := _root_.id rfl
@[simp] theorem lay_translate_att : (ctxF n_translate_att).lay = false := _root_.id rfl
@[simp] theorem rb_translate_att : (ctxF n_translate_att).raw = rawF := _root_.id rfl
@[simp] theorem lay_ref01_IsName : (ctxF n_ref01_IsName).lay = false := _root_.id rfl
@[simp] theorem rb_ref01_IsName : (ctxF n_ref01_IsName).raw = rawF := _root_.id rfl
@[simp] theorem lay_ref15_hash : (ctxF n_ref15_hash).lay = false := _root_.id rfl
@[simp] theorem rb_ref15_hash : (ctxF n_ref15_hash).raw = rawF := _root_.id rfl
@[simp] theorem lay_ref15_find : (ctxF n_ref15_find).lay = false := _root_.id rfl
@[simp] theorem rb_ref15_find : (ctxF n_ref15_find).raw = rawF := _root_.id rfl
@[simp] theorem lay_ref01_Atom : (ctxF n_ref01_Atom).lay = false := _root_.id rfl
@[simp] theorem rb_ref01_Atom : (ctxF n_ref01_Atom).raw = rawF := _root_.id rfl
@[simp] theorem lay_slices_Clone_Fact : (ctxF n_slices_Clone_Fact).lay = false := _root_.id rfl
@[simp] theorem rb_slices_Clone_Fact : (ctxF n_slices_Clone_Fact).raw = rawF := _root_.id rfl
@[simp] theorem lay_slices_Clone_string : (ctxF n_slices_Clone_string).lay = false := _root_.id rfl
@[simp] theorem rb_slices_Clone_string : (ctxF n_slices_Clone_string).raw = rawF := _root_.id rfl
@[simp] theorem lay_ref01_Size : (ctxF n_ref01_Size).lay = false := _root_.id rfl
@[simp] theorem rb_ref01_Size : (ctxF n_ref01_Size).raw = rawF := _root_.id rfl
@[simp] theorem lay_ref01_number : (ctxF n_ref01_number).lay = false := _root_.id rfl
@[simp] theorem rb_ref01_number : (ctxF n_ref01_number).raw = rawF := _root_.id rfl
@[simp] theorem lay_term_check : (ctxF n_term_check).lay = false := _root_.id rfl
@[simp] theorem rb_term_check : (ctxF n_term_check).raw = rawF := _root_.id rfl
@[simp] theorem lay_strings_Index : (ctxF n_strings_Index).lay = false := _root_.id rfl
@[simp] theorem rb_strings_Index : (ctxF n_strings_Index).raw = rawF := _root_.id rfl
@[simp] theorem lay_ref01_letter : (ctxF n_ref01_letter).lay = false := _root_.id rfl
@[simp] theorem rb_ref01_letter : (ctxF n_ref01_letter).raw = rawF := _root_.id rfl
@[simp] theorem lay_ref01_digit : (ctxF n_ref01_digit).lay = false := _root_.id rfl
@[simp] theorem rb_ref01_digit : (ctxF n_ref01_digit).raw = rawF := _root_.id rfl
@[simp] theorem lay_term_isName : (ctxF n_term_isName).lay = false := _root_.id rfl
@[simp] theorem rb_term_isName : (ctxF n_term_isName).raw = rawF := _root_.id rfl
@[simp] theorem lay_scope_Resolve : (ctxF n_scope_Resolve).lay = false := _root_.id rfl
@[simp] theorem rb_scope_Resolve : (ctxF n_scope_Resolve).raw = rawF := _root_.id rfl
@[simp] theorem lay_term_Compare : (ctxF n_term_Compare).lay = false := _root_.id rfl
@[simp] theorem rb_term_Compare : (ctxF n_term_Compare).raw = rawF := _root_.id rfl
@[simp] theorem lay_term_part : (ctxF n_term_part).lay = false := _root_.id rfl
@[simp] theorem rb_term_part : (ctxF n_term_part).raw = rawF := _root_.id rfl
@[simp] theorem lay_stringslite_IndexByte : (ctxF n_stringslite_IndexByte).lay = false := _root_.id rfl
@[simp] theorem rb_stringslite_IndexByte : (ctxF n_stringslite_IndexByte).raw = rawF := _root_.id rfl
@[simp] theorem lay_scope_Resolve_1 : (ctxF n_scope_Resolve_1).lay = false := _root_.id rfl
@[simp] theorem rb_scope_Resolve_1 : (ctxF n_scope_Resolve_1).raw = rawF := _root_.id rfl
@[simp] theorem lay_slices_Clone_Step : (ctxF n_slices_Clone_Step).lay = false := _root_.id rfl
@[simp] theorem rb_slices_Clone_Step : (ctxF n_slices_Clone_Step).raw = rawF := _root_.id rfl
@[simp] theorem lay_slices_Clone_Goal : (ctxF n_slices_Clone_Goal).lay = false := _root_.id rfl
@[simp] theorem rb_slices_Clone_Goal : (ctxF n_slices_Clone_Goal).raw = rawF := _root_.id rfl
@[simp] theorem lay_slices_Clone_Term : (ctxF n_slices_Clone_Term).lay = false := _root_.id rfl
@[simp] theorem rb_slices_Clone_Term : (ctxF n_slices_Clone_Term).raw = rawF := _root_.id rfl
@[simp] theorem lay_term_sign : (ctxF n_term_sign).lay = false := _root_.id rfl
@[simp] theorem rb_term_sign : (ctxF n_term_sign).raw = rawF := _root_.id rfl
@[simp] theorem lay_term_Size : (ctxF n_term_Size).lay = false := _root_.id rfl
@[simp] theorem rb_term_Size : (ctxF n_term_Size).raw = rawF := _root_.id rfl
@[simp] theorem lay_strings_Compare : (ctxF n_strings_Compare).lay = false := _root_.id rfl
@[simp] theorem rb_strings_Compare : (ctxF n_strings_Compare).raw = rawF := _root_.id rfl
@[simp] theorem lay_scope_declared : (ctxF n_scope_declared).lay = false := _root_.id rfl
@[simp] theorem rb_scope_declared : (ctxF n_scope_declared).raw = rawF := _root_.id rfl
@[simp] theorem lay_scope_changed : (ctxF n_scope_changed).lay = false := _root_.id rfl
@[simp] theorem rb_scope_changed : (ctxF n_scope_changed).raw = rawF := _root_.id rfl
@[simp] theorem lay_bytealg_CompareString : (ctxF n_bytealg_CompareString).lay = false := _root_.id rfl
@[simp] theorem rb_bytealg_CompareString : (ctxF n_bytealg_CompareString).raw = rawF := _root_.id rfl
@[simp] theorem lay_scope_declared_1 : (ctxF n_scope_declared_1).lay = false := _root_.id rfl
@[simp] theorem rb_scope_declared_1 : (ctxF n_scope_declared_1).raw = rawF := _root_.id rfl
@[simp] theorem lay_slices_Clone_set_Term : (ctxF n_slices_Clone_set_Term).lay = false := _root_.id rfl
@[simp] theorem rb_slices_Clone_set_Term : (ctxF n_slices_Clone_set_Term).raw = rawF := _root_.id rfl
@[simp] theorem lay_slices_Clone_Power : (ctxF n_slices_Clone_Power).lay = false := _root_.id rfl
@[simp] theorem rb_slices_Clone_Power : (ctxF n_slices_Clone_Power).raw = rawF := _root_.id rfl
@[simp] theorem lay_slices_Clone_LPower_LPower : (ctxF n_slices_Clone_LPower_LPower).lay = false := _root_.id rfl
@[simp] theorem rb_slices_Clone_LPower_LPower : (ctxF n_slices_Clone_LPower_LPower).raw = rawF := _root_.id rfl
@[simp] theorem raw_law47_awake : rawF n_law47_awake = false := rfl
@[simp] theorem raw_ref15_Few : rawF n_ref15_Few = false := rfl
@[simp] theorem raw_translate_Environment : rawF n_translate_Environment = false := rfl
@[simp] theorem raw_ref47_Environment : rawF n_ref47_Environment = false := rfl
@[simp] theorem raw_ref47_SameClauses : rawF n_ref47_SameClauses = false := rfl
@[simp] theorem raw_cast_Valid : rawF n_cast_Valid = false := rfl
@[simp] theorem raw_translate_variable : rawF n_translate_variable = false := rfl
@[simp] theorem raw_translate_app : rawF n_translate_app = false := rfl
@[simp] theorem raw_translate_from : rawF n_translate_from = false := rfl
@[simp] theorem raw_translate_atom : rawF n_translate_atom = false := rfl
@[simp] theorem raw_ref15_Valid : rawF n_ref15_Valid = false := rfl
@[simp] theorem raw_ref47_parse : rawF n_ref47_parse = false := rfl
@[simp] theorem raw_ref47_att : rawF n_ref47_att = false := rfl
@[simp] theorem raw_ref15_Agent : rawF n_ref15_Agent = false := rfl
@[simp] theorem raw_ref01_App : rawF n_ref01_App = false := rfl
@[simp] theorem raw_ref44_Same : rawF n_ref44_Same = false := rfl
@[simp] theorem raw_ref22_item : rawF n_ref22_item = true := rfl
@[simp] theorem raw_slices_Index_string : rawF n_slices_Index_string = false := rfl
@[simp] theorem raw_translate_assignments : rawF n_translate_assignments = false := rfl
@[simp] theorem raw_translate_replaced : rawF n_translate_replaced = false := rfl
@[simp] theorem raw_ref01_Compare : rawF n_ref01_Compare = false := rfl
@[simp] theorem raw_term_Valid : rawF n_term_Valid = false := rfl
@[simp] theorem raw_cast_agent : rawF n_cast_agent = false := rfl
@[simp] theorem raw_strings_Contains : rawF n_strings_Contains = false := rfl
@[simp] theorem raw_slices_Contains_string : rawF n_slices_Contains_string = false := rfl
@[simp] theorem raw_translate_att : rawF n_translate_att = false := rfl
@[simp] theorem raw_ref01_IsName : rawF n_ref01_IsName = false := rfl
@[simp] theorem raw_ref15_hash : rawF n_ref15_hash = false := rfl
@[simp] theorem raw_ref15_find : rawF n_ref15_find = false := rfl
@[simp] theorem raw_ref01_Atom : rawF n_ref01_Atom = false := rfl
@[simp] theorem raw_ref44_Compare : rawF n_ref44_Compare = false := rfl
@[simp] theorem raw_ref22_readFresh : rawF n_ref22_readFresh = true := rfl
@[simp] theorem raw_ref22_readStep : rawF n_ref22_readStep = true := rfl
@[simp] theorem raw_ref22_readGoal : rawF n_ref22_readGoal = true := rfl
@[simp] theorem raw_slices_Clone_Fact : rawF n_slices_Clone_Fact = true := rfl
@[simp] theorem raw_clause_Canonical : rawF n_clause_Canonical = true := rfl
@[simp] theorem raw_translate_translator_fresh : rawF n_translate_translator_fresh = false := rfl
@[simp] theorem raw_slices_Clone_string : rawF n_slices_Clone_string = false := rfl
@[simp] theorem raw_ref01_Size : rawF n_ref01_Size = false := rfl
@[simp] theorem raw_ref01_number : rawF n_ref01_number = false := rfl
@[simp] theorem raw_term_check : rawF n_term_check = true := rfl
@[simp] theorem raw_strings_Index : rawF n_strings_Index = false := rfl
@[simp] theorem raw_ref01_letter : rawF n_ref01_letter = false := rfl
@[simp] theorem raw_ref01_digit : rawF n_ref01_digit = false := rfl
@[simp] theorem raw_ref44_number : rawF n_ref44_number = false := rfl
@[simp] theorem raw_ref44_Facts : rawF n_ref44_Facts = false := rfl
@[simp] theorem raw_clause_set : rawF n_clause_set = true := rfl
@[simp] theorem raw_slices_SortStableFunc_Fact : rawF n_slices_SortStableFunc_Fact = true := rfl
@[simp] theorem raw_clause_Canonical_2 : rawF n_clause_Canonical_2 = true := rfl
@[simp] theorem raw_clause_Canonical_3 : rawF n_clause_Canonical_3 = true := rfl
@[simp] theorem raw_clause_flat : rawF n_clause_flat = true := rfl
@[simp] theorem raw_clause_each : rawF n_clause_each = true := rfl
@[simp] theorem raw_slices_ContainsFunc_Term : rawF n_slices_ContainsFunc_Term = true := rfl
@[simp] theorem raw_ref03_match : rawF n_ref03_match = true := rfl
@[simp] theorem raw_term_isName : rawF n_term_isName = false := rfl
@[simp] theorem raw_scope_Resolve : rawF n_scope_Resolve = false := rfl
@[simp] theorem raw_compile_newKnower : rawF n_compile_newKnower = true := rfl
@[simp] theorem raw_compile_knows_1 : rawF n_compile_knows_1 = true := rfl
@[simp] theorem raw_compile_knower_can : rawF n_compile_knower_can = true := rfl
@[simp] theorem raw_compile_params : rawF n_compile_params = false := rfl
@[simp] theorem raw_compile_raw : rawF n_compile_raw = false := rfl
@[simp] theorem raw_compile_newSide : rawF n_compile_newSide = true := rfl
@[simp] theorem raw_compile_side_receive : rawF n_compile_side_receive = true := rfl
@[simp] theorem raw_compile_knower_form : rawF n_compile_knower_form = true := rfl
@[simp] theorem raw_compile_side_matches : rawF n_compile_side_matches = true := rfl
@[simp] theorem raw_machine_bound : rawF n_machine_bound = false := rfl
@[simp] theorem raw_clause_facts : rawF n_clause_facts = true := rfl
@[simp] theorem raw_clause_has : rawF n_clause_has = false := rfl
@[simp] theorem raw_slices_stableCmpFunc_Fact : rawF n_slices_stableCmpFunc_Fact = true := rfl
@[simp] theorem raw_term_Compare : rawF n_term_Compare = false := rfl
@[simp] theorem raw_term_walk : rawF n_term_walk = true := rfl
@[simp] theorem raw_term_ofKind_1 : rawF n_term_ofKind_1 = true := rfl
@[simp] theorem raw_term_ordered : rawF n_term_ordered = true := rfl
@[simp] theorem raw_slices_IndexFunc_Term : rawF n_slices_IndexFunc_Term = true := rfl
@[simp] theorem raw_term_part : rawF n_term_part = false := rfl
@[simp] theorem raw_stringslite_IndexByte : rawF n_stringslite_IndexByte = false := rfl
@[simp] theorem raw_scope_Resolve_1 : rawF n_scope_Resolve_1 = true := rfl
@[simp] theorem raw_term_Format : rawF n_term_Format = false := rfl
@[simp] theorem raw_slices_Delete_string : rawF n_slices_Delete_string = true := rfl
@[simp] theorem raw_slices_Clone_Step : rawF n_slices_Clone_Step = true := rfl
@[simp] theorem raw_slices_Clone_Goal : rawF n_slices_Clone_Goal = true := rfl
@[simp] theorem raw_slices_Clone_Term : rawF n_slices_Clone_Term = true := rfl
@[simp] theorem raw_compile_knower_blind : rawF n_compile_knower_blind = true := rfl
@[simp] theorem raw_compile_side_receive_1 : rawF n_compile_side_receive_1 = true := rfl
@[simp] theorem raw_compile_find : rawF n_compile_find = false := rfl
@[simp] theorem raw_compile_knower_hidden : rawF n_compile_knower_hidden = true := rfl
@[simp] theorem raw_slices_Concat_Term : rawF n_slices_Concat_Term = false := rfl
@[simp] theorem raw_machine_has : rawF n_machine_has = false := rfl
@[simp] theorem raw_machine_scope_block : rawF n_machine_scope_block = true := rfl
@[simp] theorem raw_slices_SortFunc_Term : rawF n_slices_SortFunc_Term = true := rfl
@[simp] theorem raw_slices_insertionSortCmpFunc_Fact : rawF n_slices_insertionSortCmpFunc_Fact = true := rfl
@[simp] theorem raw_slices_symMergeCmpFunc_Fact : rawF n_slices_symMergeCmpFunc_Fact = true := rfl
@[simp] theorem raw_term_sign : rawF n_term_sign = false := rfl
@[simp] theorem raw_term_Size : rawF n_term_Size = false := rfl
@[simp] theorem raw_strings_Compare : rawF n_strings_Compare = false := rfl
@[simp] theorem raw_slices_CompactFunc_Term : rawF n_slices_CompactFunc_Term = true := rfl
@[simp] theorem raw_scope_declared : rawF n_scope_declared = false := rfl
@[simp] theorem raw_scope_changed : rawF n_scope_changed = false := rfl
@[simp] theorem raw_view_add : rawF n_view_add = true := rfl
@[simp] theorem raw_term_Subterms_1 : rawF n_term_Subterms_1 = true := rfl
@[simp] theorem raw_term_write : rawF n_term_write = true := rfl
@[simp] theorem raw_strings_Builder_String : rawF n_strings_Builder_String = true := rfl
@[simp] theorem raw_compile_side_through : rawF n_compile_side_through = true := rfl
@[simp] theorem raw_slices_Grow_Term : rawF n_slices_Grow_Term = true := rfl
@[simp] theorem raw_machine_scope_bind : rawF n_machine_scope_bind = true := rfl
@[simp] theorem raw_slices_pdqsortCmpFunc_Term : rawF n_slices_pdqsortCmpFunc_Term = true := rfl
@[simp] theorem raw_slices_rotateCmpFunc_Fact : rawF n_slices_rotateCmpFunc_Fact = true := rfl
@[simp] theorem raw_bytealg_CompareString : rawF n_bytealg_CompareString = false := rfl
@[simp] theorem raw_scope_declared_1 : rawF n_scope_declared_1 = true := rfl
@[simp] theorem raw_strings_Builder_WriteString : rawF n_strings_Builder_WriteString = true := rfl
@[simp] theorem raw_strings_Builder_WriteByte : rawF n_strings_Builder_WriteByte = true := rfl
@[simp] theorem raw_slices_insertionSortCmpFunc_Term : rawF n_slices_insertionSortCmpFunc_Term = true := rfl
@[simp] theorem raw_slices_heapSortCmpFunc_Term : rawF n_slices_heapSortCmpFunc_Term = true := rfl
@[simp] theorem raw_slices_breakPatternsCmpFunc_Term : rawF n_slices_breakPatternsCmpFunc_Term = true := rfl
@[simp] theorem raw_slices_choosePivotCmpFunc_Term : rawF n_slices_choosePivotCmpFunc_Term = true := rfl
@[simp] theorem raw_slices_reverseRangeCmpFunc_Term : rawF n_slices_reverseRangeCmpFunc_Term = true := rfl
@[simp] theorem raw_slices_partialInsertionSortCmpFunc_Term : rawF n_slices_partialInsertionSortCmpFunc_Term = true := rfl
@[simp] theorem raw_slices_partitionEqualCmpFunc_Term : rawF n_slices_partitionEqualCmpFunc_Term = true := rfl
@[simp] theorem raw_slices_partitionCmpFunc_Term : rawF n_slices_partitionCmpFunc_Term = true := rfl
@[simp] theorem raw_slices_swapRangeCmpFunc_Fact : rawF n_slices_swapRangeCmpFunc_Fact = true := rfl
@[simp] theorem raw_knowledge_set_composed : rawF n_knowledge_set_composed = false := rfl
@[simp] theorem raw_knowledge_set_opened : rawF n_knowledge_set_opened = false := rfl
@[simp] theorem raw_knowledge_set_raised : rawF n_knowledge_set_raised = false := rfl
@[simp] theorem raw_slices_Insert_Term : rawF n_slices_Insert_Term = true := rfl
@[simp] theorem raw_slices_Clone_set_Term : rawF n_slices_Clone_set_Term = true := rfl
@[simp] theorem raw_strings_Builder_copyCheck : rawF n_strings_Builder_copyCheck = true := rfl
@[simp] theorem raw_slices_siftDownCmpFunc_Term : rawF n_slices_siftDownCmpFunc_Term = true := rfl
@[simp] theorem raw_slices_xorshift_Next : rawF n_slices_xorshift_Next = true := rfl
@[simp] theorem raw_slices_medianAdjacentCmpFunc_Term : rawF n_slices_medianAdjacentCmpFunc_Term = true := rfl
@[simp] theorem raw_slices_medianCmpFunc_Term : rawF n_slices_medianCmpFunc_Term = true := rfl
@[simp] theorem raw_exponent_collect : rawF n_exponent_collect = true := rfl
@[simp] theorem raw_theory_Symbols : rawF n_theory_Symbols = false := rfl
@[simp] theorem raw_slices_order2CmpFunc_Term : rawF n_slices_order2CmpFunc_Term = true := rfl
@[simp] theorem raw_exponent_insert : rawF n_exponent_insert = true := rfl
@[simp] theorem raw_xor_eliminate : rawF n_xor_eliminate = true := rfl
@[simp] theorem raw_xor_system_reduce : rawF n_xor_system_reduce = true := rfl
@[simp] theorem raw_xor_system_row : rawF n_xor_system_row = true := rfl
@[simp] theorem raw_knowledge_set_unknown : rawF n_knowledge_set_unknown = false := rfl
@[simp] theorem raw_theory_Symbols_1 : rawF n_theory_Symbols_1 = true := rfl
@[simp] theorem raw_slices_Insert_Power : rawF n_slices_Insert_Power = true := rfl
@[simp] theorem raw_slices_Delete_Power : rawF n_slices_Delete_Power = true := rfl
@[simp] theorem raw_xor_bits_flip : rawF n_xor_bits_flip = true := rfl
@[simp] theorem raw_xor_bits_xor : rawF n_xor_bits_xor = true := rfl
@[simp] theorem raw_xor_system_column : rawF n_xor_system_column = true := rfl
@[simp] theorem raw_slices_DeleteFunc_Power : rawF n_slices_DeleteFunc_Power = true := rfl
@[simp] theorem raw_slices_Clone_Power : rawF n_slices_Clone_Power = true := rfl
@[simp] theorem raw_exponent_solve : rawF n_exponent_solve = true := rfl
@[simp] theorem raw_exponent_start : rawF n_exponent_start = true := rfl
@[simp] theorem raw_exponent_elimination_reduce : rawF n_exponent_elimination_reduce = true := rfl
@[simp] theorem raw_exponent_columns : rawF n_exponent_columns = false := rfl
@[simp] theorem raw_slices_Clone_LPower_LPower : rawF n_slices_Clone_LPower_LPower = true := rfl
@[simp] theorem raw_exponent_elimination_column : rawF n_exponent_elimination_column = true := rfl
@[simp] theorem raw_exponent_elimination_subtract : rawF n_exponent_elimination_subtract = true := rfl
def x_law47_TranslateEnvironment : RFunc := ⟨33, [(.tmp 2)], (.seq (rG [oB 1 0, oC 2 (.bool false)]) (.seq (.seq (rG [oK 7 n_law47_awake [], oU 8 7, oV 9 8, oH 10 9 (pA 2 1), oH 11 9 (.call n_ref15_Few [(.t 10)]), oH 12 9 (.un .not (.t 11)), oO 13 (.pick (.t 9) (.c (.bool true)) (.t 12))]) (.cond (.t 13) (.seq (rG [oK 14 n_law47_awake [], oV 2 14]) .ret) .skip)) (.seq (rG [oA 16 2 1, oK 17 n_translate_Environment [(.t 16)], oV 15 17, oO 18 (.ext (.t 15) 0), oO 19 (.ext (.t 15) 1), oV 3 18, oV 4 19]) (.seq (rG [oA 21 2 1, oK 22 n_ref47_Environment [(.t 21)], oV 20 22, oO 23 (.ext (.t 20) 0), oO 24 (.ext (.t 20) 1), oV 5 23, oV 6 24]) (.seq (rG [oV 25 4, oV 26 6, oO 27 (.bin .eql (.t 25) (.t 26)), oV 28 27, oG 29 28 (pV 3), oG 30 28 (pV 5), oG 31 28 (.call n_ref47_SameClauses [(.t 29), (.t 30)]), oO 32 (.pick (.t 28) (.t 31) (.c (.bool false))), oV 2 32]) .ret)))))⟩
def x_ref15_Few_0 : RCode := (.seq (.seq (rG [oV 12 4, oV 13 3, oN 14 13, oE 15 12 14]) (.cond (.t 15) .skip (.exit 0))) (.seq (.block 1 (.seq (rG [oV 18 3, oV 19 4, oI 20 1 18 19, oL 21 20, oO 22 (.len true (.t 21)), oO 23 (.bin .gtr (.t 22) (.c (pI 60)))]) (.cond (.t 23) (.seq (rG [oC 2 (.bool false)]) .ret) .skip))) (rG [oV 16 4, oJ 17 16, oV 4 17])))
def x_ref15_Few : RFunc := ⟨27, [(.tmp 2)], (.seq (rG [oB 1 0, oC 2 (.bool false)]) (.seq (rD [oO 5 (.bslicev 0 (.str (bs [])) []), oF 6 0 1, oO 7 (.ldb false 1 (.t 6)), oO 8 (.app 1 16 (.t 5) (.t 7)), oF 9 1 1, oO 10 (.ldb false 1 (.t 9)), oO 11 (.app 1 16 (.t 8) (.t 10)), oV 3 11]) (.seq (.seq (rG [oC 4 (pI 0)]) (.block 0 (.loop x_ref15_Few_0))) (.seq (rG [oV 24 3, oN 25 24, oO 26 (.bin .leq (.t 25) (.c (pI 20))), oV 2 26]) .ret))))⟩
def x_translate_Environment_0 : RCode := (.seq (rG [oE 129 128 127]) (.seq (.cond (.t 129) .skip (.exit 4)) (.seq (.block 5 (.seq (rG [oI 130 1 126 128, oL 131 130, oV 15 131]) (.seq (rG [oV 132 15, oK 133 n_translate_atom [(.t 132), (.c (pI 1))], oZ 16 (.agg [(pI 0), (.str (bs [])), (pI 0), (.vs true 0 [])]), oW 4 16 133]) (rD [oV 134 8, oA 135 4 16, oO 136 (.bslice 1 (.agg [(pI 0), (.str (bs [])), (pI 0), (.vs true 0 [])]) [(0, (.t 135))]), oO 137 (.call n_translate_app [(.c (.str (bs [115, 107]))), (.t 136)]), oO 138 (.call n_translate_from [(.t 137), (.c (.vs true 0 []))]), oA 139 4 16, oA 140 4 7, oO 141 (.bslice 2 (.agg [(pI 0), (.str (bs [])), (pI 0), (.vs true 0 [])]) [(0, (.t 139)), (1, (.t 140))]), oO 142 (.call n_translate_app [(.c (.str (bs [115, 104, 107]))), (.t 141)]), oO 143 (.call n_translate_from [(.t 142), (.c (.vs true 0 []))]), oA 144 4 7, oA 145 4 16, oO 146 (.bslice 2 (.agg [(pI 0), (.str (bs [])), (pI 0), (.vs true 0 [])]) [(0, (.t 144)), (1, (.t 145))]), oO 147 (.call n_translate_app [(.c (.str (bs [115, 104, 107]))), (.t 146)]), oO 148 (.call n_translate_from [(.t 147), (.c (.vs true 0 []))]), oO 149 (.bslice 3 (.agg [(.vs true 0 []), (pI 0), (pI 0), (.vs true 0 [])]) [(0, (.t 138)), (1, (.t 143)), (2, (.t 148))]), oO 150 (.app 4 64 (.t 134) (.t 149)), oV 8 150])))) (rG [oJ 151 128, oV 128 151]))))
def x_translate_Environment_1 : RCode := (.seq (rG [oE 116 115 114]) (.seq (.cond (.t 116) .skip (.exit 2)) (.seq (.block 3 (.seq (rG [oI 117 4 113 115, oA 118 4 117, oZ 13 (.agg [(pI 0), (.str (bs [])), (pI 0), (.vs true 0 [])]), oW 4 13 118]) (rG [oV 119 8, oA 120 4 13, oO 121 (.call n_translate_from [(.t 120), (.c (.vs true 0 []))]), oO 122 (.bslice 1 (.agg [(.vs true 0 []), (pI 0), (pI 0), (.vs true 0 [])]) [(0, (.t 121))]), oO 123 (.app 4 64 (.t 119) (.t 122)), oV 8 123]))) (rG [oJ 124 115, oV 115 124]))))
def x_translate_Environment_2 : RCode := (.seq (rG [oE 50 49 48]) (.seq (.cond (.t 50) .skip (.exit 0)) (.seq (.block 1 (.seq (rG [oI 51 4 47 49, oA 52 4 51, oZ 10 (.agg [(pI 0), (.str (bs [])), (pI 0), (.vs true 0 [])]), oW 4 10 52]) (rG [oV 53 8, oA 54 4 10, oF 55 3 10, oL 56 55, oK 57 n_translate_from [(.t 54), (.t 56)], oO 58 (.bslice 1 (.agg [(.vs true 0 []), (pI 0), (pI 0), (.vs true 0 [])]) [(0, (.t 57))]), oO 59 (.app 4 64 (.t 53) (.t 58)), oV 8 59]))) (rG [oJ 60 49, oV 49 60]))))
def x_translate_Environment : RFunc := ⟨153, [(.tmp 2), (.tmp 3)], (.seq (rG [oB 1 0, oC 2 (.vs true 0 []), oC 3 (pI 0)]) (.seq (.seq (rG [oA 17 2 1, oK 18 n_cast_Valid [(.t 17)], oV 4 18]) (.seq (rG [oV 19 4, oO 20 (.bin .neq (.t 19) (.c (pI 0)))]) (.cond (.t 20) (.seq (rG [oV 21 4, oC 2 (.vs true 0 []), oV 3 21]) .ret) .skip))) (.seq (rG [oO 22 (.call n_translate_variable [(.c (.str (bs [120]))), (.c (pI 0))]), oO 23 (.call n_translate_variable [(.c (.str (bs [121]))), (.c (pI 0))]), oO 24 (.call n_translate_variable [(.c (.str (bs [120]))), (.c (pI 1))]), oZ 5 (.agg [(pI 0), (.str (bs [])), (pI 0), (.vs true 0 [])]), oZ 6 (.agg [(pI 0), (.str (bs [])), (pI 0), (.vs true 0 [])]), oZ 7 (.agg [(pI 0), (.str (bs [])), (pI 0), (.vs true 0 [])]), oW 4 5 22, oW 4 6 23, oW 4 7 24]) (.seq (rG [oC 8 (.vs true 0 [])]) (.seq (.seq (rD [oA 25 4 5, oA 26 4 6, oO 27 (.bslice 2 (.agg [(pI 0), (.str (bs [])), (pI 0), (.vs true 0 [])]) [(0, (.t 25)), (1, (.t 26))]), oO 28 (.call n_translate_app [(.c (.str (bs [112, 97, 105, 114]))), (.t 27)]), oA 29 4 5, oA 30 4 6, oO 31 (.bslice 2 (.agg [(pI 0), (.str (bs [])), (pI 0), (.vs true 0 [])]) [(0, (.t 29)), (1, (.t 30))]), oO 32 (.call n_translate_app [(.c (.str (bs [101, 110, 99]))), (.t 31)]), oA 33 4 5, oA 34 4 6, oO 35 (.bslice 2 (.agg [(pI 0), (.str (bs [])), (pI 0), (.vs true 0 [])]) [(0, (.t 33)), (1, (.t 34))]), oO 36 (.call n_translate_app [(.c (.str (bs [97, 101, 110, 99]))), (.t 35)]), oA 37 4 5, oO 38 (.bslice 1 (.agg [(pI 0), (.str (bs [])), (pI 0), (.vs true 0 [])]) [(0, (.t 37))]), oO 39 (.call n_translate_app [(.c (.str (bs [112, 107]))), (.t 38)]), oA 40 4 5, oA 41 4 6, oO 42 (.bslice 2 (.agg [(pI 0), (.str (bs [])), (pI 0), (.vs true 0 [])]) [(0, (.t 40)), (1, (.t 41))]), oO 43 (.call n_translate_app [(.c (.str (bs [115, 105, 103, 110]))), (.t 42)]), oA 44 4 5, oO 45 (.bslice 1 (.agg [(pI 0), (.str (bs [])), (pI 0), (.vs true 0 [])]) [(0, (.t 44))]), oO 46 (.call n_translate_app [(.c (.str (bs [104, 97, 115, 104]))), (.t 45)]), oO 47 (.bslice 6 (.agg [(pI 0), (.str (bs [])), (pI 0), (.vs true 0 [])]) [(0, (.t 28)), (1, (.t 32)), (2, (.t 36)), (3, (.t 39)), (4, (.t 43)), (5, (.t 46))]), oN 48 47, oC 49 (pI 0)]) (.block 0 (.loop x_translate_Environment_2))) (.seq (rG [oA 61 4 5, oA 62 4 6, oO 63 (.bslice 2 (.agg [(pI 0), (.str (bs [])), (pI 0), (.vs true 0 [])]) [(0, (.t 61)), (1, (.t 62))]), oO 64 (.call n_translate_app [(.c (.str (bs [112, 97, 105, 114]))), (.t 63)]), oZ 11 (.agg [(pI 0), (.str (bs [])), (pI 0), (.vs true 0 [])]), oW 4 11 64]) (.seq (rD [oV 65 8, oA 66 4 5, oA 67 4 11, oO 68 (.bslice 1 (.agg [(pI 0), (.str (bs [])), (pI 0), (.vs true 0 [])]) [(0, (.t 67))]), oK 69 n_translate_from [(.t 66), (.t 68)], oA 70 4 6, oA 71 4 11, oO 72 (.bslice 1 (.agg [(pI 0), (.str (bs [])), (pI 0), (.vs true 0 [])]) [(0, (.t 71))]), oK 73 n_translate_from [(.t 70), (.t 72)], oA 74 4 5, oA 75 4 5, oA 76 4 6, oO 77 (.bslice 2 (.agg [(pI 0), (.str (bs [])), (pI 0), (.vs true 0 [])]) [(0, (.t 75)), (1, (.t 76))]), oO 78 (.call n_translate_app [(.c (.str (bs [101, 110, 99]))), (.t 77)]), oA 79 4 6, oO 80 (.bslice 2 (.agg [(pI 0), (.str (bs [])), (pI 0), (.vs true 0 [])]) [(0, (.t 78)), (1, (.t 79))]), oK 81 n_translate_from [(.t 74), (.t 80)], oA 82 4 5, oA 83 4 5, oA 84 4 6, oO 85 (.bslice 1 (.agg [(pI 0), (.str (bs [])), (pI 0), (.vs true 0 [])]) [(0, (.t 84))]), oO 86 (.call n_translate_app [(.c (.str (bs [112, 107]))), (.t 85)]), oO 87 (.bslice 2 (.agg [(pI 0), (.str (bs [])), (pI 0), (.vs true 0 [])]) [(0, (.t 83)), (1, (.t 86))]), oO 88 (.call n_translate_app [(.c (.str (bs [97, 101, 110, 99]))), (.t 87)]), oA 89 4 6, oO 90 (.bslice 2 (.agg [(pI 0), (.str (bs [])), (pI 0), (.vs true 0 [])]) [(0, (.t 88)), (1, (.t 89))]), oK 91 n_translate_from [(.t 82), (.t 90)], oA 92 4 5, oA 93 4 5, oA 94 4 6, oO 95 (.bslice 2 (.agg [(pI 0), (.str (bs [])), (pI 0), (.vs true 0 [])]) [(0, (.t 93)), (1, (.t 94))]), oO 96 (.call n_translate_app [(.c (.str (bs [115, 105, 103, 110]))), (.t 95)]), oO 97 (.bslice 1 (.agg [(pI 0), (.str (bs [])), (pI 0), (.vs true 0 [])]) [(0, (.t 96))]), oK 98 n_translate_from [(.t 92), (.t 97)], oO 99 (.bslice 5 (.agg [(.vs true 0 []), (pI 0), (pI 0), (.vs true 0 [])]) [(0, (.t 69)), (1, (.t 73)), (2, (.t 81)), (3, (.t 91)), (4, (.t 98))]), oO 100 (.app 4 64 (.t 65) (.t 99)), oV 8 100]) (.seq (.seq (rD [oA 101 4 7, oO 102 (.call n_translate_variable [(.c (.str (bs [120]))), (.c (pI 5))]), oO 103 (.call n_translate_atom [(.c (.str (bs [103]))), (.c (pI 4))]), oO 104 (.call n_translate_atom [(.c (.str (bs [111, 119, 110]))), (.c (pI 0))]), oA 105 4 5, oO 106 (.bslice 2 (.agg [(pI 0), (.str (bs [])), (pI 0), (.vs true 0 [])]) [(0, (.t 104)), (1, (.t 105))]), oO 107 (.call n_translate_app [(.c (.str (bs [110, 101, 119]))), (.t 106)]), oA 108 4 7, oO 109 (.bslice 1 (.agg [(pI 0), (.str (bs [])), (pI 0), (.vs true 0 [])]) [(0, (.t 108))]), oO 110 (.call n_translate_app [(.c (.str (bs [115, 107]))), (.t 109)]), oO 111 (.bslice 1 (.agg [(pI 0), (.str (bs [])), (pI 0), (.vs true 0 [])]) [(0, (.t 110))]), oO 112 (.call n_translate_app [(.c (.str (bs [112, 107]))), (.t 111)]), oO 113 (.bslice 5 (.agg [(pI 0), (.str (bs [])), (pI 0), (.vs true 0 [])]) [(0, (.t 101)), (1, (.t 102)), (2, (.t 103)), (3, (.t 107)), (4, (.t 112))]), oN 114 113, oC 115 (pI 0)]) (.block 2 (.loop x_translate_Environment_1))) (.seq (.seq (rG [oF 125 1 1, oL 126 125, oN 127 126, oC 128 (pI 0)]) (.block 4 (.loop x_translate_Environment_0))) (.seq (rG [oV 152 8, oV 2 152, oC 3 (pI 0)]) .ret))))))))))⟩
def x_ref47_Environment_0 : RCode := (.seq (.seq (rG [oV 117 16, oF 118 1 1, oL 119 118, oN 120 119, oE 121 117 120]) (.cond (.t 121) .skip (.exit 6))) (.seq (.block 7 (.seq (rG [oF 124 1 1, oL 125 124, oV 126 16, oI 127 1 125 126, oL 128 127, oK 129 n_ref15_Agent [(.t 128)], oZ 17 (.agg [(pI 0), (.str (bs [])), (pI 0), (.vs true 0 [])]), oW 4 17 129]) (rD [oV 130 7, oA 131 4 17, oO 132 (.bslice 1 (.agg [(pI 0), (.str (bs [])), (pI 0), (.vs true 0 [])]) [(0, (.t 131))]), oO 133 (.call n_ref01_App [(.c (.str (bs [115, 107]))), (.t 132)]), oK 134 n_ref47_att [(.t 133)], oO 135 (.build (.agg [(.vs true 0 []), (pI 0), (pI 0), (.vs true 0 [])]) [(1, (3, (.t 134)))]), oA 136 4 17, oA 137 4 15, oO 138 (.bslice 2 (.agg [(pI 0), (.str (bs [])), (pI 0), (.vs true 0 [])]) [(0, (.t 136)), (1, (.t 137))]), oO 139 (.call n_ref01_App [(.c (.str (bs [115, 104, 107]))), (.t 138)]), oK 140 n_ref47_att [(.t 139)], oO 141 (.build (.agg [(.vs true 0 []), (pI 0), (pI 0), (.vs true 0 [])]) [(1, (3, (.t 140)))]), oA 142 4 15, oA 143 4 17, oO 144 (.bslice 2 (.agg [(pI 0), (.str (bs [])), (pI 0), (.vs true 0 [])]) [(0, (.t 142)), (1, (.t 143))]), oO 145 (.call n_ref01_App [(.c (.str (bs [115, 104, 107]))), (.t 144)]), oK 146 n_ref47_att [(.t 145)], oO 147 (.build (.agg [(.vs true 0 []), (pI 0), (pI 0), (.vs true 0 [])]) [(1, (3, (.t 146)))]), oO 148 (.bslice 3 (.agg [(.vs true 0 []), (pI 0), (pI 0), (.vs true 0 [])]) [(0, (.t 135)), (1, (.t 141)), (2, (.t 147))]), oO 149 (.app 4 64 (.t 130) (.t 148)), oV 7 149]))) (rG [oV 122 16, oJ 123 122, oV 16 123])))
def x_ref47_Environment_1 : RCode := (.seq (.seq (rG [oV 100 14, oV 101 13, oN 102 101, oE 103 100 102]) (.cond (.t 103) .skip (.exit 4))) (.seq (.block 5 (rG [oV 106 7, oV 107 13, oV 108 14, oI 109 1 107 108, oL 110 109, oK 111 n_ref47_parse [(.t 110)], oK 112 n_ref47_att [(.t 111)], oO 113 (.build (.agg [(.vs true 0 []), (pI 0), (pI 0), (.vs true 0 [])]) [(1, (3, (.t 112)))]), oO 114 (.bslice 1 (.agg [(.vs true 0 []), (pI 0), (pI 0), (.vs true 0 [])]) [(0, (.t 113))]), oO 115 (.app 4 64 (.t 106) (.t 114)), oV 7 115])) (rG [oV 104 14, oJ 105 104, oV 14 105])))
def x_ref47_Environment_2 : RCode := (.seq (.seq (rG [oV 40 12, oF 41 3 10, oL 42 41, oN 43 42, oE 44 40 43]) (.cond (.t 44) .skip (.exit 2))) (.seq (.block 3 (rD [oF 47 0 11, oL 48 47, oF 49 3 10, oL 50 49, oV 51 12, oI 52 4 50 51, oA 53 4 52, oK 54 n_ref47_att [(.t 53)], oO 55 (.bslice 1 (.agg [(pI 0), (pI 0), (.vs true 0 [])]) [(0, (.t 54))]), oO 56 (.app 3 40 (.t 48) (.t 55)), oF 57 0 11, oW 1 57 56])) (rG [oV 45 12, oJ 46 45, oV 12 46])))
def x_ref47_Environment_3 : RCode := (.seq (.seq (rG [oV 26 9, oV 27 8, oN 28 27, oE 29 26 28]) (.cond (.t 29) .skip (.exit 0))) (.seq (.block 1 (.seq (rG [oV 32 8, oV 33 9, oI 34 1 32 33, oL 35 34, oK 36 n_ref47_parse [(.t 35)], oZ 10 (.agg [(pI 0), (.str (bs [])), (pI 0), (.vs true 0 [])]), oW 4 10 36]) (.seq (rG [oA 37 4 10, oK 38 n_ref47_att [(.t 37)], oO 39 (.build (.agg [(.vs true 0 []), (pI 0), (pI 0), (.vs true 0 [])]) [(1, (3, (.t 38)))]), oZ 11 (.agg [(.vs true 0 []), (pI 0), (pI 0), (.vs true 0 [])]), oW 4 11 39]) (.seq (.seq (rG [oC 12 (pI 0)]) (.block 2 (.loop x_ref47_Environment_2))) (rG [oV 58 7, oA 59 4 11, oO 60 (.bslice 1 (.agg [(.vs true 0 []), (pI 0), (pI 0), (.vs true 0 [])]) [(0, (.t 59))]), oO 61 (.app 4 64 (.t 58) (.t 60)), oV 7 61]))))) (rG [oV 30 9, oJ 31 30, oV 9 31])))
def x_ref47_Environment : RFunc := ⟨151, [(.tmp 2), (.tmp 3)], (.seq (rG [oB 1 0, oC 2 (.vs true 0 []), oC 3 (pI 0)]) (.seq (.seq (rG [oA 18 2 1, oK 19 n_ref15_Valid [(.t 18)], oV 4 19]) (.seq (rG [oV 20 4, oO 21 (.bin .neq (.t 20) (.c (pI 0)))]) (.cond (.t 21) (.seq (rG [oV 22 4, oC 2 (.vs true 0 []), oV 3 22]) .ret) .skip))) (.seq (rG [oO 23 (.call n_ref47_parse [(.c (.str (bs [63, 120])))]), oO 24 (.call n_ref47_parse [(.c (.str (bs [63, 121])))]), oZ 5 (.agg [(pI 0), (.str (bs [])), (pI 0), (.vs true 0 [])]), oZ 6 (.agg [(pI 0), (.str (bs [])), (pI 0), (.vs true 0 [])]), oW 4 5 23, oW 4 6 24]) (.seq (rG [oC 7 (.vs true 0 [])]) (.seq (rG [oO 25 (.bslice 6 (.str (bs [])) [(0, (.c (.str (bs [112, 97, 105, 114, 40, 63, 120, 44, 32, 63, 121, 41])))), (1, (.c (.str (bs [101, 110, 99, 40, 63, 120, 44, 32, 63, 121, 41])))), (2, (.c (.str (bs [97, 101, 110, 99, 40, 63, 120, 44, 32, 63, 121, 41])))), (3, (.c (.str (bs [112, 107, 40, 63, 120, 41])))), (4, (.c (.str (bs [115, 105, 103, 110, 40, 63, 120, 44, 32, 63, 121, 41])))), (5, (.c (.str (bs [104, 97, 115, 104, 40, 63, 120, 41]))))]), oV 8 25]) (.seq (.seq (rG [oC 9 (pI 0)]) (.block 0 (.loop x_ref47_Environment_3))) (.seq (rD [oV 62 7, oO 63 (.call n_ref47_parse [(.c (.str (bs [112, 97, 105, 114, 40, 63, 120, 44, 32, 63, 121, 41])))]), oK 64 n_ref47_att [(.t 63)], oO 65 (.bslice 1 (.agg [(pI 0), (pI 0), (.vs true 0 [])]) [(0, (.t 64))]), oA 66 4 5, oK 67 n_ref47_att [(.t 66)], oO 68 (.build (.agg [(.vs true 0 []), (pI 0), (pI 0), (.vs true 0 [])]) [(0, (1, (.t 65))), (1, (3, (.t 67)))]), oO 69 (.call n_ref47_parse [(.c (.str (bs [112, 97, 105, 114, 40, 63, 120, 44, 32, 63, 121, 41])))]), oK 70 n_ref47_att [(.t 69)], oO 71 (.bslice 1 (.agg [(pI 0), (pI 0), (.vs true 0 [])]) [(0, (.t 70))]), oA 72 4 6, oK 73 n_ref47_att [(.t 72)], oO 74 (.build (.agg [(.vs true 0 []), (pI 0), (pI 0), (.vs true 0 [])]) [(0, (1, (.t 71))), (1, (3, (.t 73)))]), oO 75 (.call n_ref47_parse [(.c (.str (bs [101, 110, 99, 40, 63, 120, 44, 32, 63, 121, 41])))]), oK 76 n_ref47_att [(.t 75)], oA 77 4 6, oK 78 n_ref47_att [(.t 77)], oO 79 (.bslice 2 (.agg [(pI 0), (pI 0), (.vs true 0 [])]) [(0, (.t 76)), (1, (.t 78))]), oA 80 4 5, oK 81 n_ref47_att [(.t 80)], oO 82 (.build (.agg [(.vs true 0 []), (pI 0), (pI 0), (.vs true 0 [])]) [(0, (1, (.t 79))), (1, (3, (.t 81)))]), oO 83 (.call n_ref47_parse [(.c (.str (bs [97, 101, 110, 99, 40, 63, 120, 44, 32, 112, 107, 40, 63, 121, 41, 41])))]), oK 84 n_ref47_att [(.t 83)], oA 85 4 6, oK 86 n_ref47_att [(.t 85)], oO 87 (.bslice 2 (.agg [(pI 0), (pI 0), (.vs true 0 [])]) [(0, (.t 84)), (1, (.t 86))]), oA 88 4 5, oK 89 n_ref47_att [(.t 88)], oO 90 (.build (.agg [(.vs true 0 []), (pI 0), (pI 0), (.vs true 0 [])]) [(0, (1, (.t 87))), (1, (3, (.t 89)))]), oO 91 (.call n_ref47_parse [(.c (.str (bs [115, 105, 103, 110, 40, 63, 120, 44, 32, 63, 121, 41])))]), oK 92 n_ref47_att [(.t 91)], oO 93 (.bslice 1 (.agg [(pI 0), (pI 0), (.vs true 0 [])]) [(0, (.t 92))]), oA 94 4 5, oK 95 n_ref47_att [(.t 94)], oO 96 (.build (.agg [(.vs true 0 []), (pI 0), (pI 0), (.vs true 0 [])]) [(0, (1, (.t 93))), (1, (3, (.t 95)))]), oO 97 (.bslice 5 (.agg [(.vs true 0 []), (pI 0), (pI 0), (.vs true 0 [])]) [(0, (.t 68)), (1, (.t 74)), (2, (.t 82)), (3, (.t 90)), (4, (.t 96))]), oO 98 (.app 4 64 (.t 62) (.t 97)), oV 7 98]) (.seq (rG [oO 99 (.bslice 5 (.str (bs [])) [(0, (.c (.str (bs [63, 120, 58, 97, 103, 101, 110, 116])))), (1, (.c (.str (bs [63, 120, 58, 116, 97, 103])))), (2, (.c (.str (bs [103, 58, 100, 97, 116, 97])))), (3, (.c (.str (bs [110, 101, 119, 40, 111, 119, 110, 58, 97, 110, 121, 44, 32, 63, 120, 41])))), (4, (.c (.str (bs [112, 107, 40, 115, 107, 40, 63, 120, 58, 97, 103, 101, 110, 116, 41, 41]))))]), oV 13 99]) (.seq (.seq (rG [oC 14 (pI 0)]) (.block 4 (.loop x_ref47_Environment_1))) (.seq (rG [oO 116 (.call n_ref47_parse [(.c (.str (bs [63, 120, 58, 97, 103, 101, 110, 116])))]), oZ 15 (.agg [(pI 0), (.str (bs [])), (pI 0), (.vs true 0 [])]), oW 4 15 116]) (.seq (.seq (rG [oC 16 (pI 0)]) (.block 6 (.loop x_ref47_Environment_0))) (.seq (rG [oV 150 7, oV 2 150, oC 3 (pI 0)]) .ret))))))))))))⟩
def x_ref47_SameClauses_0 : RCode := (.seq (.seq (rG [oV 11 5, oV 12 0, oN 13 12, oE 14 11 13]) (.cond (.t 14) .skip (.exit 0))) (.seq (.block 1 (.seq (rD [oV 17 0, oV 18 5, oI 19 4 17 18, oA 20 4 19, oV 21 1, oV 22 5, oI 23 4 21 22, oA 24 4 23, oK 25 n_ref44_Same [(.t 20), (.t 24)], oU 26 25]) (.cond (.t 26) (.seq (rG [oC 4 (.bool false)]) .ret) .skip))) (rG [oV 15 5, oJ 16 15, oV 5 16])))
def x_ref47_SameClauses : RFunc := ⟨27, [(.tmp 4)], (.seq (rG [oC 4 (.bool false)]) (.seq (.seq (rG [oV 6 0, oN 7 6, oV 8 1, oN 9 8, oO 10 (.bin .neq (.t 7) (.t 9))]) (.cond (.t 10) (.seq (rG [oC 4 (.bool false)]) .ret) .skip)) (.seq (.seq (rG [oC 5 (pI 0)]) (.block 0 (.loop x_ref47_SameClauses_0))) (.seq (rG [oC 4 (.bool true)]) .ret))))⟩
def x_cast_Valid_0 : RCode := (.seq (rG [oE 46 45 44]) (.seq (.cond (.t 46) .skip (.exit 3)) (.seq (.block 4 (.seq (rG [oI 47 1 43 45, oL 48 47, oV 7 48]) (.seq (rG [oF 49 0 1, oL 50 49, oV 51 7, oK 52 n_slices_Index_string [(.t 50), (.t 51)], oV 8 52]) (.seq (.seq (rG [oV 53 8, oO 54 (.bin .lss (.t 53) (.c (pI 0)))]) (.cond (.t 54) (.seq (rG [oC 2 (pI 4)]) .ret) .skip)) (.seq (.seq (rG [oV 55 8, oV 56 5, oO 57 (.bin .leq (.t 55) (.t 56))]) (.cond (.t 57) (.seq (rG [oC 2 (pI 5)]) .ret) .skip)) (rG [oV 58 8, oV 5 58])))))) (rG [oJ 59 45, oV 45 59]))))
def x_cast_Valid_1 : RCode := (.seq (rG [oE 23 22 21]) (.seq (.cond (.t 23) .skip (.exit 1)) (.seq (.block 2 (.seq (rG [oV 24 22, oI 25 1 20 22, oL 26 25, oV 3 24, oV 4 26]) (.seq (.seq (rG [oV 27 4, oK 28 n_cast_agent [(.t 27)], oK 29 n_term_Valid [(.t 28)], oO 30 (.bin .neq (.t 29) (.c (pI 0))), oV 31 30, oH 32 31 (pV 4), oH 33 31 (.call n_strings_Contains [(.t 32), (.c (.str (bs [35])))]), oO 34 (.pick (.t 31) (.c (.bool true)) (.t 33))]) (.cond (.t 34) (.seq (rG [oC 2 (pI 2)]) .ret) .skip)) (.seq (rG [oF 35 0 1, oL 36 35, oV 37 3, oO 38 (.slc 1 (.t 36) none (some (.t 37)) none), oV 39 4, oK 40 n_slices_Contains_string [(.t 38), (.t 39)]]) (.cond (.t 40) (.seq (rG [oC 2 (pI 5)]) .ret) .skip))))) (rG [oJ 41 22, oV 22 41]))))
def x_cast_Valid : RFunc := ⟨60, [(.tmp 2)], (.seq (rG [oB 1 0, oC 2 (pI 0)]) (.seq (.block 0 (.seq (rG [oF 10 0 1, oL 11 10, oN 12 11, oO 13 (.bin .eql (.t 12) (.c (pI 0))), oV 9 13]) (.cond (.t 9) (.seq (rG [oC 2 (pI 8)]) .ret) (.seq (rG [oF 15 0 1, oL 16 15, oN 17 16, oO 18 (.bin .gtr (.t 17) (.c (pI 6))), oV 14 18]) (.cond (.t 14) (.seq (rG [oC 2 (pI 3)]) .ret) .skip))))) (.seq (.seq (rG [oF 19 0 1, oL 20 19, oN 21 20, oC 22 (pI 0)]) (.block 1 (.loop x_cast_Valid_1))) (.seq (rG [oC 5 (.int .i64 (-1))]) (.seq (.seq (rG [oF 42 1 1, oL 43 42, oN 44 43, oC 45 (pI 0)]) (.block 3 (.loop x_cast_Valid_0))) (.seq (rG [oC 2 (pI 0)]) .ret))))))⟩
def x_translate_variable : RFunc := ⟨8, [(.cell 4 true 4)], (.seq (rG [oZ 4 (.agg [(pI 0), (.str (bs [])), (pI 0), (.vs true 0 [])])]) (.seq (rG [oV 5 0, oV 6 1, oO 7 (.build (.agg [(pI 0), (.str (bs [])), (pI 0), (.vs true 0 [])]) [(0, (1, (.c (pI 1)))), (1, (1, (.t 5))), (2, (1, (.t 6)))]), oW 4 4 7]) .ret))⟩
def x_translate_app : RFunc := ⟨8, [(.cell 4 true 4)], (.seq (rG [oZ 4 (.agg [(pI 0), (.str (bs [])), (pI 0), (.vs true 0 [])])]) (.seq (rG [oV 5 0, oV 6 1, oO 7 (.build (.agg [(pI 0), (.str (bs [])), (pI 0), (.vs true 0 [])]) [(0, (1, (.c (pI 3)))), (1, (1, (.t 5))), (3, (1, (.t 6)))]), oW 4 4 7]) .ret))⟩
def x_translate_from_0 : RCode := (.seq (rG [oE 14 13 12]) (.seq (.cond (.t 14) .skip (.exit 0)) (.seq (.block 1 (.seq (rG [oI 15 4 11 13, oA 16 4 15, oZ 7 (.agg [(pI 0), (.str (bs [])), (pI 0), (.vs true 0 [])]), oW 4 7 16]) (rD [oF 17 0 5, oL 18 17, oA 19 4 7, oK 20 n_translate_att [(.t 19)], oO 21 (.bslice 1 (.agg [(pI 0), (pI 0), (.vs true 0 [])]) [(0, (.t 20))]), oO 22 (.app 3 40 (.t 18) (.t 21)), oF 23 0 5, oW 1 23 22]))) (rG [oJ 24 13, oV 13 24]))))
def x_translate_from : RFunc := ⟨26, [(.cell 4 true 4)], (.seq (rG [oB 2 0, oZ 4 (.agg [(.vs true 0 []), (pI 0), (pI 0), (.vs true 0 [])])]) (.seq (rG [oA 8 4 2, oK 9 n_translate_att [(.t 8)], oO 10 (.build (.agg [(.vs true 0 []), (pI 0), (pI 0), (.vs true 0 [])]) [(1, (3, (.t 9)))]), oZ 5 (.agg [(.vs true 0 []), (pI 0), (pI 0), (.vs true 0 [])]), oW 4 5 10]) (.seq (.seq (rG [oV 11 1, oN 12 11, oC 13 (pI 0)]) (.block 0 (.loop x_translate_from_0))) (.seq (rG [oA 25 4 5, oW 4 4 25]) .ret))))⟩
def x_translate_atom : RFunc := ⟨8, [(.cell 4 true 4)], (.seq (rG [oZ 4 (.agg [(pI 0), (.str (bs [])), (pI 0), (.vs true 0 [])])]) (.seq (rG [oV 5 0, oV 6 1, oO 7 (.build (.agg [(pI 0), (.str (bs [])), (pI 0), (.vs true 0 [])]) [(0, (1, (.c (pI 2)))), (1, (1, (.t 5))), (2, (1, (.t 6)))]), oW 4 4 7]) .ret))⟩
def x_ref15_Valid_0 : RCode := (.seq (.seq (rG [oV 48 5, oF 49 1 1, oL 50 49, oN 51 50, oE 52 48 51]) (.cond (.t 52) .skip (.exit 2))) (.seq (.block 3 (.seq (rD [oF 55 0 1, oL 56 55, oF 57 1 1, oL 58 57, oV 59 5, oI 60 1 58 59, oL 61 60, oK 62 n_ref15_find [(.t 56), (.t 61)], oV 6 62]) (.seq (.seq (rG [oV 63 6, oO 64 (.bin .lss (.t 63) (.c (pI 0)))]) (.cond (.t 64) (.seq (rG [oC 2 (pI 4)]) .ret) .skip)) (.seq (.seq (rG [oV 65 6, oV 66 4, oO 67 (.bin .leq (.t 65) (.t 66))]) (.cond (.t 67) (.seq (rG [oC 2 (pI 5)]) .ret) .skip)) (rG [oV 68 6, oV 4 68]))))) (rG [oV 53 5, oJ 54 53, oV 5 54])))
def x_ref15_Valid_1 : RCode := (.seq (.seq (rG [oV 15 3, oF 16 0 1, oL 17 16, oN 18 17, oE 19 15 18]) (.cond (.t 19) .skip (.exit 0))) (.seq (.block 1 (.seq (.seq (rG [oF 22 0 1, oL 23 22, oV 24 3, oI 25 1 23 24, oL 26 25, oK 27 n_ref01_IsName [(.t 26)], oU 28 27, oV 29 28, oH 30 29 (pF 0 1), oH 31 29 (pL 30), oH 32 29 (pV 3), oH 33 29 (.iaddr 1 (.t 31) (.t 32)), oH 34 29 (pL 33), oH 35 29 (.call n_ref15_hash [(.t 34)]), oO 36 (.pick (.t 29) (.c (.bool true)) (.t 35))]) (.cond (.t 36) (.seq (rG [oC 2 (pI 2)]) .ret) .skip)) (.seq (rD [oF 37 0 1, oL 38 37, oV 39 3, oO 40 (.slc 1 (.t 38) none (some (.t 39)) none), oF 41 0 1, oL 42 41, oV 43 3, oI 44 1 42 43, oL 45 44, oK 46 n_ref15_find [(.t 40), (.t 45)], oO 47 (.bin .geq (.t 46) (.c (pI 0)))]) (.cond (.t 47) (.seq (rG [oC 2 (pI 5)]) .ret) .skip)))) (rG [oV 20 3, oJ 21 20, oV 3 21])))
def x_ref15_Valid : RFunc := ⟨69, [(.tmp 2)], (.seq (rG [oB 1 0, oC 2 (pI 0)]) (.seq (.seq (rG [oF 7 0 1, oL 8 7, oN 9 8, oO 10 (.bin .eql (.t 9) (.c (pI 0)))]) (.cond (.t 10) (.seq (rG [oC 2 (pI 8)]) .ret) .skip)) (.seq (.seq (rG [oF 11 0 1, oL 12 11, oN 13 12, oO 14 (.bin .gtr (.t 13) (.c (pI 6)))]) (.cond (.t 14) (.seq (rG [oC 2 (pI 3)]) .ret) .skip)) (.seq (.seq (rG [oC 3 (pI 0)]) (.block 0 (.loop x_ref15_Valid_1))) (.seq (rG [oC 4 (.int .i64 (-1))]) (.seq (.seq (rG [oC 5 (pI 0)]) (.block 2 (.loop x_ref15_Valid_0))) (.seq (rG [oC 2 (pI 0)]) .ret)))))))⟩
def x_ref47_att : RFunc := ⟨6, [(.cell 2 true 3)], (.seq (rG [oB 1 0, oZ 2 (.agg [(pI 0), (pI 0), (.vs true 0 [])])]) (.seq (rG [oA 3 4 1, oO 4 (.bslice 1 (.agg [(pI 0), (.str (bs [])), (pI 0), (.vs true 0 [])]) [(0, (.t 3))]), oO 5 (.build (.agg [(pI 0), (pI 0), (.vs true 0 [])]) [(0, (1, (.c (pI 1)))), (2, (1, (.t 4)))]), oW 3 2 5]) .ret))⟩
def x_ref15_Agent : RFunc := ⟨5, [(.cell 2 true 4)], (.seq (rG [oZ 2 (.agg [(pI 0), (.str (bs [])), (pI 0), (.vs true 0 [])])]) (.seq (rG [oV 3 0, oK 4 n_ref01_Atom [(.t 3), (.c (pI 1))], oW 4 2 4]) .ret))⟩
def x_ref01_App : RFunc := ⟨10, [(.cell 4 true 4)], (.seq (rG [oZ 4 (.agg [(pI 0), (.str (bs [])), (pI 0), (.vs true 0 [])])]) (.seq (rG [oV 5 0, oO 6 (.bslice 0 (.agg [(pI 0), (.str (bs [])), (pI 0), (.vs true 0 [])]) []), oV 7 1, oO 8 (.app 4 56 (.t 6) (.t 7)), oO 9 (.build (.agg [(pI 0), (.str (bs [])), (pI 0), (.vs true 0 [])]) [(0, (1, (.c (pI 3)))), (1, (1, (.t 5))), (3, (1, (.t 8)))]), oW 4 4 9]) .ret))⟩
def x_ref44_Same : RFunc := ⟨9, [(.tmp 4)], (.seq (rG [oB 2 0, oB 3 1, oC 4 (.bool false)]) (.seq (rG [oA 5 4 2, oA 6 4 3, oK 7 n_ref44_Compare [(.t 5), (.t 6)], oO 8 (.bin .eql (.t 7) (.c (pI 0))), oV 4 8]) .ret))⟩
def x_slices_Index_string_0 : RCode := (.seq (rG [oE 9 8 7]) (.seq (.cond (.t 9) .skip (.exit 0)) (.seq (.block 1 (.seq (rG [oV 10 8, oV 5 10]) (.seq (rG [oV 11 1, oV 12 0, oV 13 5, oI 14 1 12 13, oL 15 14, oO 16 (.bin .eql (.t 11) (.t 15))]) (.cond (.t 16) (.seq (rG [oV 17 5, oV 4 17]) .ret) .skip)))) (rG [oJ 18 8, oV 8 18]))))
def x_slices_Index_string : RFunc := ⟨19, [(.tmp 4)], (.seq (rG [oC 4 (pI 0)]) (.seq (.seq (rG [oV 6 0, oN 7 6, oC 8 (pI 0)]) (.block 0 (.loop x_slices_Index_string_0))) (.seq (rG [oC 4 (.int .i64 (-1))]) .ret)))⟩
def x_ref01_Compare_0 : RCode := (.seq (.seq (rG [oV 55 9, oF 56 3 2, oL 57 56, oN 58 57, oE 59 55 58]) (.cond (.t 59) .skip (.exit 0))) (.seq (.block 1 (.seq (rD [oF 62 3 2, oL 63 62, oV 64 9, oI 65 4 63 64, oA 66 4 65, oF 67 3 3, oL 68 67, oV 69 9, oI 70 4 68 69, oA 71 4 70, oK 72 n_ref01_Compare [(.t 66), (.t 71)], oV 10 72]) (.seq (rG [oV 73 10, oO 74 (.bin .neq (.t 73) (.c (pI 0)))]) (.cond (.t 74) (.seq (rG [oV 75 10, oV 4 75]) .ret) .skip)))) (rG [oV 60 9, oJ 61 60, oV 9 61])))
def x_ref01_Compare : RFunc := ⟨76, [(.tmp 4)], (.seq (rG [oB 2 0, oB 3 1, oC 4 (pI 0)]) (.seq (.seq (rD [oA 11 4 2, oK 12 n_ref01_Size [(.t 11)], oA 13 4 3, oK 14 n_ref01_Size [(.t 13)], oK 15 n_ref01_number [(.t 12), (.t 14)], oV 5 15]) (.seq (rG [oV 16 5, oO 17 (.bin .neq (.t 16) (.c (pI 0)))]) (.cond (.t 17) (.seq (rG [oV 18 5, oV 4 18]) .ret) .skip))) (.seq (.seq (rG [oF 19 0 2, oL 20 19, oF 21 0 3, oL 22 21, oK 23 n_ref01_number [(.t 20), (.t 22)], oV 6 23]) (.seq (rG [oV 24 6, oO 25 (.bin .neq (.t 24) (.c (pI 0)))]) (.cond (.t 25) (.seq (rG [oV 26 6, oV 4 26]) .ret) .skip))) (.seq (.seq (rG [oF 27 1 2, oL 28 27, oF 29 1 3, oL 30 29, oE 31 28 30]) (.cond (.t 31) (.seq (rG [oC 4 (.int .i64 (-1))]) .ret) .skip)) (.seq (.seq (rG [oF 32 1 2, oL 33 32, oF 34 1 3, oL 35 34, oO 36 (.bin .gtr (.t 33) (.t 35))]) (.cond (.t 36) (.seq (rG [oC 4 (pI 1)]) .ret) .skip)) (.seq (.seq (rG [oF 37 2 2, oL 38 37, oF 39 2 3, oL 40 39, oK 41 n_ref01_number [(.t 38), (.t 40)], oV 7 41]) (.seq (rG [oV 42 7, oO 43 (.bin .neq (.t 42) (.c (pI 0)))]) (.cond (.t 43) (.seq (rG [oV 44 7, oV 4 44]) .ret) .skip))) (.seq (.seq (rG [oF 45 3 2, oL 46 45, oN 47 46, oF 48 3 3, oL 49 48, oN 50 49, oK 51 n_ref01_number [(.t 47), (.t 50)], oV 8 51]) (.seq (rG [oV 52 8, oO 53 (.bin .neq (.t 52) (.c (pI 0)))]) (.cond (.t 53) (.seq (rG [oV 54 8, oV 4 54]) .ret) .skip))) (.seq (.seq (rG [oC 9 (pI 0)]) (.block 0 (.loop x_ref01_Compare_0))) (.seq (rG [oC 4 (pI 0)]) .ret)))))))))⟩
def x_term_Valid : RFunc := ⟨17, [(.tmp 2)], (.seq (rG [oB 1 0, oC 2 (pI 0)]) (.seq (rG [oZ 3 (pI 0), oZ 4 (pI 0), ⟨none, (.st 1 (.t 3) (.c (pI 0))), none⟩, ⟨none, (.st 1 (.t 4) (.c (pI 0))), none⟩]) (.seq (.seq (rG [oA 6 4 1, oK 7 n_term_check [(.t 6), (.c (pI 1)), (.t 3), (.t 4)], oV 5 7]) (.seq (rG [oV 8 5, oO 9 (.bin .neq (.t 8) (.c (pI 0)))]) (.cond (.t 9) (.seq (rG [oV 10 5, oV 2 10]) .ret) .skip))) (.seq (.seq (rG [oL 11 3, oO 12 (.bin .gtr (.t 11) (.c (pI 400))), oV 13 12, oH 14 13 (pL 4), oH 15 13 (.bin .gtr (.t 14) (.c (pI 40))), oO 16 (.pick (.t 13) (.c (.bool true)) (.t 15))]) (.cond (.t 16) (.seq (rG [oC 2 (pI 3)]) .ret) .skip)) (.seq (rG [oC 2 (pI 0)]) .ret)))))⟩
def x_cast_agent : RFunc := ⟨5, [(.cell 2 true 4)], (.seq (rG [oZ 2 (.agg [(pI 0), (.str (bs [])), (pI 0), (.vs true 0 [])])]) (.seq (rG [oV 3 0, oO 4 (.build (.agg [(pI 0), (.str (bs [])), (pI 0), (.vs true 0 [])]) [(0, (1, (.c (pI 2)))), (1, (1, (.t 3))), (2, (1, (.c (pI 1))))]), oW 4 2 4]) .ret))⟩
def x_slices_Contains_string : RFunc := ⟨9, [(.tmp 4)], (.seq (rG [oC 4 (.bool false)]) (.seq (rG [oV 5 0, oV 6 1, oK 7 n_slices_Index_string [(.t 5), (.t 6)], oO 8 (.bin .geq (.t 7) (.c (pI 0))), oV 4 8]) .ret))⟩
def x_translate_att : RFunc := ⟨6, [(.cell 2 true 3)], (.seq (rG [oB 1 0, oZ 2 (.agg [(pI 0), (pI 0), (.vs true 0 [])])]) (.seq (rG [oA 3 4 1, oO 4 (.bslice 1 (.agg [(pI 0), (.str (bs [])), (pI 0), (.vs true 0 [])]) [(0, (.t 3))]), oO 5 (.build (.agg [(pI 0), (pI 0), (.vs true 0 [])]) [(0, (1, (.c (pI 1)))), (2, (1, (.t 4)))]), oW 3 2 5]) .ret))⟩
def x_ref01_IsName_0 : RCode := (.seq (.seq (rG [oV 18 3, oV 19 0, oO 20 (.len true (.t 19)), oE 21 18 20]) (.cond (.t 21) .skip (.exit 0))) (.seq (.block 1 (.seq (rG [oV 24 0, oV 25 3, oO 26 (.idx (.t 24) (.t 25)), oK 27 n_ref01_letter [(.t 26)], oU 28 27, oV 29 28, oG 30 29 (pV 0), oG 31 29 (pV 3), oG 32 29 (.idx (.t 30) (.t 31)), oG 33 29 (.call n_ref01_digit [(.t 32)]), oG 34 29 (.un .not (.t 33)), oO 35 (.pick (.t 29) (.t 34) (.c (.bool false))), oV 36 35, oG 37 36 (pV 0), oG 38 36 (pV 3), oG 39 36 (.idx (.t 37) (.t 38)), oG 40 36 (.bin .neq (.t 39) (.c (.int .u8 95))), oO 41 (.pick (.t 36) (.t 40) (.c (.bool false))), oV 42 41, oG 43 42 (pV 0), oG 44 42 (pV 3), oG 45 42 (.idx (.t 43) (.t 44)), oG 46 42 (.bin .neq (.t 45) (.c (.int .u8 35))), oO 47 (.pick (.t 42) (.t 46) (.c (.bool false)))]) (.cond (.t 47) (.seq (rG [oC 2 (.bool false)]) .ret) .skip))) (rG [oV 22 3, oJ 23 22, oV 3 23])))
def x_ref01_IsName : RFunc := ⟨48, [(.tmp 2)], (.seq (rG [oC 2 (.bool false)]) (.seq (.seq (rG [oV 4 0, oO 5 (.len true (.t 4)), oO 6 (.bin .eql (.t 5) (.c (pI 0))), oV 7 6, oH 8 7 (pV 0), oH 9 7 (.len true (.t 8)), oH 10 7 (.bin .gtr (.t 9) (.c (pI 24))), oO 11 (.pick (.t 7) (.c (.bool true)) (.t 10)), oV 12 11, oH 13 12 (pV 0), oH 14 12 (.idx (.t 13) (.c (pI 0))), oH 15 12 (.call n_ref01_letter [(.t 14)]), oH 16 12 (.un .not (.t 15)), oO 17 (.pick (.t 12) (.c (.bool true)) (.t 16))]) (.cond (.t 17) (.seq (rG [oC 2 (.bool false)]) .ret) .skip)) (.seq (.seq (rG [oC 3 (pI 0)]) (.block 0 (.loop x_ref01_IsName_0))) (.seq (rG [oC 2 (.bool true)]) .ret))))⟩
def x_ref15_hash_0 : RCode := (.seq (.seq (rG [oV 4 3, oV 5 0, oO 6 (.len true (.t 5)), oE 7 4 6]) (.cond (.t 7) .skip (.exit 0))) (.seq (.block 1 (.seq (rG [oV 10 0, oV 11 3, oO 12 (.idx (.t 10) (.t 11)), oO 13 (.bin .eql (.t 12) (.c (.int .u8 35)))]) (.cond (.t 13) (.seq (rG [oC 2 (.bool true)]) .ret) .skip))) (rG [oV 8 3, oJ 9 8, oV 3 9])))
def x_ref15_hash : RFunc := ⟨14, [(.tmp 2)], (.seq (rG [oC 2 (.bool false)]) (.seq (.seq (rG [oC 3 (pI 0)]) (.block 0 (.loop x_ref15_hash_0))) (.seq (rG [oC 2 (.bool false)]) .ret)))⟩
def x_ref15_find_0 : RCode := (.seq (.seq (rG [oV 6 5, oV 7 0, oN 8 7, oE 9 6 8]) (.cond (.t 9) .skip (.exit 0))) (.seq (.block 1 (.seq (rG [oV 12 0, oV 13 5, oI 14 1 12 13, oL 15 14, oV 16 1, oO 17 (.bin .eql (.t 15) (.t 16))]) (.cond (.t 17) (.seq (rG [oV 18 5, oV 4 18]) .ret) .skip))) (rG [oV 10 5, oJ 11 10, oV 5 11])))
def x_ref15_find : RFunc := ⟨19, [(.tmp 4)], (.seq (rG [oC 4 (pI 0)]) (.seq (.seq (rG [oC 5 (pI 0)]) (.block 0 (.loop x_ref15_find_0))) (.seq (rG [oC 4 (.int .i64 (-1))]) .ret)))⟩
def x_ref01_Atom : RFunc := ⟨8, [(.cell 4 true 4)], (.seq (rG [oZ 4 (.agg [(pI 0), (.str (bs [])), (pI 0), (.vs true 0 [])])]) (.seq (rG [oV 5 0, oV 6 1, oO 7 (.build (.agg [(pI 0), (.str (bs [])), (pI 0), (.vs true 0 [])]) [(0, (1, (.c (pI 2)))), (1, (1, (.t 5))), (2, (1, (.t 6)))]), oW 4 4 7]) .ret))⟩
def x_ref01_Size_0 : RCode := (.seq (.seq (rG [oV 5 4, oF 6 3 1, oL 7 6, oN 8 7, oE 9 5 8]) (.cond (.t 9) .skip (.exit 0))) (.seq (.block 1 (rG [oV 12 3, oF 13 3 1, oL 14 13, oV 15 4, oI 16 4 14 15, oA 17 4 16, oK 18 n_ref01_Size [(.t 17)], oO 19 (.bin .add (.t 12) (.t 18)), oV 3 19])) (rG [oV 10 4, oJ 11 10, oV 4 11])))
def x_ref01_Size : RFunc := ⟨21, [(.tmp 2)], (.seq (rG [oB 1 0, oC 2 (pI 0)]) (.seq (rG [oC 3 (pI 1)]) (.seq (.seq (rG [oC 4 (pI 0)]) (.block 0 (.loop x_ref01_Size_0))) (.seq (rG [oV 20 3, oV 2 20]) .ret))))⟩
def x_ref01_number : RFunc := ⟨11, [(.tmp 4)], (.seq (rG [oC 4 (pI 0)]) (.seq (.seq (rG [oV 5 0, oV 6 1, oE 7 5 6]) (.cond (.t 7) (.seq (rG [oC 4 (.int .i64 (-1))]) .ret) .skip)) (.seq (.seq (rG [oV 8 0, oV 9 1, oO 10 (.bin .gtr (.t 8) (.t 9))]) (.cond (.t 10) (.seq (rG [oC 4 (pI 1)]) .ret) .skip)) (.seq (rG [oC 4 (pI 0)]) .ret))))⟩
def x_term_check_0 : RCode := (.seq (rG [oE 60 59 58]) (.seq (.cond (.t 60) .skip (.exit 1)) (.seq (.block 2 (.seq (rG [oI 61 4 57 59, oA 62 4 61, oZ 10 (.agg [(pI 0), (.str (bs [])), (pI 0), (.vs true 0 [])]), oW 4 10 62]) (.seq (rG [oA 63 4 10, oV 64 1, oJ 65 64, oV 66 2, oV 67 3, oK 68 n_term_check [(.t 63), (.t 65), (.t 66), (.t 67)], oV 11 68]) (.seq (rG [oV 69 11, oO 70 (.bin .neq (.t 69) (.c (pI 0)))]) (.cond (.t 70) (.seq (rG [oV 71 11, oV 8 71]) .ret) .skip))))) (rG [oJ 72 59, oV 59 72]))))
def x_term_check : RFunc := ⟨73, [(.tmp 8)], (.seq (rG [oB 4 0, oC 8 (pI 0)]) (.seq (rG [oV 12 2, oO 13 (.nilck (.t 12)), oL 14 13, oJ 15 14, oO 16 (.nilck (.t 12)), oW 1 16 15]) (.seq (rG [oV 17 3, oV 18 3, oO 19 (.nilck (.t 18)), oL 20 19, oV 21 1, oO 22 (.max (.t 20) (.t 21)), oO 23 (.nilck (.t 17)), oW 1 23 22]) (.seq (.seq (rG [oF 24 0 4, oL 25 24]) (.block 0 (.seq (.seq (rG [oO 27 (.bin .eql (.t 25) (.c (pI 1))), oV 26 27]) (.cond (.t 26) .skip (rG [oO 28 (.bin .eql (.t 25) (.c (pI 2))), oV 26 28]))) (.cond (.t 26) (.seq (rG [oF 29 2 4, oL 30 29, oO 31 (.bin .lss (.t 30) (.c (pI 0))), oV 32 31, oH 33 32 (pF 2 4), oH 34 32 (pL 33), oH 35 32 (.bin .gtr (.t 34) (.c (pI 5))), oO 36 (.pick (.t 32) (.c (.bool true)) (.t 35)), oV 37 36, oH 38 37 (pF 3 4), oH 39 37 (pL 38), oH 40 37 (.len false (.t 39)), oH 41 37 (.bin .gtr (.t 40) (.c (pI 0))), oO 42 (.pick (.t 37) (.c (.bool true)) (.t 41))]) (.cond (.t 42) (.seq (rG [oC 8 (pI 1)]) .ret) .skip)) (.seq (rG [oO 44 (.bin .eql (.t 25) (.c (pI 3))), oV 43 44]) (.cond (.t 43) (.seq (rG [oF 45 2 4, oL 46 45, oO 47 (.bin .neq (.t 46) (.c (pI 0)))]) (.cond (.t 47) (.seq (rG [oC 8 (pI 1)]) .ret) .skip)) (.seq (rG [oC 8 (pI 1)]) .ret))))))) (.seq (.seq (rG [oF 48 1 4, oL 49 48, oK 50 n_term_isName [(.t 49)], oU 51 50]) (.cond (.t 51) (.seq (rG [oC 8 (pI 2)]) .ret) .skip)) (.seq (.seq (rG [oF 52 3 4, oL 53 52, oN 54 53, oO 55 (.bin .gtr (.t 54) (.c (pI 8)))]) (.cond (.t 55) (.seq (rG [oC 8 (pI 3)]) .ret) .skip)) (.seq (.seq (rG [oF 56 3 4, oL 57 56, oN 58 57, oC 59 (pI 0)]) (.block 1 (.loop x_term_check_0))) (.seq (rG [oC 8 (pI 0)]) .ret))))))))⟩
def x_ref01_letter : RFunc := ⟨17, [(.tmp 2)], (.seq (rG [oC 2 (.bool false)]) (.seq (rG [oV 3 0, oO 4 (.bin .geq (.t 3) (.c (.int .u8 97))), oV 5 4, oG 6 5 (pV 0), oG 7 5 (.bin .leq (.t 6) (.c (.int .u8 122))), oO 8 (.pick (.t 5) (.t 7) (.c (.bool false))), oV 9 8, oH 10 9 (pV 0), oH 11 9 (.bin .geq (.t 10) (.c (.int .u8 65))), oH 12 9 (pV 11), oG 13 12 (pV 0), oG 14 12 (.bin .leq (.t 13) (.c (.int .u8 90))), oH 15 9 (.pick (.t 12) (.t 14) (.c (.bool false))), oO 16 (.pick (.t 9) (.c (.bool true)) (.t 15)), oV 2 16]) .ret))⟩
def x_ref01_digit : RFunc := ⟨9, [(.tmp 2)], (.seq (rG [oC 2 (.bool false)]) (.seq (rG [oV 3 0, oO 4 (.bin .geq (.t 3) (.c (.int .u8 48))), oV 5 4, oG 6 5 (pV 0), oG 7 5 (.bin .leq (.t 6) (.c (.int .u8 57))), oO 8 (.pick (.t 5) (.t 7) (.c (.bool false))), oV 2 8]) .ret))⟩
def x_term_isName_0 : RCode := (.seq (rG [oE 40 39 38]) (.seq (.cond (.t 40) .skip (.exit 0)) (.seq (.block 1 (.seq (rG [oV 41 39, oV 3 41]) (.seq (rG [oV 42 0, oV 43 3, oO 44 (.idx (.t 42) (.t 43)), oK 45 n_term_part [(.t 44)], oU 46 45]) (.cond (.t 46) (.seq (rG [oC 2 (.bool false)]) .ret) .skip)))) (rG [oJ 47 39, oV 39 47]))))
def x_term_isName : RFunc := ⟨48, [(.tmp 2)], (.seq (rG [oC 2 (.bool false)]) (.seq (.seq (rG [oV 4 0, oO 5 (.bin .eql (.t 4) (.c (.str (bs [])))), oV 6 5, oH 7 6 (pV 0), oH 8 6 (.len true (.t 7)), oH 9 6 (.bin .gtr (.t 8) (.c (pI 24))), oO 10 (.pick (.t 6) (.c (.bool true)) (.t 9)), oV 11 10, oH 12 11 (pV 0), oH 13 11 (.idx (.t 12) (.c (pI 0))), oH 14 11 (.call n_term_part [(.t 13)]), oH 15 11 (.un .not (.t 14)), oO 16 (.pick (.t 11) (.c (.bool true)) (.t 15)), oV 17 16, oH 18 17 (pV 0), oH 19 17 (.idx (.t 18) (.c (pI 0))), oH 20 17 (.bin .geq (.t 19) (.c (.int .u8 48))), oH 21 17 (pV 20), oG 22 21 (pV 0), oG 23 21 (.idx (.t 22) (.c (pI 0))), oG 24 21 (.bin .leq (.t 23) (.c (.int .u8 57))), oH 25 17 (.pick (.t 21) (.t 24) (.c (.bool false))), oO 26 (.pick (.t 17) (.c (.bool true)) (.t 25)), oV 27 26, oH 28 27 (pV 0), oH 29 27 (.idx (.t 28) (.c (pI 0))), oH 30 27 (.bin .eql (.t 29) (.c (.int .u8 95))), oO 31 (.pick (.t 27) (.c (.bool true)) (.t 30)), oV 32 31, oH 33 32 (pV 0), oH 34 32 (.idx (.t 33) (.c (pI 0))), oH 35 32 (.bin .eql (.t 34) (.c (.int .u8 35))), oO 36 (.pick (.t 32) (.c (.bool true)) (.t 35))]) (.cond (.t 36) (.seq (rG [oC 2 (.bool false)]) .ret) .skip)) (.seq (.seq (rG [oV 37 0, oO 38 (.len true (.t 37)), oC 39 (pI 0)]) (.block 0 (.loop x_term_isName_0))) (.seq (rG [oC 2 (.bool true)]) .ret))))⟩
def x_term_Compare_0 : RCode := (.seq (.seq (rG [oV 42 5, oO 43 (.bin .eql (.t 42) (.c (pI 0))), oV 44 43, oG 45 44 (pV 6), oG 46 44 (pF 3 2), oG 47 44 (pL 46), oG 48 44 (.len false (.t 47)), oG 49 44 (.bin .lss (.t 45) (.t 48)), oO 50 (.pick (.t 44) (.t 49) (.c (.bool false)))]) (.cond (.t 50) .skip (.exit 0))) (.seq (.block 1 (rD [oF 53 3 2, oL 54 53, oV 55 6, oI 56 4 54 55, oA 57 4 56, oF 58 3 3, oL 59 58, oV 60 6, oI 61 4 59 60, oA 62 4 61, oK 63 n_term_Compare [(.t 57), (.t 62)], oV 5 63])) (rG [oV 51 6, oJ 52 51, oV 6 52])))
def x_term_Compare : RFunc := ⟨65, [(.tmp 4)], (.seq (rG [oB 2 0, oB 3 1, oC 4 (pI 0)]) (.seq (rD [oA 7 4 2, oK 8 n_term_Size [(.t 7)], oA 9 4 3, oK 10 n_term_Size [(.t 9)], oK 11 n_term_sign [(.t 8), (.t 10)], oV 5 11]) (.seq (.seq (rG [oV 12 5, oO 13 (.bin .eql (.t 12) (.c (pI 0)))]) (.cond (.t 13) (rG [oF 14 0 2, oL 15 14, oF 16 0 3, oL 17 16, oK 18 n_term_sign [(.t 15), (.t 17)], oV 5 18]) .skip)) (.seq (.seq (rG [oV 19 5, oO 20 (.bin .eql (.t 19) (.c (pI 0)))]) (.cond (.t 20) (rG [oF 21 1 2, oL 22 21, oF 23 1 3, oL 24 23, oK 25 n_strings_Compare [(.t 22), (.t 24)], oV 5 25]) .skip)) (.seq (.seq (rG [oV 26 5, oO 27 (.bin .eql (.t 26) (.c (pI 0)))]) (.cond (.t 27) (rG [oF 28 2 2, oL 29 28, oF 30 2 3, oL 31 30, oK 32 n_term_sign [(.t 29), (.t 31)], oV 5 32]) .skip)) (.seq (.seq (rG [oV 33 5, oO 34 (.bin .eql (.t 33) (.c (pI 0)))]) (.cond (.t 34) (rG [oF 35 3 2, oL 36 35, oN 37 36, oF 38 3 3, oL 39 38, oN 40 39, oK 41 n_term_sign [(.t 37), (.t 40)], oV 5 41]) .skip)) (.seq (.seq (rG [oC 6 (pI 0)]) (.block 0 (.loop x_term_Compare_0))) (.seq (rG [oV 64 5, oV 4 64]) .ret))))))))⟩
def x_term_part : RFunc := ⟨33, [(.tmp 2)], (.seq (rG [oC 2 (.bool false)]) (.seq (rG [oV 3 0, oO 4 (.bin .geq (.t 3) (.c (.int .u8 97))), oV 5 4, oG 6 5 (pV 0), oG 7 5 (.bin .leq (.t 6) (.c (.int .u8 122))), oO 8 (.pick (.t 5) (.t 7) (.c (.bool false))), oV 9 8, oH 10 9 (pV 0), oH 11 9 (.bin .geq (.t 10) (.c (.int .u8 65))), oH 12 9 (pV 11), oG 13 12 (pV 0), oG 14 12 (.bin .leq (.t 13) (.c (.int .u8 90))), oH 15 9 (.pick (.t 12) (.t 14) (.c (.bool false))), oO 16 (.pick (.t 9) (.c (.bool true)) (.t 15)), oV 17 16, oH 18 17 (pV 0), oH 19 17 (.bin .geq (.t 18) (.c (.int .u8 48))), oH 20 17 (pV 19), oG 21 20 (pV 0), oG 22 20 (.bin .leq (.t 21) (.c (.int .u8 57))), oH 23 17 (.pick (.t 20) (.t 22) (.c (.bool false))), oO 24 (.pick (.t 17) (.c (.bool true)) (.t 23)), oV 25 24, oH 26 25 (pV 0), oH 27 25 (.bin .eql (.t 26) (.c (.int .u8 95))), oO 28 (.pick (.t 25) (.c (.bool true)) (.t 27)), oV 29 28, oH 30 29 (pV 0), oH 31 29 (.bin .eql (.t 30) (.c (.int .u8 35))), oO 32 (.pick (.t 29) (.c (.bool true)) (.t 31)), oV 2 32]) .ret))⟩
def x_term_sign : RFunc := ⟨13, [(.tmp 4)], (.seq (rG [oC 4 (pI 0)]) (.seq (.block 0 (.seq (rG [oV 6 0, oV 7 1, oE 8 6 7, oV 5 8]) (.cond (.t 5) (.seq (rG [oC 4 (.int .i64 (-1))]) .ret) (.seq (rG [oV 10 0, oV 11 1, oO 12 (.bin .gtr (.t 10) (.t 11)), oV 9 12]) (.cond (.t 9) (.seq (rG [oC 4 (pI 1)]) .ret) .skip))))) (.seq (rG [oC 4 (pI 0)]) .ret)))⟩
def x_term_Size_0 : RCode := (.seq (rG [oE 10 9 8]) (.seq (.cond (.t 10) .skip (.exit 0)) (.seq (.block 1 (.seq (rG [oI 11 4 7 9, oA 12 4 11, oZ 5 (.agg [(pI 0), (.str (bs [])), (pI 0), (.vs true 0 [])]), oW 4 5 12]) (rG [oV 13 3, oA 14 4 5, oK 15 n_term_Size [(.t 14)], oO 16 (.bin .add (.t 13) (.t 15)), oV 3 16]))) (rG [oJ 17 9, oV 9 17]))))
def x_term_Size : RFunc := ⟨19, [(.tmp 2)], (.seq (rG [oB 1 0, oC 2 (pI 0)]) (.seq (rG [oC 3 (pI 1)]) (.seq (.seq (rG [oF 6 3 1, oL 7 6, oN 8 7, oC 9 (pI 0)]) (.block 0 (.loop x_term_Size_0))) (.seq (rG [oV 18 3, oV 2 18]) .ret))))⟩
def x_strings_Compare : RFunc := ⟨8, [(.tmp 4)], (.seq (rG [oC 4 (pI 0)]) (.seq (rG [oV 5 0, oV 6 1, oK 7 n_bytealg_CompareString [(.t 5), (.t 6)], oV 4 7]) .ret))⟩
end Go.Abs.Q
