/- Contracts: is a number, a string in a list? -/
import Derived.Test.YtpkegmgepnhfnaaGreatV7
import Derived.Test.YtpkegmgepnhfnaaGreatRows
import Derived.KernelRfl
import Derived.Lib.Join
import Derived.Lib.Strings
/- The resolved functions are the program's. -/
namespace Go.Abs.Q
open Go.Proofs
theorem res_law27_GoalTerms : resFunc Tryz.prog ctxF n_law27_GoalTerms = some x_law27_GoalTerms := by kernel_rfl
theorem res_law27_awake : resFunc Tryz.prog ctxF n_law27_awake = some x_law27_awake := by kernel_rfl
theorem res_ref22_Light : resFunc Tryz.prog ctxF n_ref22_Light = some x_ref22_Light := by kernel_rfl
theorem res_goal_Data : resFunc Tryz.prog ctxF n_goal_Data = some x_goal_Data := by kernel_rfl
theorem res_ref27_Data : resFunc Tryz.prog ctxF n_ref27_Data = some x_ref27_Data := by kernel_rfl
theorem res_goal_Text : resFunc Tryz.prog ctxF n_goal_Text = some x_goal_Text := by kernel_rfl
theorem res_ref27_Text : resFunc Tryz.prog ctxF n_ref27_Text = some x_ref27_Text := by kernel_rfl
theorem res_goal_Valid : resFunc Tryz.prog ctxF n_goal_Valid = some x_goal_Valid := by kernel_rfl
theorem res_ref27_Valid : resFunc Tryz.prog ctxF n_ref27_Valid = some x_ref27_Valid := by kernel_rfl
theorem res_ref01_Lists : resFunc Tryz.prog ctxF n_ref01_Lists = some x_ref01_Lists := by kernel_rfl
theorem res_law27_moment : resFunc Tryz.prog ctxF n_law27_moment = some x_law27_moment := by kernel_rfl
theorem res_goal_Agree : resFunc Tryz.prog ctxF n_goal_Agree = some x_goal_Agree := by kernel_rfl
theorem res_goal_Inject : resFunc Tryz.prog ctxF n_goal_Inject = some x_goal_Inject := by kernel_rfl
theorem res_goal_Fresh : resFunc Tryz.prog ctxF n_goal_Fresh = some x_goal_Fresh := by kernel_rfl
theorem res_goal_CheckInject : resFunc Tryz.prog ctxF n_goal_CheckInject = some x_goal_CheckInject := by kernel_rfl
theorem res_ref22_Few : resFunc Tryz.prog ctxF n_ref22_Few = some x_ref22_Few := by kernel_rfl
theorem res_ref01_Few : resFunc Tryz.prog ctxF n_ref01_Few = some x_ref01_Few := by kernel_rfl
theorem res_scope_Resolve : resFunc Tryz.prog ctxF n_scope_Resolve = some x_scope_Resolve := by kernel_rfl
theorem res_goal_agreement : resFunc Tryz.prog ctxF n_goal_agreement = some x_goal_agreement := by kernel_rfl
theorem res_slices_Clone_Term : resFunc Tryz.prog ctxF n_slices_Clone_Term = some x_slices_Clone_Term := by kernel_rfl
theorem res_goal_Data_1 : resFunc Tryz.prog ctxF n_goal_Data_1 = some x_goal_Data_1 := by kernel_rfl
theorem res_ref23_Resolve : resFunc Tryz.prog ctxF n_ref23_Resolve = some x_ref23_Resolve := by kernel_rfl
theorem res_ref27_Agreement : resFunc Tryz.prog ctxF n_ref27_Agreement = some x_ref27_Agreement := by kernel_rfl
theorem res_ref15_Agent : resFunc Tryz.prog ctxF n_ref15_Agent = some x_ref15_Agent := by kernel_rfl
theorem res_syntax_Goals : resFunc Tryz.prog ctxF n_syntax_Goals = some x_syntax_Goals := by kernel_rfl
theorem res_ref22_GoalText : resFunc Tryz.prog ctxF n_ref22_GoalText = some x_ref22_GoalText := by kernel_rfl
theorem res_scope_Check : resFunc Tryz.prog ctxF n_scope_Check = some x_scope_Check := by kernel_rfl
theorem res_ref23_Check : resFunc Tryz.prog ctxF n_ref23_Check = some x_ref23_Check := by kernel_rfl
theorem res_ref01_Same : resFunc Tryz.prog ctxF n_ref01_Same = some x_ref01_Same := by kernel_rfl
theorem res_ref01_Atom : resFunc Tryz.prog ctxF n_ref01_Atom = some x_ref01_Atom := by kernel_rfl
theorem res_goal_fits : resFunc Tryz.prog ctxF n_goal_fits = some x_goal_fits := by kernel_rfl
theorem res_goal_kind : resFunc Tryz.prog ctxF n_goal_kind = some x_goal_kind := by kernel_rfl
theorem res_goal_assigner_assign : resFunc Tryz.prog ctxF n_goal_assigner_assign = some x_goal_assigner_assign := by kernel_rfl
theorem res_goal_equal : resFunc Tryz.prog ctxF n_goal_equal = some x_goal_equal := by kernel_rfl
theorem res_slices_Contains_int : resFunc Tryz.prog ctxF n_slices_Contains_int = some x_slices_Contains_int := by kernel_rfl
theorem res_ref01_budget : resFunc Tryz.prog ctxF n_ref01_budget = some x_ref01_budget := by kernel_rfl
theorem res_scope_names : resFunc Tryz.prog ctxF n_scope_names = some x_scope_names := by kernel_rfl
theorem res_scope_all : resFunc Tryz.prog ctxF n_scope_all = some x_scope_all := by kernel_rfl
theorem res_scope_Resolve_1 : resFunc Tryz.prog ctxF n_scope_Resolve_1 = some x_scope_Resolve_1 := by kernel_rfl
theorem res_ref23_sorted : resFunc Tryz.prog ctxF n_ref23_sorted = some x_ref23_sorted := by kernel_rfl
theorem res_syntax_Valid : resFunc Tryz.prog ctxF n_syntax_Valid = some x_syntax_Valid := by kernel_rfl
theorem res_syntax_goalText : resFunc Tryz.prog ctxF n_syntax_goalText = some x_syntax_goalText := by kernel_rfl
theorem res_ref22_words : resFunc Tryz.prog ctxF n_ref22_words = some x_ref22_words := by kernel_rfl
theorem res_ref22_agreement : resFunc Tryz.prog ctxF n_ref22_agreement = some x_ref22_agreement := by kernel_rfl
theorem res_ref22_list : resFunc Tryz.prog ctxF n_ref22_list = some x_ref22_list := by kernel_rfl
theorem res_scope_declared : resFunc Tryz.prog ctxF n_scope_declared = some x_scope_declared := by kernel_rfl
theorem res_scope_table_two : resFunc Tryz.prog ctxF n_scope_table_two = some x_scope_table_two := by kernel_rfl
theorem res_scope_table_term : resFunc Tryz.prog ctxF n_scope_table_term = some x_scope_table_term := by kernel_rfl
theorem res_scope_table_goal : resFunc Tryz.prog ctxF n_scope_table_goal = some x_scope_table_goal := by kernel_rfl
theorem res_ref22_Valid : resFunc Tryz.prog ctxF n_ref22_Valid = some x_ref22_Valid := by kernel_rfl
theorem res_ref23_declared : resFunc Tryz.prog ctxF n_ref23_declared = some x_ref23_declared := by kernel_rfl
theorem res_ref23_step : resFunc Tryz.prog ctxF n_ref23_step = some x_ref23_step := by kernel_rfl
theorem res_ref23_goal : resFunc Tryz.prog ctxF n_ref23_goal = some x_ref23_goal := by kernel_rfl
theorem res_ref01_Compare : resFunc Tryz.prog ctxF n_ref01_Compare = some x_ref01_Compare := by kernel_rfl
theorem res_slices_EqualFunc_Term : resFunc Tryz.prog ctxF n_slices_EqualFunc_Term = some x_slices_EqualFunc_Term := by kernel_rfl
theorem res_goal_equal_1 : resFunc Tryz.prog ctxF n_goal_equal_1 = some x_goal_equal_1 := by kernel_rfl
theorem res_term_Compare : resFunc Tryz.prog ctxF n_term_Compare = some x_term_Compare := by kernel_rfl
theorem res_slices_Index_int : resFunc Tryz.prog ctxF n_slices_Index_int = some x_slices_Index_int := by kernel_rfl
theorem res_slices_Clone_string : resFunc Tryz.prog ctxF n_slices_Clone_string = some x_slices_Clone_string := by kernel_rfl
theorem res_slices_Clone_Fresh : resFunc Tryz.prog ctxF n_slices_Clone_Fresh = some x_slices_Clone_Fresh := by kernel_rfl
theorem res_slices_Clone_Step : resFunc Tryz.prog ctxF n_slices_Clone_Step = some x_slices_Clone_Step := by kernel_rfl
theorem res_slices_Clone_Goal : resFunc Tryz.prog ctxF n_slices_Clone_Goal = some x_slices_Clone_Goal := by kernel_rfl
theorem res_scope_changed : resFunc Tryz.prog ctxF n_scope_changed = some x_scope_changed := by kernel_rfl
theorem res_ref23_Names : resFunc Tryz.prog ctxF n_ref23_Names = some x_ref23_Names := by kernel_rfl
theorem res_ref23_index : resFunc Tryz.prog ctxF n_ref23_index = some x_ref23_index := by kernel_rfl
theorem res_syntax_head : resFunc Tryz.prog ctxF n_syntax_head = some x_syntax_head := by kernel_rfl
theorem res_syntax_wrong : resFunc Tryz.prog ctxF n_syntax_wrong = some x_syntax_wrong := by kernel_rfl
theorem res_syntax_message : resFunc Tryz.prog ctxF n_syntax_message = some x_syntax_message := by kernel_rfl
theorem res_syntax_goal : resFunc Tryz.prog ctxF n_syntax_goal = some x_syntax_goal := by kernel_rfl
theorem res_syntax_kinds : resFunc Tryz.prog ctxF n_syntax_kinds = some x_syntax_kinds := by kernel_rfl
theorem res_syntax_agreement : resFunc Tryz.prog ctxF n_syntax_agreement = some x_syntax_agreement := by kernel_rfl
theorem res_syntax_texts : resFunc Tryz.prog ctxF n_syntax_texts = some x_syntax_texts := by kernel_rfl
theorem res_ref22_text : resFunc Tryz.prog ctxF n_ref22_text = some x_ref22_text := by kernel_rfl
theorem res_scope_declared_1 : resFunc Tryz.prog ctxF n_scope_declared_1 = some x_scope_declared_1 := by kernel_rfl
theorem res_strings_Contains : resFunc Tryz.prog ctxF n_strings_Contains = some x_strings_Contains := by kernel_rfl
theorem res_slices_Contains_string : resFunc Tryz.prog ctxF n_slices_Contains_string = some x_slices_Contains_string := by kernel_rfl
theorem res_scope_is : resFunc Tryz.prog ctxF n_scope_is = some x_scope_is := by kernel_rfl
theorem res_scope_table_public : resFunc Tryz.prog ctxF n_scope_table_public = some x_scope_table_public := by kernel_rfl
theorem res_scope_table_private : resFunc Tryz.prog ctxF n_scope_table_private = some x_scope_table_private := by kernel_rfl
theorem res_scope_table_role : resFunc Tryz.prog ctxF n_scope_table_role = some x_scope_table_role := by kernel_rfl
theorem res_ref21_IsName : resFunc Tryz.prog ctxF n_ref21_IsName = some x_ref21_IsName := by kernel_rfl
theorem res_ref22_numbers : resFunc Tryz.prog ctxF n_ref22_numbers = some x_ref22_numbers := by kernel_rfl
theorem res_ref22_names : resFunc Tryz.prog ctxF n_ref22_names = some x_ref22_names := by kernel_rfl
theorem res_ref22_message : resFunc Tryz.prog ctxF n_ref22_message = some x_ref22_message := by kernel_rfl
theorem res_ref22_goal : resFunc Tryz.prog ctxF n_ref22_goal = some x_ref22_goal := by kernel_rfl
theorem res_ref23_Term : resFunc Tryz.prog ctxF n_ref23_Term = some x_ref23_Term := by kernel_rfl
theorem res_ref01_number : resFunc Tryz.prog ctxF n_ref01_number = some x_ref01_number := by kernel_rfl
theorem res_ref01_Size : resFunc Tryz.prog ctxF n_ref01_Size = some x_ref01_Size := by kernel_rfl
theorem res_term_sign : resFunc Tryz.prog ctxF n_term_sign = some x_term_sign := by kernel_rfl
theorem res_term_Size : resFunc Tryz.prog ctxF n_term_Size = some x_term_Size := by kernel_rfl
theorem res_strings_Compare : resFunc Tryz.prog ctxF n_strings_Compare = some x_strings_Compare := by kernel_rfl
theorem res_slices_ContainsFunc_string : resFunc Tryz.prog ctxF n_slices_ContainsFunc_string = some x_slices_ContainsFunc_string := by kernel_rfl
theorem res_lexer_IsName : resFunc Tryz.prog ctxF n_lexer_IsName = some x_lexer_IsName := by kernel_rfl
theorem res_syntax_rawTerm : resFunc Tryz.prog ctxF n_syntax_rawTerm = some x_syntax_rawTerm := by kernel_rfl
theorem res_syntax_text : resFunc Tryz.prog ctxF n_syntax_text = some x_syntax_text := by kernel_rfl
theorem res_ref09_Untuple : resFunc Tryz.prog ctxF n_ref09_Untuple = some x_ref09_Untuple := by kernel_rfl
theorem res_strings_Index : resFunc Tryz.prog ctxF n_strings_Index = some x_strings_Index := by kernel_rfl
theorem res_slices_Index_string : resFunc Tryz.prog ctxF n_slices_Index_string = some x_slices_Index_string := by kernel_rfl
theorem res_ref21_Tokens : resFunc Tryz.prog ctxF n_ref21_Tokens = some x_ref21_Tokens := by kernel_rfl
theorem res_ref01_IsName : resFunc Tryz.prog ctxF n_ref01_IsName = some x_ref01_IsName := by kernel_rfl
theorem res_ref22_Raw : resFunc Tryz.prog ctxF n_ref22_Raw = some x_ref22_Raw := by kernel_rfl
theorem res_ref23_kids : resFunc Tryz.prog ctxF n_ref23_kids = some x_ref23_kids := by kernel_rfl
theorem res_slices_IndexFunc_string : resFunc Tryz.prog ctxF n_slices_IndexFunc_string = some x_slices_IndexFunc_string := by kernel_rfl
theorem res_lexer_letter : resFunc Tryz.prog ctxF n_lexer_letter = some x_lexer_letter := by kernel_rfl
theorem res_lexer_nameLength : resFunc Tryz.prog ctxF n_lexer_nameLength = some x_lexer_nameLength := by kernel_rfl
theorem res_term_Valid : resFunc Tryz.prog ctxF n_term_Valid = some x_term_Valid := by kernel_rfl
theorem res_syntax_raw : resFunc Tryz.prog ctxF n_syntax_raw = some x_syntax_raw := by kernel_rfl
theorem res_theory_Untuple : resFunc Tryz.prog ctxF n_theory_Untuple = some x_theory_Untuple := by kernel_rfl
theorem res_ref09_Is : resFunc Tryz.prog ctxF n_ref09_Is = some x_ref09_Is := by kernel_rfl
theorem res_ref21_Lines : resFunc Tryz.prog ctxF n_ref21_Lines = some x_ref21_Lines := by kernel_rfl
theorem res_ref21_bare : resFunc Tryz.prog ctxF n_ref21_bare = some x_ref21_bare := by kernel_rfl
theorem res_ref21_class : resFunc Tryz.prog ctxF n_ref21_class = some x_ref21_class := by kernel_rfl
theorem res_ref21_first : resFunc Tryz.prog ctxF n_ref21_first = some x_ref21_first := by kernel_rfl
theorem res_ref01_letter : resFunc Tryz.prog ctxF n_ref01_letter = some x_ref01_letter := by kernel_rfl
theorem res_ref01_digit : resFunc Tryz.prog ctxF n_ref01_digit = some x_ref01_digit := by kernel_rfl
theorem res_ref01_Valid : resFunc Tryz.prog ctxF n_ref01_Valid = some x_ref01_Valid := by kernel_rfl
theorem res_ref22_raw : resFunc Tryz.prog ctxF n_ref22_raw = some x_ref22_raw := by kernel_rfl
theorem res_ref23_public : resFunc Tryz.prog ctxF n_ref23_public = some x_ref23_public := by kernel_rfl
theorem res_ref23_private : resFunc Tryz.prog ctxF n_ref23_private = some x_ref23_private := by kernel_rfl
theorem res_ref23_role : resFunc Tryz.prog ctxF n_ref23_role = some x_ref23_role := by kernel_rfl
theorem res_lexer_digit : resFunc Tryz.prog ctxF n_lexer_digit = some x_lexer_digit := by kernel_rfl
theorem res_strings_HasPrefix : resFunc Tryz.prog ctxF n_strings_HasPrefix = some x_strings_HasPrefix := by kernel_rfl
theorem res_term_check : resFunc Tryz.prog ctxF n_term_check = some x_term_check := by kernel_rfl
theorem res_theory_is : resFunc Tryz.prog ctxF n_theory_is = some x_theory_is := by kernel_rfl
theorem res_theory_copied : resFunc Tryz.prog ctxF n_theory_copied = some x_theory_copied := by kernel_rfl
theorem res_bytealg_Cutover : resFunc Tryz.prog ctxF n_bytealg_Cutover = some x_bytealg_Cutover := by kernel_rfl
theorem res_bytealg_IndexRabinKarp_string : resFunc Tryz.prog ctxF n_bytealg_IndexRabinKarp_string = some x_bytealg_IndexRabinKarp_string := by kernel_rfl
theorem res_ref21_word : resFunc Tryz.prog ctxF n_ref21_word = some x_ref21_word := by kernel_rfl
theorem res_ref21_number : resFunc Tryz.prog ctxF n_ref21_number = some x_ref21_number := by kernel_rfl
theorem res_ref21_literal : resFunc Tryz.prog ctxF n_ref21_literal = some x_ref21_literal := by kernel_rfl
theorem res_ref01_nodes : resFunc Tryz.prog ctxF n_ref01_nodes = some x_ref01_nodes := by kernel_rfl
theorem res_ref01_Depth : resFunc Tryz.prog ctxF n_ref01_Depth = some x_ref01_Depth := by kernel_rfl
theorem res_stringslite_HasPrefix : resFunc Tryz.prog ctxF n_stringslite_HasPrefix = some x_stringslite_HasPrefix := by kernel_rfl
theorem res_term_isName : resFunc Tryz.prog ctxF n_term_isName = some x_term_isName := by kernel_rfl
theorem res_term_At : resFunc Tryz.prog ctxF n_term_At = some x_term_At := by kernel_rfl
theorem res_bytealg_hashStr_string : resFunc Tryz.prog ctxF n_bytealg_hashStr_string = some x_bytealg_hashStr_string := by kernel_rfl
theorem res_ref21_escape : resFunc Tryz.prog ctxF n_ref21_escape = some x_ref21_escape := by kernel_rfl
theorem res_ref01_node : resFunc Tryz.prog ctxF n_ref01_node = some x_ref01_node := by kernel_rfl
theorem res_term_part : resFunc Tryz.prog ctxF n_term_part = some x_term_part := by kernel_rfl
theorem res_term_clone : resFunc Tryz.prog ctxF n_term_clone = some x_term_clone := by kernel_rfl
end Go.Abs.Q

/- What holds when code ends: for loops, whose end is known only by what holds there. -/
namespace Go.Abs

/-- The code ends, so that Ψ holds. -/
def Ends (r : Option (Ex × St)) (Ψ : Ex → Fr → AH → Prop) : Prop := match r with | some (e, fr, h) => Ψ e fr h | none => False
@[congr] theorem Ends_congr {r r' : Option (Ex × St)} {Ψ : Ex → Fr → AH → Prop} (h : r = r') : Ends r Ψ = Ends r' Ψ := by rw [h]
@[simp] theorem Ends_some (e : Ex) (fr : Fr) (h : AH) (Ψ : Ex → Fr → AH → Prop) : Ends (some (e, fr, h)) Ψ = Ψ e fr h := _root_.id rfl

def SQ (O : Orc) (c : Ctx) (y : RCode) (Ψ : Ex → Fr → AH → Prop) : Ex → Fr → AH → Prop
  | .normal, fr, h => Ends (evalCode O c y (fr, h)) Ψ
  | e, fr, h => Ψ e fr h
section
variable (O : Orc) (c : Ctx) (y : RCode) (Ψ : Ex → Fr → AH → Prop)
@[simp] theorem SQ_n (fr : Fr) (h : AH) : SQ O c y Ψ .normal fr h = Ends (evalCode O c y (fr, h)) Ψ := _root_.id rfl
@[simp] theorem SQ_r (fr : Fr) (h : AH) : SQ O c y Ψ .ret fr h = Ψ .ret fr h := _root_.id rfl
@[simp] theorem SQ_e (i : Nat) (fr : Fr) (h : AH) : SQ O c y Ψ (.exit i) fr h = Ψ (.exit i) fr h := _root_.id rfl
@[simp] theorem Ends_sqn (r : Option (Ex × St)) : Ends (sqn r O c y) Ψ = Ends r (SQ O c y Ψ) := by
  cases r with
  | none => rfl
  | some x => obtain ⟨e, fr, h⟩ := x; cases e <;> rfl
end

def BL (id : Nat) (Ψ : Ex → Fr → AH → Prop) : Ex → Fr → AH → Prop
  | .exit i, fr, h => if i = id then Ψ .normal fr h else Ψ (.exit i) fr h
  | e, fr, h => Ψ e fr h
@[simp] theorem BL_n (id : Nat) (Ψ : Ex → Fr → AH → Prop) (fr : Fr) (h : AH) : BL id Ψ .normal fr h = Ψ .normal fr h := _root_.id rfl
@[simp] theorem BL_r (id : Nat) (Ψ : Ex → Fr → AH → Prop) (fr : Fr) (h : AH) : BL id Ψ .ret fr h = Ψ .ret fr h := _root_.id rfl
@[simp] theorem BL_e (id i : Nat) (Ψ : Ex → Fr → AH → Prop) (fr : Fr) (h : AH) : BL id Ψ (.exit i) fr h = if i = id then Ψ .normal fr h else Ψ (.exit i) fr h := _root_.id rfl
@[simp] theorem Ends_kbl (id : Nat) (r : Option (Ex × St)) (Ψ : Ex → Fr → AH → Prop) : Ends (kbl id r) Ψ = Ends r (BL id Ψ) := by
  cases r with
  | none => rfl
  | some x =>
    obtain ⟨e, fr, h⟩ := x
    cases e with
    | exit i =>
      by_cases hi : i = id
      · subst hi; simp [kbl, BL]
      · simp [kbl, BL, hi]
    | _ => rfl

theorem Ends.mono {r : Option (Ex × St)} {Φ Ψ : Ex → Fr → AH → Prop} (h : Ends r Φ) (k : ∀ e fr h, Φ e fr h → Ψ e fr h) : Ends r Ψ := by
  cases r with
  | none => exact h.elim
  | some x => exact k _ _ _ h

theorem Ends.elim' {r : Option (Ex × St)} {Φ : Ex → Fr → AH → Prop} (h : Ends r Φ) : ∃ e fr h', r = some (e, fr, h') ∧ Φ e fr h' := by
  cases r with
  | none => exact h.elim
  | some x => exact ⟨_, _, _, rfl, h⟩

/-- A loop, by an invariant with a number that falls. -/
theorem Ends_lp {step : St → Option (Ex × St)} {Ψ : Ex → Fr → AH → Prop} (Inv : Nat → Fr → AH → Prop)
    (H : ∀ n fr h, Inv n fr h → Ends (step (fr, h)) fun e fr' h' => (e = .normal ∧ ∃ m, m < n ∧ Inv m fr' h') ∨ (e ≠ .normal ∧ Ψ e fr' h')) :
    ∀ (n : Nat) (fr : Fr) (h : AH), Inv n fr h → Ends (lp step (fr, h)) Ψ := by
  intro n
  induction n using Nat.strongRecOn with
  | _ n ih =>
    intro fr h hi
    obtain ⟨e, fr', h', he, hp⟩ := (H n fr h hi).elim'
    rcases hp with ⟨rfl, m, hm, hi'⟩ | ⟨hne, hp⟩
    · obtain ⟨e2, fr2, h2, he2, hp2⟩ := (ih m hm fr' h' hi').elim'
      rw [lp_go he he2]
      exact hp2
    · cases e with
      | normal => exact absurd rfl hne
      | exit i => rw [lp_exit he]; exact hp
      | ret => rw [lp_ret he]; exact hp

/-- A loop over a list: what is done, what is to do. -/
theorem Ends_list {α : Type} {step : St → Option (Ex × St)} {Ψ : Ex → Fr → AH → Prop} (all : List α) (Inv : List α → Fr → AH → Prop)
    (last : ∀ fr h, Inv all fr h → Ends (step (fr, h)) fun e fr' h' => e ≠ .normal ∧ Ψ e fr' h')
    (next : ∀ done x rest, done ++ x :: rest = all → ∀ fr h, Inv done fr h → Ends (step (fr, h)) fun e fr' h' => (e = .normal ∧ Inv (done ++ [x]) fr' h') ∨ (e ≠ .normal ∧ Ψ e fr' h')) :
    ∀ (fr : Fr) (h : AH), Inv [] fr h → Ends (lp step (fr, h)) Ψ := by
  intro fr h hi
  refine Ends_lp (fun n fr h => ∃ done rest, done ++ rest = all ∧ rest.length = n ∧ Inv done fr h) (fun n fr h ⟨done, rest, he, hn, hi⟩ => ?_) all.length fr h ⟨[], all, rfl, rfl, hi⟩
  cases rest with
  | nil =>
    rw [List.append_nil] at he
    subst he
    exact (last fr h hi).mono fun e fr' h' hp => .inr hp
  | cons x rest =>
    refine (next done x rest he fr h hi).mono fun e fr' h' hp => ?_
    rcases hp with ⟨h1, h2⟩ | hp
    · exact .inl ⟨h1, rest.length, by simp at hn; omega, done ++ [x], rest, by simpa using he, rfl, h2⟩
    · exact .inr hp

/-- At a function's end. -/
def FIN (rs : List RRes) (r : AV) : Ex → Fr → AH → Prop
  | .exit _, _, _ => False
  | _, fr, h => fin rs fr h = some r
@[simp] theorem FIN_n (rs : List RRes) (r : AV) (fr : Fr) (h : AH) : FIN rs r .normal fr h = (fin rs fr h = some r) := _root_.id rfl
@[simp] theorem FIN_r (rs : List RRes) (r : AV) (fr : Fr) (h : AH) : FIN rs r .ret fr h = (fin rs fr h = some r) := _root_.id rfl

theorem pc_ends {C : Cfg} {f : FuncId} {rf : RFunc} {args : List AV} {r : AV} (hs : C.spec f = none) (hc : C.code f = some rf) (hl : args.length ≤ rf.ntmps)
    (H : ∀ fr : Fr, fr.length = rf.ntmps → (∀ i, look fr i = args.getD i undefA) → Ends (evalCode (lim C) (C.ctx f) rf.body (fr, ⟨[], []⟩)) (FIN rf.results r)) : pc C f args = some r := by
  refine pc_run hs hc hl fun fr h1 h2 => ?_
  obtain ⟨e, fr', h', he, hp⟩ := (H fr h1 h2).elim'
  rw [he]
  cases e with
  | exit i => exact hp.elim
  | normal => exact hp
  | ret => exact hp

def RFIN (rs : List RRes) (Φ : AV → AH → Prop) : Ex → Fr → AH → Prop
  | .exit _, _, _ => False
  | _, fr, h => ∃ vs, resA fr h rs = some vs ∧ Φ (tupled vs) h
@[simp] theorem RFIN_n (rs : List RRes) (Φ : AV → AH → Prop) (fr : Fr) (h : AH) : RFIN rs Φ .normal fr h = (∃ vs, resA fr h rs = some vs ∧ Φ (tupled vs) h) := _root_.id rfl
@[simp] theorem RFIN_r (rs : List RRes) (Φ : AV → AH → Prop) (fr : Fr) (h : AH) : RFIN rs Φ .ret fr h = (∃ vs, resA fr h rs = some vs ∧ Φ (tupled vs) h) := _root_.id rfl

theorem rc_ends {C : Cfg} {f : FuncId} {rf : RFunc} {args : List AV} {h : AH} {Φ : AV → AH → Prop} (hc : C.code f = some rf) (hl : args.length ≤ rf.ntmps)
    (H : ∀ fr : Fr, fr.length = rf.ntmps → (∀ i, look fr i = args.getD i undefA) → Ends (evalCode (lim C) (C.ctx f) rf.body (fr, h)) (RFIN rf.results Φ)) : ∃ v h', rc C f args h = some (v, h') ∧ Φ v h' := by
  obtain ⟨hl', hlook⟩ := look_start hl
  obtain ⟨e, fr', h', he, hp⟩ := (H _ hl' hlook).elim'
  have key : ∃ vs, resA fr' h' rf.results = some vs ∧ Φ (tupled vs) h' := by
    cases e with
    | exit i => exact hp.elim
    | normal => exact hp
    | ret => exact hp
  obtain ⟨vs, hv, hΦ⟩ := key
  refine ⟨tupled vs, h', rc_of C ?_, hΦ⟩
  unfold rawA
  simp only [hc]
  unfold evalBody
  rw [he]
  cases e with
  | exit i => exact hp.elim
  | normal => simp only [hv]; rfl
  | ret => simp only [hv]; rfl

end Go.Abs

/- What code writes to; loops that keep the rest. -/
namespace Go.Abs

/-- The places to which code writes. -/
def RCode.wr : RCode → List Nat
  | .region _ ops => ops.filterMap (·.dst)
  | .seq a b => a.wr ++ b.wr
  | .cond _ a b => a.wr ++ b.wr
  | .block _ a => a.wr
  | .loop a => a.wr
  | _ => []

/-- A frame that differs only at some places. -/
def Kp (ws : List Nat) (fr fr' : Fr) : Prop := fr'.length = fr.length ∧ ∀ j, j ∉ ws → look fr' j = look fr j

theorem Kp.refl (ws : List Nat) (fr : Fr) : Kp ws fr fr := ⟨rfl, fun _ _ => rfl⟩
theorem Kp.trans {ws : List Nat} {a b c : Fr} (h : Kp ws a b) (k : Kp ws b c) : Kp ws a c := ⟨k.1.trans h.1, fun j hj => (k.2 j hj).trans (h.2 j hj)⟩
theorem Kp.mono {ws ws' : List Nat} {a b : Fr} (h : Kp ws a b) (hs : ∀ j, j ∈ ws → j ∈ ws') : Kp ws' a b := ⟨h.1, fun j hj => h.2 j fun k => hj (hs j k)⟩

theorem Kp.put (fr : Fr) (d : Option Nat) (v : AV) {ws : List Nat} (hd : ∀ x, d = some x → x ∈ ws) : Kp ws fr (put fr d v) := by
  cases d with
  | none => exact Kp.refl _ _
  | some d =>
    refine ⟨by simp, fun j hj => ?_⟩
    have hne : d ≠ j := fun e => hj (e ▸ hd d rfl)
    simp [look_set_ne fr v hne]

section
variable {C : Cfg} {c : Ctx}

theorem ops_keep {O : Orc} : ∀ {ros : List RO} {fr : Fr} {h : AH} {x : Fr × AH} {ws : List Nat}, (∀ j, j ∈ ros.filterMap (·.dst) → j ∈ ws) → evalOps O c ros fr h = some x → Kp ws fr x.1
  | [], fr, h, x, ws, _, he => by
    simp only [evalOps] at he
    cases he
    exact Kp.refl _ _
  | o :: ros, fr, h, x, ws, hs, he => by
    have h1 : ∀ y, o.dst = some y → y ∈ ws := fun y hy => hs y (by simp [hy])
    have h2 : ∀ j, j ∈ ros.filterMap (·.dst) → j ∈ ws := fun j hj => hs j (by
      rw [List.filterMap_cons]
      split
      · exact hj
      · exact List.mem_cons_of_mem _ hj)
    simp only [evalOps] at he
    cases hw : wantedA fr o.guard with
    | none => rw [hw] at he; cases he
    | some b =>
      rw [hw] at he
      cases b with
      | false => exact (Kp.put fr o.dst _ h1).trans (ops_keep h2 he)
      | true =>
        dsimp only at he
        cases hop : evalOp O c o.op fr h with
        | none => rw [hop] at he; cases he
        | some y =>
          rw [hop] at he
          exact (Kp.put fr o.dst _ h1).trans (ops_keep h2 he)

theorem iter_keep {step : St → Option (Ex × St)} {ws : List Nat} (hs : ∀ s x, step s = some x → Kp ws s.1 x.2.1) : ∀ (n : Nat) (s : St) (x : Ex × St), iter step n s = some x → Kp ws s.1 x.2.1
  | 0, s, x, he => by simp [iter] at he
  | n + 1, s, x, he => by
    simp only [iter] at he
    cases h1 : step s with
    | none => rw [h1] at he; cases he
    | some y =>
      rw [h1] at he
      have k := hs s y h1
      obtain ⟨e, s'⟩ := y
      cases e with
      | normal => exact k.trans (iter_keep hs n s' x he)
      | exit id => cases he; exact k
      | ret => cases he; exact k

theorem code_keep : ∀ (rc : RCode) (s : St) (x : Ex × St), evalCode (lim C) c rc s = some x → Kp rc.wr s.1 x.2.1 := by
  intro rc
  induction rc with
  | skip => intro s x he; cases he; exact Kp.refl _ _
  | region d ros =>
    intro s x he
    simp only [evalCode] at he
    cases hs : evalOps (lim C) c ros s.1 s.2 with
    | none => rw [hs] at he; cases he
    | some y =>
      rw [hs] at he
      cases he
      exact ops_keep (fun j hj => hj) hs
  | seq a b iha ihb =>
    intro s x he
    simp only [evalCode] at he
    cases hs : evalCode (lim C) c a s with
    | none => rw [hs] at he; cases he
    | some y =>
      rw [hs] at he
      have k := (iha s y hs).mono (ws' := (RCode.seq a b).wr) fun j hj => List.mem_append_left _ hj
      obtain ⟨e, s'⟩ := y
      cases e with
      | normal => exact k.trans ((ihb _ _ he).mono fun j hj => List.mem_append_right _ hj)
      | exit id => cases he; exact k
      | ret => cases he; exact k
  | cond q a b iha ihb =>
    intro s x he
    simp only [evalCode] at he
    split at he
    · exact (iha _ _ he).mono fun j hj => List.mem_append_left _ hj
    · exact (ihb _ _ he).mono fun j hj => List.mem_append_right _ hj
    · cases he
  | block id a ih =>
    intro s x he
    simp only [evalCode] at he
    cases hs : evalCode (lim C) c a s with
    | none => rw [hs] at he; cases he
    | some y =>
      rw [hs] at he
      have k := ih s y hs
      obtain ⟨e, s'⟩ := y
      cases e with
      | normal => cases he; exact k
      | exit i =>
        simp only at he
        split at he <;> cases he <;> exact k
      | ret => cases he; exact k
  | loop a ih =>
    intro s x he
    obtain ⟨n, hn⟩ := lp_iter he
    exact iter_keep ih n s x hn
  | exit id => intro s x he; cases he; exact Kp.refl _ _
  | ret => intro s x he; cases he; exact Kp.refl _ _

theorem Ends_keep {rc : RCode} {ws : List Nat} (hw : rc.wr = ws) {fr : Fr} {h : AH} {Ψ : Ex → Fr → AH → Prop} (H : Ends (evalCode (lim C) c rc (fr, h)) Ψ) : Ends (evalCode (lim C) c rc (fr, h)) fun e fr' h' => Kp ws fr fr' ∧ Ψ e fr' h' := by
  subst hw
  obtain ⟨e, fr', h', he, hp⟩ := H.elim'
  have k := code_keep rc _ _ he
  rw [he]
  exact ⟨k, hp⟩

/-- A loop, by an invariant with a number that falls; what the body does not write to stays. -/
theorem Ends_lpk {body : RCode} {Ψ : Ex → Fr → AH → Prop} {ws : List Nat} (hw : body.wr = ws) (fr0 : Fr) (Inv : Nat → Fr → AH → Prop)
    (H : ∀ n fr h, Kp ws fr0 fr → Inv n fr h → Ends (evalCode (lim C) c body (fr, h)) fun e fr' h' => (e = .normal ∧ ∃ m, m < n ∧ Inv m fr' h') ∨ (e ≠ .normal ∧ Ψ e fr' h'))
    (n : Nat) (h : AH) (hi : Inv n fr0 h) : Ends (lp (evalCode (lim C) c body) (fr0, h)) fun e fr' h' => Kp ws fr0 fr' ∧ Ψ e fr' h' := by
  refine Ends_lp (fun n fr h => Kp ws fr0 fr ∧ Inv n fr h) (fun n fr h ⟨k, hi⟩ => ?_) n fr0 h ⟨Kp.refl _ _, hi⟩
  refine (Ends_keep hw (H n fr h k hi)).mono fun e fr' h' ⟨k', hp⟩ => ?_
  rcases hp with ⟨h1, m, h2, h3⟩ | ⟨h1, h2⟩
  · exact .inl ⟨h1, m, h2, k.trans k', h3⟩
  · exact .inr ⟨h1, k.trans k', h2⟩
end

/-- The same, with the invariant behind a name, so that simp leaves it alone. -/
theorem Ends_lpw {C : Cfg} {c : Ctx} {body : RCode} {Ψ : Ex → Fr → AH → Prop} {ws : List Nat} (hw : body.wr = ws) (fr0 : Fr) (Inv : Nat → Fr → AH → Prop)
    (H : ∀ (J : Nat → Fr → AH → Prop) (Φ : Ex → Fr → AH → Prop), (∀ n fr h, Inv n fr h → J n fr h) → (∀ e fr h, Ψ e fr h → Φ e fr h) → ∀ n fr h, Kp ws fr0 fr → Inv n fr h →
      Ends (evalCode (lim C) c body (fr, h)) fun e fr' h' => (e = .normal ∧ ∃ m, m < n ∧ J m fr' h') ∨ (e ≠ .normal ∧ Φ e fr' h'))
    (n : Nat) (h : AH) (hi : Inv n fr0 h) : Ends (lp (evalCode (lim C) c body) (fr0, h)) fun e fr' h' => Kp ws fr0 fr' ∧ Ψ e fr' h' :=
  Ends_lpk hw fr0 Inv (H Inv Ψ (fun _ _ _ h => h) (fun _ _ _ h => h)) n h hi

/-- At a pure function's end, by what holds of its result. -/
def EFIN (rs : List RRes) (Φ : AV → Prop) : Ex → Fr → AH → Prop
  | .exit _, _, _ => False
  | _, fr, h => ∃ r, fin rs fr h = some r ∧ Φ r
@[simp] theorem EFIN_n (rs : List RRes) (Φ : AV → Prop) (fr : Fr) (h : AH) : EFIN rs Φ .normal fr h = (∃ r, fin rs fr h = some r ∧ Φ r) := _root_.id rfl
@[simp] theorem EFIN_r (rs : List RRes) (Φ : AV → Prop) (fr : Fr) (h : AH) : EFIN rs Φ .ret fr h = (∃ r, fin rs fr h = some r ∧ Φ r) := _root_.id rfl

theorem pc_ends_ex0 {C : Cfg} {f : FuncId} {rf : RFunc} {args : List AV} {Φ : AV → Prop} (hs : C.spec f = none) (hc : C.code f = some rf) (hl : args.length ≤ rf.ntmps)
    (H : ∀ fr : Fr, fr.length = rf.ntmps → (∀ i, look fr i = args.getD i undefA) → Ends (evalCode (lim C) (C.ctx f) rf.body (fr, ⟨[], []⟩)) (EFIN rf.results Φ)) : ∃ r, pc C f args = some r ∧ Φ r := by
  obtain ⟨hl', hlook⟩ := look_start hl
  obtain ⟨e, fr', h', he, hp⟩ := (H _ hl' hlook).elim'
  have key : ∃ r, fin rf.results fr' h' = some r ∧ Φ r := by
    cases e with
    | exit i => exact hp.elim
    | normal => exact hp
    | ret => exact hp
  obtain ⟨r, hr, hΦ⟩ := key
  refine ⟨r, pc_run hs hc hl fun fr h1 h2 => ?_, hΦ⟩
  have hfr : fr = startFr rf args := by
    apply List.ext_getElem (h1.trans hl'.symm)
    intro i g1 g2
    have a := h2 i
    have b := hlook i
    simp only [look, List.getD, List.getElem?_eq_getElem g1, List.getElem?_eq_getElem g2, Option.getD_some] at a b
    exact a.trans b.symm
  subst hfr
  rw [he]
  cases e with
  | exit i => exact hp.elim
  | normal => exact hr
  | ret => exact hr
/-- The same, with what holds of the result behind a name, so that simp leaves it alone. -/
theorem pc_ends_ex {C : Cfg} {f : FuncId} {rf : RFunc} {args : List AV} {Φ : AV → Prop} (hs : C.spec f = none) (hc : C.code f = some rf) (hl : args.length ≤ rf.ntmps)
    (H : ∀ Ψ : AV → Prop, (∀ r, Φ r → Ψ r) → ∀ fr : Fr, fr.length = rf.ntmps → (∀ i, look fr i = args.getD i undefA) → Ends (evalCode (lim C) (C.ctx f) rf.body (fr, ⟨[], []⟩)) (EFIN rf.results Ψ)) : ∃ r, pc C f args = some r ∧ Φ r :=
  pc_ends_ex0 hs hc hl (H Φ fun _ h => h)

@[simp] theorem tame_int (h : AH) (k : IntKind) (n : Int) : tame h (.int k n) = true := _root_.id rfl
@[simp] theorem tame_bool (h : AH) (b : Bool) : tame h (.bool b) = true := _root_.id rfl
@[simp] theorem tame_str (h : AH) (s : ByteArray) : tame h (.str s) = true := _root_.id rfl
@[simp] theorem tame_agg (h : AH) (cs : List AV) : tame h (.agg cs) = cs.all (tame1 h) := _root_.id rfl
@[simp] theorem tame1_int (h : AH) (k : IntKind) (n : Int) : tame1 h (.int k n) = true := _root_.id rfl
@[simp] theorem tame1_bool (h : AH) (b : Bool) : tame1 h (.bool b) = true := _root_.id rfl
@[simp] theorem tame1_str (h : AH) (s : ByteArray) : tame1 h (.str s) = true := _root_.id rfl
@[simp] theorem tame_vs (h : AH) (f : Bool) (sz : Nat) (xs : List AV) : tame h (.vs f sz xs) = true := _root_.id rfl
@[simp] theorem tame1_vs (h : AH) (f : Bool) (sz : Nat) (xs : List AV) : tame1 h (.vs f sz xs) = true := _root_.id rfl
@[simp] theorem isTup_view (k n off len : Nat) : (AV.sl k n off len).isTup = false := _root_.id rfl
@[simp] theorem cells_view (k n off len : Nat) : (AV.sl k n off len).cells = [.sl k n off len] := _root_.id rfl
@[simp] theorem isTup_ptr (b off : Nat) : (AV.ptr b off).isTup = false := _root_.id rfl
@[simp] theorem cells_ptr (b off : Nat) : (AV.ptr b off).cells = [.ptr b off] := _root_.id rfl
@[simp] theorem isTup_vs (f : Bool) (sz : Nat) (xs : List AV) : (AV.vs f sz xs).isTup = false := _root_.id rfl
@[simp] theorem cells_vs (f : Bool) (sz : Nat) (xs : List AV) : (AV.vs f sz xs).cells = [.vs f sz xs] := _root_.id rfl
end Go.Abs

/- The settings under which the functions are taken. -/
namespace Go.Abs.Q
open Go.Proofs

def cmpBytes (a b : ByteArray) : Int := if Op.bytesLess a.toList b.toList then -1 else if a.toList = b.toList then 0 else 1
def specCmp : List AV → Option AV
  | [.str a, .str b] => some (.int .i64 (cmpBytes a b))
  | _ => none
/-- strings.Contains, of one byte. -/
def specHas : List AV → Option AV
  | [.str a, .str b] => match b.data.toList with | [c] => some (.bool (a.data.toList.contains c)) | _ => none
  | _ => none
def strsOf : List AV → Option (List ByteArray)
  | [] => some []
  | .str s :: xs => (strsOf xs).map (s :: ·)
  | _ => none
def joinB (l : List ByteArray) (sep : ByteArray) : ByteArray := ⟨(Lib.join (l.map (·.data.toList)) sep.data.toList).toArray⟩
/-- strings.Join, of no more than 2 to the power 47 bytes. -/
def specJoin : List AV → Option AV
  | [.vs _ z xs, .str sep] =>
    match strsOf xs with
    | some l => if (z = 1 ∨ xs.length = 0) ∧ xs.length ≤ 140737488355328 ∧ (joinB l sep).size ≤ 140737488355328 then some (.str (joinB l sep)) else none
    | none => none
  | _ => none
def specF (f : FuncId) : Option (List AV → Option AV) := if f = n_bytealg_CompareString then some specCmp else if f = n_strings_Contains then some specHas else if f = n_strings_Join then some specJoin else none
noncomputable def Q : Cfg := ⟨resFunc Tryz.prog ctxF, ctxF, specF⟩
theorem Q_code (f : FuncId) : Q.code f = resFunc Tryz.prog ctxF f := by
  simp only [Q]
theorem Q_spec (f : FuncId) : Q.spec f = specF f := by
  simp only [Q]
@[simp] theorem Q_ctx (f : FuncId) : Q.ctx f = ctxF f := by
  simp only [Q]
@[simp] theorem ctxF_raw (f : FuncId) : (ctxF f).raw = rawF := _root_.id rfl
@[simp] theorem ctxF_mut (f : FuncId) : (ctxF f).mutApp = mutF f := _root_.id rfl
@[simp] theorem ctxF_rawv (f : FuncId) : (ctxF f).rawv = rawvF f := _root_.id rfl
@[simp] theorem ctxF_noB (f : FuncId) : (ctxF f).noB = noBF := _root_.id rfl
@[simp] theorem ctxF_ro (f : FuncId) : (ctxF f).ro = roF f := _root_.id rfl
theorem pc_spec {f : FuncId} {s : List AV → Option AV} (h : specF f = some s) {args : List AV} {r : AV} (hr : s args = some r) : pc Q f args = some r := by
  apply pc_of
  unfold pureA
  have e : Q.spec f = some s := h
  rw [e]
  exact hr
theorem pc_cmp (a b : ByteArray) : pc Q n_bytealg_CompareString [.str a, .str b] = some (.int .i64 (cmpBytes a b)) := pc_spec (s := specCmp) rfl rfl
theorem pc_has (a : ByteArray) (c : UInt8) : pc Q n_strings_Contains [.str a, .str ⟨#[c]⟩] = some (.bool (a.data.toList.contains c)) := pc_spec (s := specHas) rfl rfl
theorem strsOf_map (l : List ByteArray) : strsOf (l.map AV.str) = some l := by
  induction l with
  | nil => rfl
  | cons a l ih => simp [strsOf, ih]
theorem pc_join (m : Bool × Bool) (l : List ByteArray) (sep : ByteArray) (h1 : l.length ≤ 140737488355328) (h2 : (joinB l sep).size ≤ 140737488355328) : pc Q n_strings_Join [sl m 1 (l.map AV.str), .str sep] = some (.str (joinB l sep)) := by
  refine pc_spec (s := specJoin) rfl ?_
  simp only [specJoin, sl, strsOf_map]
  have hz : ((if (((l.map AV.str).isEmpty && !m.2) = true) then 0 else 1 : Nat) = 1 ∨ (l.map AV.str).length = 0) := by
    cases l with
    | nil => exact .inr rfl
    | cons a l => exact .inl rfl
  rw [if_pos ⟨hz, by simpa using h1, h2⟩]
theorem pcQ {f : FuncId} {rf : RFunc} {args : List AV} {r : AV} (hc : resFunc Tryz.prog ctxF f = some rf) (hs : specF f = none) (hl : args.length ≤ rf.ntmps)
    (H : ∀ fr : Fr, fr.length = rf.ntmps → (∀ i, look fr i = args.getD i undefA) → Ends (evalCode (lim Q) (ctxF f) rf.body (fr, ⟨[], []⟩)) (FIN rf.results r)) : pc Q f args = some r :=
  pc_ends (C := Q) ((Q_spec f).trans hs) ((Q_code f).trans hc) hl fun fr h1 h2 => by
    rw [Q_ctx]
    exact H fr h1 h2
theorem rcQ {f : FuncId} {rf : RFunc} {args : List AV} {h : AH} {Φ : AV → AH → Prop} (hc : resFunc Tryz.prog ctxF f = some rf) (hl : args.length ≤ rf.ntmps)
    (H : ∀ fr : Fr, fr.length = rf.ntmps → (∀ i, look fr i = args.getD i undefA) → Ends (evalCode (lim Q) (ctxF f) rf.body (fr, h)) (RFIN rf.results Φ)) : ∃ v h', rc Q f args h = some (v, h') ∧ Φ v h' :=
  rc_ends (C := Q) ((Q_code f).trans hc) hl fun fr h1 h2 => by
    rw [Q_ctx]
    exact H fr h1 h2
end Go.Abs.Q

/- Contracts: comparing numbers, sizes of terms. -/
namespace Go.Abs.Q
attribute [local simp] look_set_ne look_set_eq fin tupled code_loop

def cmpI (a b : Int) : Int := if a < b then -1 else if b < a then 1 else 0

theorem pc_sign (a b : Int) : pc Q n_term_sign [.int .i64 a, .int .i64 b] = some (.int .i64 (cmpI a b)) := by
  refine pcQ res_term_sign rfl (by simp [x_term_sign]) fun fr hl ha => ?_
  have h0 := ha 0
  have h1 := ha 1
  simp [x_term_sign] at hl h0 h1 ⊢
  by_cases h : a < b
  · simp [*, cmpI]
  · by_cases h' : b < a <;> simp [*, cmpI]

theorem pc_number (a b : Int) : pc Q n_ref01_number [.int .i64 a, .int .i64 b] = some (.int .i64 (cmpI a b)) := by
  refine pcQ res_ref01_number rfl (by simp [x_ref01_number]) fun fr hl ha => ?_
  have h0 := ha 0
  have h1 := ha 1
  simp [x_ref01_number] at hl h0 h1 ⊢
  by_cases h : a < b
  · simp [*, cmpI]
  · by_cases h' : b < a <;> simp [*, cmpI]
end Go.Abs.Q

/- Contracts: sizes of terms. -/
namespace Go.Abs.Q
attribute [local simp] look_set_ne look_set_eq fin tupled code_loop raw_term_Size raw_ref01_Size

theorem pc_Size : ∀ (n : Nat) (t : Tm), t.size ≤ n → t.size ≤ 1099511627776 → pc Q n_term_Size [tmV t] = some (.int .i64 t.size) := by
  intro n
  induction n with
  | zero => intro t h; have := t.size_pos; omega
  | succ n ih =>
    intro t hn hb
    obtain ⟨k, nm, s, m, kids⟩ := t
    have hsz : Tm.size (.mk k nm s m kids) = 1 + Tm.sizes kids := rfl
    refine pcQ res_term_Size rfl (by simp [x_term_Size]) fun fr hl ha => ?_
    have h0 := ha 0
    clear ha
    simp [x_term_Size, tmV] at hl h0 ⊢
    simp [*]
    refine (Ends_list (Ψ := fun e fr h => e = .exit 0 ∧ look fr 3 = .int .i64 (1 + Tm.sizes kids : Nat) ∧ fr.length = 19) kids
      (fun done fr h => fr.length = 19 ∧ look fr 3 = .int .i64 (1 + Tm.sizes done : Nat) ∧ look fr 7 = sl m 4 (tmVs kids) ∧ look fr 8 = .int .i64 kids.length ∧ look fr 9 = .int .i64 done.length) ?_ ?_ _ _ ?_).mono ?_
    · rintro fr h ⟨hl, h3, h7, h8, h9⟩
      simp [x_term_Size_0, *]
    · rintro done t rest he fr h ⟨hl, h3, h7, h8, h9⟩
      have hget : nth (tmVs kids) done.length = some (tmV t) := nth_tmVs (by rw [← he]; simp)
      have hlt : done.length < kids.length := by rw [← he]; simp
      have hts : t.size ≤ Tm.sizes kids := Tm.size_le (by rw [← he]; simp)
      have hT := ih t (by omega) (by omega)
      have hlen := Tm.length_le kids
      have hsum : Tm.sizes done + (t.size + Tm.sizes rest) = Tm.sizes kids := by rw [← he, Tm.sizes_append]; rfl
      have hw1 : IntKind.i64.wrap (1 + (Tm.sizes done : Int) + (t.size : Int)) = 1 + (Tm.sizes (done ++ [t]) : Int) := by
        rw [Tm.sizes_append, wrap_id (by omega) (by omega)]
        simp only [Tm.sizes]
        omega
      have hw2 : IntKind.i64.wrap ((done.length : Int) + 1) = ((done ++ [t]).length : Nat) := by
        rw [wrap_id (by omega) (by omega)]
        simp
      obtain ⟨tk, tn, ts, tm, tl⟩ := t
      simp only [tmV] at hT hget
      simp [x_term_Size_0, *]
    · simp [*, Tm.sizes, tmVs_map]
    · rintro e fr h ⟨rfl, h3, hl⟩
      simp [*]
end Go.Abs.Q

/- Contracts: sizes of terms, the reference's; comparing strings and terms. -/
namespace Go.Abs.Q
attribute [local simp] look_set_ne look_set_eq fin tupled code_loop raw_term_Size raw_ref01_Size raw_bytealg_CompareString raw_strings_Compare raw_term_sign raw_ref01_number raw_term_Compare raw_ref01_Compare

theorem pc_refSize : ∀ (n : Nat) (t : Tm), t.size ≤ n → t.size ≤ 1099511627776 → pc Q n_ref01_Size [tmV t] = some (.int .i64 t.size) := by
  intro n
  induction n with
  | zero => intro t h; have := t.size_pos; omega
  | succ n ih =>
    intro t hn hb
    obtain ⟨k, nm, s, m, kids⟩ := t
    have hsz : Tm.size (.mk k nm s m kids) = 1 + Tm.sizes kids := rfl
    refine pcQ res_ref01_Size rfl (by simp [x_ref01_Size]) fun fr hl ha => ?_
    have h0 := ha 0
    clear ha
    simp [x_ref01_Size, tmV] at hl h0 ⊢
    simp [h0]
    refine (Ends_list (Ψ := fun e fr h => e = .exit 0 ∧ look fr 3 = .int .i64 (1 + Tm.sizes kids : Nat) ∧ fr.length = 21) kids
      (fun done fr h => fr.length = 21 ∧ look fr 1 = .ptr 0 0 ∧ h = ⟨[[.int .i64 k, .str nm, .int .i64 s, sl m 4 (tmVs kids)]], []⟩ ∧ look fr 3 = .int .i64 (1 + Tm.sizes done : Nat) ∧ look fr 4 = .int .i64 done.length) ?_ ?_ _ _ ?_).mono ?_
    · rintro fr h ⟨hl, h1, rfl, h3, h4⟩
      simp [x_ref01_Size_0, tmVs_map, *]
    · rintro done t rest he fr h ⟨hl, h1, rfl, h3, h4⟩
      have hget : nth (tmVs kids) done.length = some (tmV t) := nth_tmVs (by rw [← he]; simp)
      have hlt : done.length < kids.length := by rw [← he]; simp
      have hts : t.size ≤ Tm.sizes kids := Tm.size_le (by rw [← he]; simp)
      have hT := ih t (by omega) (by omega)
      have hlen := Tm.length_le kids
      have hsum : Tm.sizes done + (t.size + Tm.sizes rest) = Tm.sizes kids := by rw [← he, Tm.sizes_append]; rfl
      have hw1 : IntKind.i64.wrap (1 + (Tm.sizes done : Int) + (t.size : Int)) = 1 + (Tm.sizes (done ++ [t]) : Int) := by
        rw [Tm.sizes_append, wrap_id (by omega) (by omega)]
        simp only [Tm.sizes]
        omega
      have hw2 : IntKind.i64.wrap ((done.length : Int) + 1) = ((done ++ [t]).length : Nat) := by
        rw [wrap_id (by omega) (by omega)]
        simp
      obtain ⟨tk, tn, ts, tm, tl⟩ := t
      simp only [tmV] at hT hget
      simp [x_ref01_Size_0, *]
    · simp [*, Tm.sizes]
    · rintro e fr h ⟨rfl, h3, hl⟩
      simp [*]

theorem pc_strCmp (a b : ByteArray) : pc Q n_strings_Compare [.str a, .str b] = some (.int .i64 (cmpBytes a b)) := by
  refine pcQ res_strings_Compare rfl (by simp [x_strings_Compare]) fun fr hl ha => ?_
  have h0 := ha 0
  have h1 := ha 1
  clear ha
  simp [x_strings_Compare] at hl h0 h1 ⊢
  simp [*, pc_cmp]

def nz (a b : Int) : Int := if a = 0 then b else a
mutual
def cmpT : Tm → Tm → Int
  | .mk k n s _ l, .mk k' n' s' _ l' => nz (cmpI (1 + Tm.sizes l : Nat) (1 + Tm.sizes l' : Nat)) (nz (cmpI k k') (nz (cmpBytes n n') (nz (cmpI s s') (nz (cmpI l.length l'.length) (cmpTs l l')))))
def cmpTs : List Tm → List Tm → Int
  | t :: l, t' :: l' => nz (cmpT t t') (cmpTs l l')
  | _, _ => 0
end

theorem cmpI_len {a b : Nat} (h : cmpI (a : Int) (b : Int) = 0) : a = b := by
  unfold cmpI at h
  split at h
  · omega
  · split at h <;> omega
theorem cmpTs_nil (l : List Tm) : cmpTs [] l = 0 := by cases l <;> rfl

theorem pc_Compare : ∀ (n : Nat) (t t' : Tm), t.size ≤ n → t.size ≤ 1099511627776 → t'.size ≤ 1099511627776 → pc Q n_term_Compare [tmV t, tmV t'] = some (.int .i64 (cmpT t t')) := by
  intro n
  induction n with
  | zero => intro t t' h; have := t.size_pos; omega
  | succ n ih =>
    intro t t' hn hb hb'
    have hS := pc_Size _ t (Nat.le_refl _) hb
    have hS' := pc_Size _ t' (Nat.le_refl _) hb'
    obtain ⟨k, nm, s, m, l⟩ := t
    obtain ⟨k', nm', s', m', l'⟩ := t'
    have hsz : Tm.size (.mk k nm s m l) = 1 + Tm.sizes l := rfl
    have hsz' : Tm.size (.mk k' nm' s' m' l') = 1 + Tm.sizes l' := rfl
    have hlen := Tm.length_le l
    simp only [tmV, hsz, hsz'] at hS hS'
    have loop : ∀ (fr : Fr) (c : Int), fr.length = 65 → look fr 2 = .ptr 0 0 → look fr 3 = .ptr 1 0 → look fr 5 = .int .i64 c → look fr 6 = .int .i64 0 → (c = 0 → l.length = l'.length) →
        Ends (lp (evalCode (lim Q) (ctxF n_term_Compare) x_term_Compare_0) (fr, ⟨[[.int .i64 k, .str nm, .int .i64 s, sl m 4 (tmVs l)], [.int .i64 k', .str nm', .int .i64 s', sl m' 4 (tmVs l')]], []⟩))
          fun e fr' _ => e = .exit 0 ∧ fr'.length = 65 ∧ look fr' 5 = .int .i64 (nz c (cmpTs l l')) := by
      intro fr c hl h2 h3 h5 h6 hc
      refine Ends_lp (fun n fr h => ∃ i c', i + n = l.length ∧ fr.length = 65 ∧ look fr 2 = .ptr 0 0 ∧ look fr 3 = .ptr 1 0 ∧ look fr 5 = .int .i64 c' ∧ look fr 6 = .int .i64 (i : Nat) ∧ (c' = 0 → l.length = l'.length) ∧
        nz c' (cmpTs (l.drop i) (l'.drop i)) = nz c (cmpTs l l') ∧ h = ⟨[[.int .i64 k, .str nm, .int .i64 s, sl m 4 (tmVs l)], [.int .i64 k', .str nm', .int .i64 s', sl m' 4 (tmVs l')]], []⟩) ?_ l.length fr _ ⟨0, c, by omega, hl, h2, h3, h5, h6, hc, rfl, rfl⟩
      rintro n fr h ⟨i, c', hi, hl, h2, h3, h5, h6, hc', hr, rfl⟩
      by_cases hc0 : c' = 0
      · subst hc0
        have hle := hc' rfl
        by_cases hlt : i < l.length
        · have hx : nth (tmVs l) i = some (tmV l[i]) := nth_tmVs (by simp [hlt])
          have hx' : nth (tmVs l') i = some (tmV (l'[i]'(by omega))) := nth_tmVs (by simp [show i < l'.length by omega])
          have s1 := Tm.size_le (List.getElem_mem hlt)
          have s2 := Tm.size_le (List.getElem_mem (show i < l'.length by omega))
          have hT := ih l[i] (l'[i]'(by omega)) (by omega) (by omega) (by omega)
          have hw : IntKind.i64.wrap ((i : Int) + 1) = (i : Int) + 1 := wrap_id (by omega) (by omega)
          rw [List.drop_eq_getElem_cons hlt, List.drop_eq_getElem_cons (show i < l'.length by omega)] at hr
          simp only [cmpTs, nz, if_true] at hr
          generalize l[i] = t at *
          generalize l'[i]'(by omega) = t' at *
          obtain ⟨tk, tn, ts, tm, tl⟩ := t
          obtain ⟨tk', tn', ts', tm', tl'⟩ := t'
          simp only [tmV] at hT hx hx'
          clear ih hS hS' hc hsz hsz'
          simp [x_term_Compare_0, hl, h2, h3, h5, h6, hlt, hx, hx', hT, hw]
          exact ⟨n - 1, by omega, i + 1, by omega, by simp, fun _ => hle, hr⟩
        · have h0 : l.length ≤ i := by omega
          rw [List.drop_eq_nil_of_le h0, cmpTs_nil] at hr
          clear ih hS hS' hc hsz hsz' hle hc'
          simp [x_term_Compare_0, hl, h2, h3, h5, h6, hlt]
          exact hr
      · clear ih hS hS' hc hsz hsz'
        simp [x_term_Compare_0, *]
        simpa [nz, hc0] using hr
    refine pcQ res_term_Compare rfl (by simp [x_term_Compare]) fun fr hl ha => ?_
    have h0 := ha 0
    have h1 := ha 1
    clear ha ih
    simp [x_term_Compare, tmV] at hl h0 h1 ⊢
    by_cases e0 : cmpI (1 + (Tm.sizes l : Int)) (1 + (Tm.sizes l' : Int)) = 0
    · by_cases e1 : cmpI k k' = 0
      · by_cases e2 : cmpBytes nm nm' = 0
        · by_cases e3 : cmpI s s' = 0
          · by_cases e4 : cmpI (l.length : Int) (l'.length : Int) = 0
            · simp [e0, e1, e2, e3, e4, h0, h1, hl, hS, hS', pc_sign, pc_strCmp]
              refine (loop _ (0) (by simp [hl]) (by simp [hl]) (by simp [hl]) (by simp [hl]) (by simp [hl]) ?_).mono ?_
              · intro hc
                exact cmpI_len e4
              · rintro e fr h ⟨rfl, hl, h5⟩
                simp [hl, h5, cmpT, nz, e0, e1, e2, e3, e4]
            · simp [e0, e1, e2, e3, e4, h0, h1, hl, hS, hS', pc_sign, pc_strCmp]
              refine (loop _ (cmpI (l.length : Int) (l'.length : Int)) (by simp [hl]) (by simp [hl]) (by simp [hl]) (by simp [hl]) (by simp [hl]) ?_).mono ?_
              · intro hc
                exact absurd hc e4
              · rintro e fr h ⟨rfl, hl, h5⟩
                simp [hl, h5, cmpT, nz, e0, e1, e2, e3, e4]
          · simp [e0, e1, e2, e3, h0, h1, hl, hS, hS', pc_sign, pc_strCmp]
            refine (loop _ (cmpI s s') (by simp [hl]) (by simp [hl]) (by simp [hl]) (by simp [hl]) (by simp [hl]) ?_).mono ?_
            · intro hc
              exact absurd hc e3
            · rintro e fr h ⟨rfl, hl, h5⟩
              simp [hl, h5, cmpT, nz, e0, e1, e2, e3]
        · simp [e0, e1, e2, h0, h1, hl, hS, hS', pc_sign, pc_strCmp]
          refine (loop _ (cmpBytes nm nm') (by simp [hl]) (by simp [hl]) (by simp [hl]) (by simp [hl]) (by simp [hl]) ?_).mono ?_
          · intro hc
            exact absurd hc e2
          · rintro e fr h ⟨rfl, hl, h5⟩
            simp [hl, h5, cmpT, nz, e0, e1, e2]
      · simp [e0, e1, h0, h1, hl, hS, hS', pc_sign, pc_strCmp]
        refine (loop _ (cmpI k k') (by simp [hl]) (by simp [hl]) (by simp [hl]) (by simp [hl]) (by simp [hl]) ?_).mono ?_
        · intro hc
          exact absurd hc e1
        · rintro e fr h ⟨rfl, hl, h5⟩
          simp [hl, h5, cmpT, nz, e0, e1]
    · simp [e0, h0, h1, hl, hS, hS', pc_sign, pc_strCmp]
      refine (loop _ (cmpI (1 + (Tm.sizes l : Int)) (1 + (Tm.sizes l' : Int))) (by simp [hl]) (by simp [hl]) (by simp [hl]) (by simp [hl]) (by simp [hl]) ?_).mono ?_
      · intro hc
        exact absurd hc e0
      · rintro e fr h ⟨rfl, hl, h5⟩
        simp [hl, h5, cmpT, nz, e0]
end Go.Abs.Q

/- Contracts: comparing terms, the reference's. -/
namespace Go.Abs.Q
attribute [local simp] look_set_ne look_set_eq fin tupled code_loop raw_term_Size raw_ref01_Size raw_bytealg_CompareString raw_strings_Compare raw_term_sign raw_ref01_number raw_term_Compare raw_ref01_Compare

theorem pc_refCompare : ∀ (n : Nat) (t t' : Tm), t.size ≤ n → t.size ≤ 1099511627776 → t'.size ≤ 1099511627776 → pc Q n_ref01_Compare [tmV t, tmV t'] = some (.int .i64 (cmpT t t')) := by
  intro n
  induction n with
  | zero => intro t t' h; have := t.size_pos; omega
  | succ n ih =>
    intro t t' hn hb hb'
    have hS := pc_refSize _ t (Nat.le_refl _) hb
    have hS' := pc_refSize _ t' (Nat.le_refl _) hb'
    obtain ⟨k, nm, s, m, l⟩ := t
    obtain ⟨k', nm', s', m', l'⟩ := t'
    have hsz : Tm.size (.mk k nm s m l) = 1 + Tm.sizes l := rfl
    have hsz' : Tm.size (.mk k' nm' s' m' l') = 1 + Tm.sizes l' := rfl
    have hlen := Tm.length_le l
    simp only [tmV, hsz, hsz'] at hS hS'
    have loop : ∀ (fr : Fr), fr.length = 76 → look fr 2 = .ptr 0 0 → look fr 3 = .ptr 1 0 → look fr 9 = .int .i64 0 → l.length = l'.length →
        Ends (lp (evalCode (lim Q) (ctxF n_ref01_Compare) x_ref01_Compare_0) (fr, ⟨[[.int .i64 k, .str nm, .int .i64 s, sl m 4 (tmVs l)], [.int .i64 k', .str nm', .int .i64 s', sl m' 4 (tmVs l')]], []⟩))
          fun e fr' _ => fr'.length = 76 ∧ (e = .exit 0 ∧ cmpTs l l' = 0 ∨ e = .ret ∧ look fr' 4 = .int .i64 (cmpTs l l')) := by
      intro fr hl h2 h3 h9 hle
      refine Ends_lp (fun n fr h => ∃ i, i + n = l.length ∧ fr.length = 76 ∧ look fr 2 = .ptr 0 0 ∧ look fr 3 = .ptr 1 0 ∧ look fr 9 = .int .i64 (i : Nat) ∧
        cmpTs (l.drop i) (l'.drop i) = cmpTs l l' ∧ h = ⟨[[.int .i64 k, .str nm, .int .i64 s, sl m 4 (tmVs l)], [.int .i64 k', .str nm', .int .i64 s', sl m' 4 (tmVs l')]], []⟩) ?_ l.length fr _ ⟨0, by omega, hl, h2, h3, h9, rfl, rfl⟩
      rintro n fr h ⟨i, hi, hl, h2, h3, h9, hr, rfl⟩
      by_cases hlt : i < l.length
      · have hx : nth (tmVs l) i = some (tmV l[i]) := nth_tmVs (by simp [hlt])
        have hx' : nth (tmVs l') i = some (tmV (l'[i]'(by omega))) := nth_tmVs (by simp [show i < l'.length by omega])
        have s1 := Tm.size_le (List.getElem_mem hlt)
        have s2 := Tm.size_le (List.getElem_mem (show i < l'.length by omega))
        have hT := ih l[i] (l'[i]'(by omega)) (by omega) (by omega) (by omega)
        have hw : IntKind.i64.wrap ((i : Int) + 1) = (i : Int) + 1 := wrap_id (by omega) (by omega)
        rw [List.drop_eq_getElem_cons hlt, List.drop_eq_getElem_cons (show i < l'.length by omega)] at hr
        simp only [cmpTs, nz] at hr
        generalize l[i] = t at *
        generalize l'[i]'(by omega) = t' at *
        obtain ⟨tk, tn, ts, tm, tl⟩ := t
        obtain ⟨tk', tn', ts', tm', tl'⟩ := t'
        simp only [tmV] at hT hx hx'
        by_cases hc : cmpT (Tm.mk tk tn ts tm tl) (Tm.mk tk' tn' ts' tm' tl') = 0
        · rw [if_pos hc] at hr
          simp [x_ref01_Compare_0, hl, h2, h3, h9, hlt, hx, hx', hT, hw, hc]
          exact ⟨n - 1, by omega, i + 1, by omega, by simp, hr⟩
        · rw [if_neg hc] at hr
          simp [x_ref01_Compare_0, hl, h2, h3, h9, hlt, hx, hx', hT, hw, hc]
          exact hr
      · have h0 : l.length ≤ i := by omega
        rw [List.drop_eq_nil_of_le h0, cmpTs_nil] at hr
        simp [x_ref01_Compare_0, hl, h2, h3, h9, hlt]
        exact hr.symm
    refine pcQ res_ref01_Compare rfl (by simp [x_ref01_Compare]) fun fr hl ha => ?_
    have h0 := ha 0
    have h1 := ha 1
    clear ha ih
    simp [x_ref01_Compare, tmV] at hl h0 h1 ⊢
    by_cases e0 : cmpI (1 + (Tm.sizes l : Int)) (1 + (Tm.sizes l' : Int)) = 0
    · by_cases e1 : cmpI k k' = 0
      · by_cases e2 : Op.bytesLess nm.toList nm'.toList = true
        · simp [e0, e1, e2, h0, h1, hl, hS, hS', pc_number]
          simp [cmpT, nz, e0, e1, e2, cmpBytes]
        · by_cases e3 : nm.toList = nm'.toList
          · have e2' := e2
            rw [e3] at e2'
            by_cases e5 : cmpI s s' = 0
            · by_cases e4 : cmpI (l.length : Int) (l'.length : Int) = 0
              · simp [e0, e1, e2, e2', e3, e5, e4, h0, h1, hl, hS, hS', pc_number]
                refine (loop _ (by simp [hl]) (by simp [hl]) (by simp [hl]) (by simp [hl]) (cmpI_len e4)).mono ?_
                rintro e fr h ⟨hl, ⟨rfl, hz⟩ | ⟨rfl, h5⟩⟩
                · simp [hl, cmpT, nz, e0, e1, e2, e2', e3, e5, e4, cmpBytes, hz]
                · simp [hl, h5, cmpT, nz, e0, e1, e2, e2', e3, e5, e4, cmpBytes]
              · simp [e0, e1, e2, e2', e3, e5, e4, h0, h1, hl, hS, hS', pc_number]
                simp [cmpT, nz, e0, e1, e2, e2', e3, e5, e4, cmpBytes]
            · simp [e0, e1, e2, e2', e3, e5, h0, h1, hl, hS, hS', pc_number]
              simp [cmpT, nz, e0, e1, e2, e2', e3, e5, cmpBytes]
          · simp [e0, e1, e2, e3, h0, h1, hl, hS, hS', pc_number]
            simp [cmpT, nz, e0, e1, e2, e3, cmpBytes]
      · simp [e0, e1, h0, h1, hl, hS, hS', pc_number]
        simp [cmpT, nz, e0, e1, cmpBytes]
    · simp [e0, h0, h1, hl, hS, hS', pc_number]
      simp [cmpT, nz, e0, cmpBytes]
end Go.Abs.Q

/- Contracts: equality of lists of terms and of moments. -/
namespace Go.Abs.Q
attribute [local simp] look_set_ne look_set_eq fin tupled code_loop raw_term_Compare raw_ref01_Compare raw_goal_equal_1 raw_ref01_Same raw_slices_EqualFunc_Term raw_ref01_Lists

def eqT (t t' : Tm) : Bool := decide (cmpT t t' = 0)
def eqTs : List Tm → List Tm → Bool
  | [], [] => true
  | t :: l, t' :: l' => eqT t t' && eqTs l l'
  | _, _ => false
theorem eqTs_len : ∀ {l l' : List Tm}, eqTs l l' = true → l.length = l'.length
  | [], [], _ => rfl
  | [], _ :: _, h => by simp [eqTs] at h
  | _ :: _, [], h => by simp [eqTs] at h
  | _ :: _, _ :: _, h => by simp [eqTs] at h; simp [eqTs_len h.2]

theorem pc_Same (t t' : Tm) (h : t.size ≤ 1099511627776) (h' : t'.size ≤ 1099511627776) : pc Q n_ref01_Same [tmV t, tmV t'] = some (.bool (eqT t t')) := by
  have hC := pc_refCompare _ t t' (Nat.le_refl _) h h'
  refine pcQ res_ref01_Same rfl (by simp [x_ref01_Same]) fun fr hl ha => ?_
  have h0 := ha 0
  have h1 := ha 1
  clear ha h h'
  obtain ⟨tk, tn, ts, tm, tl⟩ := t
  obtain ⟨tk', tn', ts', tm', tl'⟩ := t'
  simp only [tmV] at hC
  simp [x_ref01_Same, tmV] at hl h0 h1 ⊢
  simp [h0, h1, hl, hC, eqT]

theorem pc_Lists (m m' : Bool × Bool) (l l' : List Tm) (h : Tm.sizes l ≤ 1099511627776) (h' : Tm.sizes l' ≤ 1099511627776) :
    pc Q n_ref01_Lists [sl m 4 (tmVs l), sl m' 4 (tmVs l')] = some (.bool (eqTs l l')) := by
  refine pcQ res_ref01_Lists rfl (by simp [x_ref01_Lists]) fun fr hl ha => ?_
  have h0 := ha 0
  have h1 := ha 1
  clear ha
  simp [x_ref01_Lists] at hl h0 h1 ⊢
  have hlen := Tm.length_le l
  by_cases hle : l.length = l'.length
  · have hle' : (l.length : Int) = (l'.length : Int) := by omega
    simp [h0, h1, hl, hle]
    refine (Ends_lp (Ψ := fun e fr h => fr.length = 27 ∧ (e = .exit 0 ∧ eqTs l l' = true ∨ e = .ret ∧ look fr 4 = .bool false ∧ eqTs l l' = false))
      (fun n fr h => ∃ i, i + n = l.length ∧ fr.length = 27 ∧ look fr 0 = sl m 4 (tmVs l) ∧ look fr 1 = sl m' 4 (tmVs l') ∧ look fr 5 = .int .i64 (i : Nat) ∧ eqTs (l.drop i) (l'.drop i) = eqTs l l') ?_ l.length _ _ ?_).mono ?_
    · rintro n fr h ⟨i, hi, hl, h0, h1, h5, hr⟩
      by_cases hlt : i < l.length
      · have hx : nth (tmVs l) i = some (tmV l[i]) := nth_tmVs (by simp [hlt])
        have hx' : nth (tmVs l') i = some (tmV (l'[i]'(by omega))) := nth_tmVs (by simp [show i < l'.length by omega])
        have s1 := Tm.size_le (List.getElem_mem hlt)
        have s2 := Tm.size_le (List.getElem_mem (show i < l'.length by omega))
        have hT := pc_Same l[i] (l'[i]'(by omega)) (by omega) (by omega)
        have hw : IntKind.i64.wrap ((i : Int) + 1) = (i : Int) + 1 := wrap_id (by omega) (by omega)
        rw [List.drop_eq_getElem_cons hlt, List.drop_eq_getElem_cons (show i < l'.length by omega)] at hr
        simp only [eqTs] at hr
        generalize l[i] = t at *
        generalize l'[i]'(by omega) = t' at *
        obtain ⟨tk, tn, ts, tm, tl⟩ := t
        obtain ⟨tk', tn', ts', tm', tl'⟩ := t'
        simp only [tmV] at hT hx hx'
        cases hc : eqT (Tm.mk tk tn ts tm tl) (Tm.mk tk' tn' ts' tm' tl') with
        | true =>
          rw [hc] at hT hr
          simp [x_ref01_Lists_0, hl, h0, h1, h5, hlt, hx, hx', hT, hw]
          exact ⟨n - 1, by omega, i + 1, by omega, by simp, by simpa using hr⟩
        | false =>
          rw [hc] at hT hr
          simp [x_ref01_Lists_0, hl, h0, h1, h5, hlt, hx, hx', hT, hw]
          simpa using hr.symm
      · have e0 : l.length ≤ i := by omega
        rw [List.drop_eq_nil_of_le e0, List.drop_eq_nil_of_le (by omega)] at hr
        simp [x_ref01_Lists_0, hl, h0, h5, hlt]
        exact hr.symm
    · exact ⟨0, by omega, by simp [hl], by simp [h0], by simp [h1], by simp [hl], rfl⟩
    · rintro e fr h ⟨hl, ⟨rfl, he⟩ | ⟨rfl, h6, he⟩⟩
      · simp [hl, he]
      · simp [hl, h6, he]
  · have hle' : ¬(l.length : Int) = (l'.length : Int) := by omega
    have hf : eqTs l l' = false := by
      cases hq : eqTs l l' with
      | false => rfl
      | true => exact absurd (eqTs_len hq) hle
    simp [h0, h1, hl, hle', hf]

end Go.Abs.Q

/- Contracts: small lists of terms and moments. -/
namespace Go.Abs.Q
attribute [local simp] look_set_ne look_set_eq fin tupled code_loop raw_ref01_budget raw_ref01_Few

mutual
def bud : Tm → Int → Int
  | .mk _ n _ _ l, most => if most ≤ 0 ∨ (40 : Int) < n.size then -1 else buds l (most - 1)
def buds : List Tm → Int → Int
  | [], most => most
  | t :: l, most => if bud t most < 0 then -1 else buds l (bud t most)
end
mutual
theorem bud_le : ∀ (t : Tm) (m : Int), bud t m ≤ m ∨ bud t m = -1
  | .mk _ n _ _ l, m => by
    simp only [bud]
    split
    · exact .inr rfl
    · rcases buds_le l (m - 1) with h | h
      · exact .inl (by omega)
      · exact .inr h
theorem buds_le : ∀ (l : List Tm) (m : Int), buds l m ≤ m ∨ buds l m = -1
  | [], m => .inl (Int.le_refl _)
  | t :: l, m => by
    simp only [buds]
    split
    · exact .inr rfl
    · rename_i hb
      rcases bud_le t m with h | h
      · rcases buds_le l (bud t m) with h' | h'
        · exact .inl (by omega)
        · exact .inr h'
      · omega
end

theorem pc_budget : ∀ (n : Nat) (t : Tm) (most : Int), t.size ≤ n → t.size ≤ 1099511627776 → most ≤ 9223372036854775807 → pc Q n_ref01_budget [tmV t, .int .i64 most] = some (.int .i64 (bud t most)) := by
  intro n
  induction n with
  | zero => intro t _ h; have := t.size_pos; omega
  | succ n ih =>
    intro t most hn hb hm
    obtain ⟨k, nm, s, m, kids⟩ := t
    have hsz : Tm.size (.mk k nm s m kids) = 1 + Tm.sizes kids := rfl
    have hlen := Tm.length_le kids
    refine pcQ res_ref01_budget rfl (by simp [x_ref01_budget]) fun fr hl ha => ?_
    have h0 := ha 0
    have h1 := ha 1
    clear ha
    simp [x_ref01_budget, tmV] at hl h0 h1
    by_cases h2 : most ≤ 0
    · simp [x_ref01_budget, hl, h0, h1, h2, bud]
    by_cases h3 : (40 : Int) < nm.size
    · simp [x_ref01_budget, hl, h0, h1, h2, h3, bud]
    have hw0 : IntKind.i64.wrap (most - 1) = most - 1 := wrap_id (by omega) (by omega)
    simp [x_ref01_budget, hl, h0, h1, h2, h3, hw0]
    refine (Ends_lp (Ψ := fun e fr h => fr.length = 33 ∧ (e = .exit 0 ∧ look fr 1 = .int .i64 (buds kids (most - 1)) ∨ e = .ret ∧ look fr 4 = .int .i64 (-1) ∧ buds kids (most - 1) = -1))
      (fun n fr h => ∃ i cur, i + n = kids.length ∧ fr.length = 33 ∧ cur ≤ 9223372036854775807 ∧ look fr 1 = .int .i64 cur ∧ look fr 2 = .ptr 0 0 ∧ look fr 5 = .int .i64 (i : Nat) ∧ buds (kids.drop i) cur = buds kids (most - 1) ∧
        h = ⟨[[.int .i64 k, .str nm, .int .i64 s, sl m 4 (tmVs kids)]], []⟩) ?_ kids.length _ _ ?_).mono ?_
    · rintro n fr h ⟨i, cur, hi, hl, hcur, h1, h2, h5, hr, rfl⟩
      by_cases hlt : i < kids.length
      · have hx : nth (tmVs kids) i = some (tmV kids[i]) := nth_tmVs (by simp [hlt])
        have s1 := Tm.size_le (List.getElem_mem hlt)
        have hT := ih kids[i] cur (by omega) (by omega) hcur
        have hle := bud_le kids[i] cur
        have hw : IntKind.i64.wrap ((i : Int) + 1) = (i : Int) + 1 := wrap_id (by omega) (by omega)
        rw [List.drop_eq_getElem_cons hlt] at hr
        simp only [buds] at hr
        generalize kids[i] = t at *
        obtain ⟨tk, tn, ts, tm, tl⟩ := t
        simp only [tmV] at hT hx
        by_cases hc : bud (Tm.mk tk tn ts tm tl) cur < 0
        · rw [if_pos hc] at hr
          simp [x_ref01_budget_0, hl, h1, h2, h5, hlt, hx, hT, hw, hc]
          exact hr.symm
        · rw [if_neg hc] at hr
          simp [x_ref01_budget_0, hl, h1, h2, h5, hlt, hx, hT, hw, hc]
          refine ⟨n - 1, by omega, i + 1, by omega, _, ?_, rfl, by simp, hr⟩
          omega
      · have h0 : kids.length ≤ i := by omega
        rw [List.drop_eq_nil_of_le h0] at hr
        simp only [buds] at hr
        simp [x_ref01_budget_0, hl, h1, h2, h5, hlt]
        exact hr
    · exact ⟨0, most - 1, by omega, by simp [hl], by omega, by simp [hl], by simp [hl], by simp [hl], rfl, rfl⟩
    · rintro e fr h ⟨hl, ⟨rfl, h1⟩ | ⟨rfl, h4, he⟩⟩
      · simp [hl, h1, bud, h2, h3]
      · simp [hl, h4, he, bud, h2, h3]

def fewL : List Tm → Int → Bool
  | [], _ => true
  | t :: l, most => if bud t most < 0 then false else fewL l (bud t most)
def fewT (l : List Tm) (n most : Int) : Bool := if n < l.length then false else fewL l most

theorem pc_Few (m : Bool × Bool) (l : List Tm) (q most : Int) (h : Tm.sizes l ≤ 1099511627776) (hm : most ≤ 9223372036854775807) : pc Q n_ref01_Few [sl m 4 (tmVs l), .int .i64 q, .int .i64 most] = some (.bool (fewT l q most)) := by
  have hlen := Tm.length_le l
  refine pcQ res_ref01_Few rfl (by simp [x_ref01_Few]) fun fr hl ha => ?_
  have h0 := ha 0
  have h1 := ha 1
  have h2 := ha 2
  clear ha
  simp [x_ref01_Few] at hl h0 h1 h2
  by_cases hq : q < l.length
  · simp [x_ref01_Few, hl, h0, h1, hq, fewT]
  simp [x_ref01_Few, hl, h0, h1, hq]
  refine (Ends_lp (Ψ := fun e fr h => fr.length = 26 ∧ (e = .exit 0 ∧ fewL l most = true ∨ e = .ret ∧ look fr 6 = .bool false ∧ fewL l most = false))
    (fun n fr h => ∃ i cur, i + n = l.length ∧ fr.length = 26 ∧ cur ≤ 9223372036854775807 ∧ look fr 0 = sl m 4 (tmVs l) ∧ look fr 2 = .int .i64 cur ∧ look fr 7 = .int .i64 (i : Nat) ∧ fewL (l.drop i) cur = fewL l most) ?_ l.length _ _ ?_).mono ?_
  · rintro n fr h ⟨i, cur, hi, hl, hcur, h0, h2, h7, hr⟩
    by_cases hlt : i < l.length
    · have hx : nth (tmVs l) i = some (tmV l[i]) := nth_tmVs (by simp [hlt])
      have s1 := Tm.size_le (List.getElem_mem hlt)
      have hT := pc_budget _ l[i] cur (Nat.le_refl _) (by omega) hcur
      have hle := bud_le l[i] cur
      have hw : IntKind.i64.wrap ((i : Int) + 1) = (i : Int) + 1 := wrap_id (by omega) (by omega)
      rw [List.drop_eq_getElem_cons hlt] at hr
      simp only [fewL] at hr
      generalize l[i] = t at *
      obtain ⟨tk, tn, ts, tm, tl⟩ := t
      simp only [tmV] at hT hx
      by_cases hc : bud (Tm.mk tk tn ts tm tl) cur < 0
      · rw [if_pos hc] at hr
        simp [x_ref01_Few_0, hl, h0, h2, h7, hlt, hx, hT, hw, hc]
        exact hr.symm
      · rw [if_neg hc] at hr
        simp [x_ref01_Few_0, hl, h0, h2, h7, hlt, hx, hT, hw, hc]
        refine ⟨n - 1, by omega, i + 1, by omega, _, ?_, rfl, by simp, hr⟩
        omega
    · have e0 : l.length ≤ i := by omega
      rw [List.drop_eq_nil_of_le e0] at hr
      simp only [fewL] at hr
      simp [x_ref01_Few_0, hl, h0, h7, hlt]
      exact hr.symm
  · exact ⟨0, most, by omega, by simp [hl], by omega, by simp [h0], by simp [h2], by simp [hl], rfl⟩
  · rintro e fr h ⟨hl, ⟨rfl, he⟩ | ⟨rfl, h4, he⟩⟩
    · simp [hl, he, fewT, hq]
    · simp [hl, h4, he, fewT, hq]
end Go.Abs.Q

namespace Go.Abs.Q
attribute [local simp] look_set_ne look_set_eq fin tupled code_loop

theorem slcA_sl (h : AH) (m : Bool × Bool) (sz : Nat) (hsz : 0 < sz) (xs : List AV) (lo hi : Option Int) : slcA h sz (sl m sz xs) (some lo) (some hi) (some none) =
    if 0 ≤ lo.getD 0 ∧ lo.getD 0 ≤ hi.getD xs.length ∧ hi.getD xs.length ≤ xs.length then
      some (sl (m.1 && decide (hi.getD xs.length = xs.length), m.2 || !xs.isEmpty) sz ((xs.drop (lo.getD 0).toNat).take (hi.getD xs.length - lo.getD 0).toNat), h) else none := by
  have hz : (if (xs.isEmpty && !m.2) = true then 0 else sz) = sz ∨ xs.length = 0 := by
    cases xs with
    | nil => exact .inr rfl
    | cons x xs => exact .inl rfl
  simp only [slcA, sl, sliceA]
  rw [if_pos ⟨hsz, hz⟩]
  by_cases hc : 0 ≤ lo.getD 0 ∧ lo.getD 0 ≤ hi.getD xs.length ∧ hi.getD xs.length ≤ xs.length
  · rw [if_pos hc, if_pos hc]
    have e : ((if (xs.isEmpty && !m.2) = true then 0 else sz) : Nat) = (if (((xs.drop (lo.getD 0).toNat).take (hi.getD xs.length - lo.getD 0).toNat).isEmpty && !(m.2 || !xs.isEmpty)) = true then 0 else sz) := by
      cases xs with
      | nil => simp
      | cons x xs => simp
    rw [e]
  · rw [if_neg hc, if_neg hc]
theorem slc_drop (h : AH) (m : Bool × Bool) (sz : Nat) (hsz : 0 < sz) (xs : List AV) (k : Nat) (hk : k ≤ xs.length) :
    slcA h sz (sl m sz xs) (some (some (k : Int))) (some none) (some none) = some (sl (m.1, m.2 || !xs.isEmpty) sz (xs.drop k), h) := by
  rw [slcA_sl _ _ _ hsz]
  have e : ((xs.length : Int) - (k : Int)).toNat = xs.length - k := by omega
  simp only [Option.getD_some, Option.getD_none, decide_true, Bool.and_true, Int.toNat_natCast, e]
  rw [if_pos ⟨by omega, by omega, by omega⟩, List.take_of_length_le (by simp)]
theorem slc_take (h : AH) (m : Bool × Bool) (sz : Nat) (hsz : 0 < sz) (xs : List AV) (k : Nat) (hk : k ≤ xs.length) :
    slcA h sz (sl m sz xs) (some none) (some (some (k : Int))) (some none) = some (sl (m.1 && decide (k = xs.length), m.2 || !xs.isEmpty) sz (xs.take k), h) := by
  rw [slcA_sl _ _ _ hsz]
  have e : decide ((k : Int) = (xs.length : Int)) = decide (k = xs.length) := by
    rw [Bool.eq_iff_iff]
    simp only [decide_eq_true_eq]
    omega
  simp only [Option.getD_some, Option.getD_none, Int.sub_zero, Int.toNat_natCast, e, Int.toNat_zero, List.drop_zero]
  rw [if_pos ⟨by omega, by omega, by omega⟩]

/-- The place of the first one that is so, or -1. -/
def idxFrom {α : Type} (p : α → Bool) : Nat → List α → Int
  | _, [] => -1
  | i, a :: r => if p a = true then (i : Int) else idxFrom p (i + 1) r
def idx {α : Type} (p : α → Bool) (l : List α) : Int := idxFrom p 0 l

theorem idxFrom_ge {α : Type} (p : α → Bool) : ∀ (l : List α) (i : Nat), (0 ≤ idxFrom p i l) ↔ l.any p = true
  | [], i => by simp [idxFrom]
  | a :: l, i => by
    simp only [idxFrom, List.any_cons, Bool.or_eq_true]
    by_cases h : p a = true
    · simp [h]
    · rw [if_neg h, idxFrom_ge p l (i + 1)]
      simp [h]

end Go.Abs.Q
