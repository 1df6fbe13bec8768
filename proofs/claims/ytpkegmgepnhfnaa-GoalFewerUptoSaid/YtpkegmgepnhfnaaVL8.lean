/- Contracts: copies of slices. -/
import Derived.Test.YtpkegmgepnhfnaaVL7
import Derived.Test.YtpkegmgepnhfnaaRows
import Derived.KernelRfl
/- The resolved functions are the program's. -/
namespace Go.Abs.Q
open Go.Proofs
theorem res_law27_GoalAgree : resFunc Try.prog ctxF n_law27_GoalAgree = some x_law27_GoalAgree := by kernel_rfl
theorem res_law27_GoalInject : resFunc Try.prog ctxF n_law27_GoalInject = some x_law27_GoalInject := by kernel_rfl
theorem res_law27_GoalAssigned : resFunc Try.prog ctxF n_law27_GoalAssigned = some x_law27_GoalAssigned := by kernel_rfl
theorem res_law27_GoalFewer : resFunc Try.prog ctxF n_law27_GoalFewer = some x_law27_GoalFewer := by kernel_rfl
theorem res_law27_GoalFresh : resFunc Try.prog ctxF n_law27_GoalFresh = some x_law27_GoalFresh := by kernel_rfl
theorem res_law27_GoalHonest : resFunc Try.prog ctxF n_law27_GoalHonest = some x_law27_GoalHonest := by kernel_rfl
theorem res_law27_awake : resFunc Try.prog ctxF n_law27_awake = some x_law27_awake := by kernel_rfl
theorem res_ref27_Few : resFunc Try.prog ctxF n_ref27_Few = some x_ref27_Few := by kernel_rfl
theorem res_goal_Agree : resFunc Try.prog ctxF n_goal_Agree = some x_goal_Agree := by kernel_rfl
theorem res_ref27_Agree : resFunc Try.prog ctxF n_ref27_Agree = some x_ref27_Agree := by kernel_rfl
theorem res_goal_Inject : resFunc Try.prog ctxF n_goal_Inject = some x_goal_Inject := by kernel_rfl
theorem res_ref27_Possible : resFunc Try.prog ctxF n_ref27_Possible = some x_ref27_Possible := by kernel_rfl
theorem res_ref27_CheckInject : resFunc Try.prog ctxF n_ref27_CheckInject = some x_ref27_CheckInject := by kernel_rfl
theorem res_goal_CheckInject : resFunc Try.prog ctxF n_goal_CheckInject = some x_goal_CheckInject := by kernel_rfl
theorem res_goal_Fresh : resFunc Try.prog ctxF n_goal_Fresh = some x_goal_Fresh := by kernel_rfl
theorem res_slices_Clone_int : resFunc Try.prog ctxF n_slices_Clone_int = some x_slices_Clone_int := by kernel_rfl
theorem res_ref27_Fresh : resFunc Try.prog ctxF n_ref27_Fresh = some x_ref27_Fresh := by kernel_rfl
theorem res_ref15_Few : resFunc Try.prog ctxF n_ref15_Few = some x_ref15_Few := by kernel_rfl
theorem res_goal_Honest : resFunc Try.prog ctxF n_goal_Honest = some x_goal_Honest := by kernel_rfl
theorem res_ref27_Honest : resFunc Try.prog ctxF n_ref27_Honest = some x_ref27_Honest := by kernel_rfl
theorem res_law27_moment : resFunc Try.prog ctxF n_law27_moment = some x_law27_moment := by kernel_rfl
theorem res_ref01_Few : resFunc Try.prog ctxF n_ref01_Few = some x_ref01_Few := by kernel_rfl
theorem res_goal_fits : resFunc Try.prog ctxF n_goal_fits = some x_goal_fits := by kernel_rfl
theorem res_ref27_Fits : resFunc Try.prog ctxF n_ref27_Fits = some x_ref27_Fits := by kernel_rfl
theorem res_goal_kind : resFunc Try.prog ctxF n_goal_kind = some x_goal_kind := by kernel_rfl
theorem res_goal_assigner_assign : resFunc Try.prog ctxF n_goal_assigner_assign = some x_goal_assigner_assign := by kernel_rfl
theorem res_ref27_kind : resFunc Try.prog ctxF n_ref27_kind = some x_ref27_kind := by kernel_rfl
theorem res_ref27_assign : resFunc Try.prog ctxF n_ref27_assign = some x_ref27_assign := by kernel_rfl
theorem res_slices_Contains_int : resFunc Try.prog ctxF n_slices_Contains_int = some x_slices_Contains_int := by kernel_rfl
theorem res_goal_equal : resFunc Try.prog ctxF n_goal_equal = some x_goal_equal := by kernel_rfl
theorem res_ref27_Equal : resFunc Try.prog ctxF n_ref27_Equal = some x_ref27_Equal := by kernel_rfl
theorem res_slices_ContainsFunc_string : resFunc Try.prog ctxF n_slices_ContainsFunc_string = some x_slices_ContainsFunc_string := by kernel_rfl
theorem res_goal_Honest_1 : resFunc Try.prog ctxF n_goal_Honest_1 = some x_goal_Honest_1 := by kernel_rfl
theorem res_cast_Honest : resFunc Try.prog ctxF n_cast_Honest = some x_cast_Honest := by kernel_rfl
theorem res_ref15_Honest : resFunc Try.prog ctxF n_ref15_Honest = some x_ref15_Honest := by kernel_rfl
theorem res_ref01_Atom : resFunc Try.prog ctxF n_ref01_Atom = some x_ref01_Atom := by kernel_rfl
theorem res_ref01_budget : resFunc Try.prog ctxF n_ref01_budget = some x_ref01_budget := by kernel_rfl
theorem res_slices_Index_int : resFunc Try.prog ctxF n_slices_Index_int = some x_slices_Index_int := by kernel_rfl
theorem res_slices_EqualFunc_Term : resFunc Try.prog ctxF n_slices_EqualFunc_Term = some x_slices_EqualFunc_Term := by kernel_rfl
theorem res_goal_equal_1 : resFunc Try.prog ctxF n_goal_equal_1 = some x_goal_equal_1 := by kernel_rfl
theorem res_term_Compare : resFunc Try.prog ctxF n_term_Compare = some x_term_Compare := by kernel_rfl
theorem res_ref01_Lists : resFunc Try.prog ctxF n_ref01_Lists = some x_ref01_Lists := by kernel_rfl
theorem res_slices_IndexFunc_string : resFunc Try.prog ctxF n_slices_IndexFunc_string = some x_slices_IndexFunc_string := by kernel_rfl
theorem res_cast_Valid : resFunc Try.prog ctxF n_cast_Valid = some x_cast_Valid := by kernel_rfl
theorem res_slices_Contains_string : resFunc Try.prog ctxF n_slices_Contains_string = some x_slices_Contains_string := by kernel_rfl
theorem res_ref15_Valid : resFunc Try.prog ctxF n_ref15_Valid = some x_ref15_Valid := by kernel_rfl
theorem res_ref15_find : resFunc Try.prog ctxF n_ref15_find = some x_ref15_find := by kernel_rfl
theorem res_term_sign : resFunc Try.prog ctxF n_term_sign = some x_term_sign := by kernel_rfl
theorem res_term_Size : resFunc Try.prog ctxF n_term_Size = some x_term_Size := by kernel_rfl
theorem res_strings_Compare : resFunc Try.prog ctxF n_strings_Compare = some x_strings_Compare := by kernel_rfl
theorem res_ref01_Same : resFunc Try.prog ctxF n_ref01_Same = some x_ref01_Same := by kernel_rfl
theorem res_term_Valid : resFunc Try.prog ctxF n_term_Valid = some x_term_Valid := by kernel_rfl
theorem res_cast_agent : resFunc Try.prog ctxF n_cast_agent = some x_cast_agent := by kernel_rfl
theorem res_strings_Contains : resFunc Try.prog ctxF n_strings_Contains = some x_strings_Contains := by kernel_rfl
theorem res_slices_Index_string : resFunc Try.prog ctxF n_slices_Index_string = some x_slices_Index_string := by kernel_rfl
theorem res_ref01_IsName : resFunc Try.prog ctxF n_ref01_IsName = some x_ref01_IsName := by kernel_rfl
theorem res_ref15_hash : resFunc Try.prog ctxF n_ref15_hash = some x_ref15_hash := by kernel_rfl
theorem res_ref01_Compare : resFunc Try.prog ctxF n_ref01_Compare = some x_ref01_Compare := by kernel_rfl
theorem res_term_check : resFunc Try.prog ctxF n_term_check = some x_term_check := by kernel_rfl
theorem res_strings_Index : resFunc Try.prog ctxF n_strings_Index = some x_strings_Index := by kernel_rfl
theorem res_ref01_letter : resFunc Try.prog ctxF n_ref01_letter = some x_ref01_letter := by kernel_rfl
theorem res_ref01_digit : resFunc Try.prog ctxF n_ref01_digit = some x_ref01_digit := by kernel_rfl
theorem res_ref01_number : resFunc Try.prog ctxF n_ref01_number = some x_ref01_number := by kernel_rfl
theorem res_ref01_Size : resFunc Try.prog ctxF n_ref01_Size = some x_ref01_Size := by kernel_rfl
theorem res_term_isName : resFunc Try.prog ctxF n_term_isName = some x_term_isName := by kernel_rfl
theorem res_term_part : resFunc Try.prog ctxF n_term_part = some x_term_part := by kernel_rfl
theorem res_bytealg_Cutover : resFunc Try.prog ctxF n_bytealg_Cutover = some x_bytealg_Cutover := by kernel_rfl
theorem res_bytealg_IndexRabinKarp_string : resFunc Try.prog ctxF n_bytealg_IndexRabinKarp_string = some x_bytealg_IndexRabinKarp_string := by kernel_rfl
theorem res_bytealg_hashStr_string : resFunc Try.prog ctxF n_bytealg_hashStr_string = some x_bytealg_hashStr_string := by kernel_rfl
end Go.Abs.Q

/- What holds when code ends: for loops, whose end is known only by what holds there. -/
namespace Go.Abs

/-- The code ends, so that Ψ holds. -/
def Ends (r : Option (Ex × St)) (Ψ : Ex → Fr → AH → Prop) : Prop := match r with | some (e, fr, h) => Ψ e fr h | none => False
@[congr] theorem Ends_congr {r r' : Option (Ex × St)} {Ψ : Ex → Fr → AH → Prop} (h : r = r') : Ends r Ψ = Ends r' Ψ := by rw [h]
@[simp] theorem Ends_some (e : Ex) (fr : Fr) (h : AH) (Ψ : Ex → Fr → AH → Prop) : Ends (some (e, fr, h)) Ψ = Ψ e fr h := _root_.id rfl

def SQ (O : Orc) (c : Ctx) (y : RCode) (Ψ : Ex → Fr → AH → Prop) : Ex → Fr → AH → Prop
  | .normal, fr, h => Ends (evalCode O c y (fr, h)) Ψ
  | e, fr, h => Ψ e fr h
section
variable (O : Orc) (c : Ctx) (y : RCode) (Ψ : Ex → Fr → AH → Prop)
@[simp] theorem SQ_n (fr : Fr) (h : AH) : SQ O c y Ψ .normal fr h = Ends (evalCode O c y (fr, h)) Ψ := _root_.id rfl
@[simp] theorem SQ_r (fr : Fr) (h : AH) : SQ O c y Ψ .ret fr h = Ψ .ret fr h := _root_.id rfl
@[simp] theorem SQ_e (i : Nat) (fr : Fr) (h : AH) : SQ O c y Ψ (.exit i) fr h = Ψ (.exit i) fr h := _root_.id rfl
@[simp] theorem Ends_sqn (r : Option (Ex × St)) : Ends (sqn r O c y) Ψ = Ends r (SQ O c y Ψ) := by
  cases r with
  | none => rfl
  | some x => obtain ⟨e, fr, h⟩ := x; cases e <;> rfl
end

def BL (id : Nat) (Ψ : Ex → Fr → AH → Prop) : Ex → Fr → AH → Prop
  | .exit i, fr, h => if i = id then Ψ .normal fr h else Ψ (.exit i) fr h
  | e, fr, h => Ψ e fr h
@[simp] theorem BL_n (id : Nat) (Ψ : Ex → Fr → AH → Prop) (fr : Fr) (h : AH) : BL id Ψ .normal fr h = Ψ .normal fr h := _root_.id rfl
@[simp] theorem BL_r (id : Nat) (Ψ : Ex → Fr → AH → Prop) (fr : Fr) (h : AH) : BL id Ψ .ret fr h = Ψ .ret fr h := _root_.id rfl
@[simp] theorem BL_e (id i : Nat) (Ψ : Ex → Fr → AH → Prop) (fr : Fr) (h : AH) : BL id Ψ (.exit i) fr h = if i = id then Ψ .normal fr h else Ψ (.exit i) fr h := _root_.id rfl
@[simp] theorem Ends_kbl (id : Nat) (r : Option (Ex × St)) (Ψ : Ex → Fr → AH → Prop) : Ends (kbl id r) Ψ = Ends r (BL id Ψ) := by
  cases r with
  | none => rfl
  | some x =>
    obtain ⟨e, fr, h⟩ := x
    cases e with
    | exit i =>
      by_cases hi : i = id
      · subst hi; simp [kbl, BL]
      · simp [kbl, BL, hi]
    | _ => rfl

theorem Ends.mono {r : Option (Ex × St)} {Φ Ψ : Ex → Fr → AH → Prop} (h : Ends r Φ) (k : ∀ e fr h, Φ e fr h → Ψ e fr h) : Ends r Ψ := by
  cases r with
  | none => exact h.elim
  | some x => exact k _ _ _ h

theorem Ends.elim' {r : Option (Ex × St)} {Φ : Ex → Fr → AH → Prop} (h : Ends r Φ) : ∃ e fr h', r = some (e, fr, h') ∧ Φ e fr h' := by
  cases r with
  | none => exact h.elim
  | some x => exact ⟨_, _, _, rfl, h⟩

/-- A loop, by an invariant with a number that falls. -/
theorem Ends_lp {step : St → Option (Ex × St)} {Ψ : Ex → Fr → AH → Prop} (Inv : Nat → Fr → AH → Prop)
    (H : ∀ n fr h, Inv n fr h → Ends (step (fr, h)) fun e fr' h' => (e = .normal ∧ ∃ m, m < n ∧ Inv m fr' h') ∨ (e ≠ .normal ∧ Ψ e fr' h')) :
    ∀ (n : Nat) (fr : Fr) (h : AH), Inv n fr h → Ends (lp step (fr, h)) Ψ := by
  intro n
  induction n using Nat.strongRecOn with
  | _ n ih =>
    intro fr h hi
    obtain ⟨e, fr', h', he, hp⟩ := (H n fr h hi).elim'
    rcases hp with ⟨rfl, m, hm, hi'⟩ | ⟨hne, hp⟩
    · obtain ⟨e2, fr2, h2, he2, hp2⟩ := (ih m hm fr' h' hi').elim'
      rw [lp_go he he2]
      exact hp2
    · cases e with
      | normal => exact absurd rfl hne
      | exit i => rw [lp_exit he]; exact hp
      | ret => rw [lp_ret he]; exact hp

/-- A loop over a list: what is done, what is to do. -/
theorem Ends_list {α : Type} {step : St → Option (Ex × St)} {Ψ : Ex → Fr → AH → Prop} (all : List α) (Inv : List α → Fr → AH → Prop)
    (last : ∀ fr h, Inv all fr h → Ends (step (fr, h)) fun e fr' h' => e ≠ .normal ∧ Ψ e fr' h')
    (next : ∀ done x rest, done ++ x :: rest = all → ∀ fr h, Inv done fr h → Ends (step (fr, h)) fun e fr' h' => (e = .normal ∧ Inv (done ++ [x]) fr' h') ∨ (e ≠ .normal ∧ Ψ e fr' h')) :
    ∀ (fr : Fr) (h : AH), Inv [] fr h → Ends (lp step (fr, h)) Ψ := by
  intro fr h hi
  refine Ends_lp (fun n fr h => ∃ done rest, done ++ rest = all ∧ rest.length = n ∧ Inv done fr h) (fun n fr h ⟨done, rest, he, hn, hi⟩ => ?_) all.length fr h ⟨[], all, rfl, rfl, hi⟩
  cases rest with
  | nil =>
    rw [List.append_nil] at he
    subst he
    exact (last fr h hi).mono fun e fr' h' hp => .inr hp
  | cons x rest =>
    refine (next done x rest he fr h hi).mono fun e fr' h' hp => ?_
    rcases hp with ⟨h1, h2⟩ | hp
    · exact .inl ⟨h1, rest.length, by simp at hn; omega, done ++ [x], rest, by simpa using he, rfl, h2⟩
    · exact .inr hp

/-- At a function's end. -/
def FIN (rs : List RRes) (r : AV) : Ex → Fr → AH → Prop
  | .exit _, _, _ => False
  | _, fr, h => fin rs fr h = some r
@[simp] theorem FIN_n (rs : List RRes) (r : AV) (fr : Fr) (h : AH) : FIN rs r .normal fr h = (fin rs fr h = some r) := _root_.id rfl
@[simp] theorem FIN_r (rs : List RRes) (r : AV) (fr : Fr) (h : AH) : FIN rs r .ret fr h = (fin rs fr h = some r) := _root_.id rfl

theorem pc_ends {C : Cfg} {f : FuncId} {rf : RFunc} {args : List AV} {r : AV} (hs : C.spec f = none) (hc : C.code f = some rf) (hl : args.length ≤ rf.ntmps)
    (H : ∀ fr : Fr, fr.length = rf.ntmps → (∀ i, look fr i = args.getD i undefA) → Ends (evalCode (lim C) (C.ctx f) rf.body (fr, ⟨[], []⟩)) (FIN rf.results r)) : pc C f args = some r := by
  refine pc_run hs hc hl fun fr h1 h2 => ?_
  obtain ⟨e, fr', h', he, hp⟩ := (H fr h1 h2).elim'
  rw [he]
  cases e with
  | exit i => exact hp.elim
  | normal => exact hp
  | ret => exact hp

def RFIN (rs : List RRes) (Φ : AV → AH → Prop) : Ex → Fr → AH → Prop
  | .exit _, _, _ => False
  | _, fr, h => ∃ vs, resA fr h rs = some vs ∧ Φ (tupled vs) h
@[simp] theorem RFIN_n (rs : List RRes) (Φ : AV → AH → Prop) (fr : Fr) (h : AH) : RFIN rs Φ .normal fr h = (∃ vs, resA fr h rs = some vs ∧ Φ (tupled vs) h) := _root_.id rfl
@[simp] theorem RFIN_r (rs : List RRes) (Φ : AV → AH → Prop) (fr : Fr) (h : AH) : RFIN rs Φ .ret fr h = (∃ vs, resA fr h rs = some vs ∧ Φ (tupled vs) h) := _root_.id rfl

theorem rc_ends {C : Cfg} {f : FuncId} {rf : RFunc} {args : List AV} {h : AH} {Φ : AV → AH → Prop} (hc : C.code f = some rf) (hl : args.length ≤ rf.ntmps)
    (H : ∀ fr : Fr, fr.length = rf.ntmps → (∀ i, look fr i = args.getD i undefA) → Ends (evalCode (lim C) (C.ctx f) rf.body (fr, h)) (RFIN rf.results Φ)) : ∃ v h', rc C f args h = some (v, h') ∧ Φ v h' := by
  obtain ⟨hl', hlook⟩ := look_start hl
  obtain ⟨e, fr', h', he, hp⟩ := (H _ hl' hlook).elim'
  have key : ∃ vs, resA fr' h' rf.results = some vs ∧ Φ (tupled vs) h' := by
    cases e with
    | exit i => exact hp.elim
    | normal => exact hp
    | ret => exact hp
  obtain ⟨vs, hv, hΦ⟩ := key
  refine ⟨tupled vs, h', rc_of C ?_, hΦ⟩
  unfold rawA
  simp only [hc]
  unfold evalBody
  rw [he]
  cases e with
  | exit i => exact hp.elim
  | normal => simp only [hv]; rfl
  | ret => simp only [hv]; rfl

end Go.Abs

/- The settings under which the functions are taken. -/
namespace Go.Abs.Q
open Go.Proofs

def cmpBytes (a b : ByteArray) : Int := if Op.bytesLess a.toList b.toList then -1 else if a.toList = b.toList then 0 else 1
def specCmp : List AV → Option AV
  | [.str a, .str b] => some (.int .i64 (cmpBytes a b))
  | _ => none
/-- strings.Contains, of one byte. -/
def specHas : List AV → Option AV
  | [.str a, .str b] => match b.data.toList with | [c] => some (.bool (a.data.toList.contains c)) | _ => none
  | _ => none
def specF (f : FuncId) : Option (List AV → Option AV) := if f = n_bytealg_CompareString then some specCmp else if f = n_strings_Contains then some specHas else none
noncomputable def Q : Cfg := ⟨resFunc Try.prog ctxF, ctxF, specF⟩
@[simp] theorem Q_ctx (f : FuncId) : Q.ctx f = ctxF f := _root_.id rfl
@[simp] theorem ctxF_raw (f : FuncId) : (ctxF f).raw = rawF := _root_.id rfl
@[simp] theorem ctxF_mut (f : FuncId) : (ctxF f).mutApp = mutF f := _root_.id rfl
theorem pc_cmp (a b : ByteArray) : pc Q n_bytealg_CompareString [.str a, .str b] = some (.int .i64 (cmpBytes a b)) := by
  apply pc_of
  unfold pureA
  rfl
theorem pc_has (a : ByteArray) (c : UInt8) : pc Q n_strings_Contains [.str a, .str ⟨#[c]⟩] = some (.bool (a.data.toList.contains c)) := by
  apply pc_of
  unfold pureA
  rfl
theorem pcQ {f : FuncId} {rf : RFunc} {args : List AV} {r : AV} (hc : resFunc Try.prog ctxF f = some rf) (hs : specF f = none) (hl : args.length ≤ rf.ntmps)
    (H : ∀ fr : Fr, fr.length = rf.ntmps → (∀ i, look fr i = args.getD i undefA) → Ends (evalCode (lim Q) (ctxF f) rf.body (fr, ⟨[], []⟩)) (FIN rf.results r)) : pc Q f args = some r :=
  pc_ends (C := Q) hs hc hl H
theorem rcQ {f : FuncId} {rf : RFunc} {args : List AV} {h : AH} {Φ : AV → AH → Prop} (hc : resFunc Try.prog ctxF f = some rf) (hl : args.length ≤ rf.ntmps)
    (H : ∀ fr : Fr, fr.length = rf.ntmps → (∀ i, look fr i = args.getD i undefA) → Ends (evalCode (lim Q) (ctxF f) rf.body (fr, h)) (RFIN rf.results Φ)) : ∃ v h', rc Q f args h = some (v, h') ∧ Φ v h' :=
  rc_ends (C := Q) hc hl H
end Go.Abs.Q

/- Contracts: comparing numbers, sizes of terms. -/
namespace Go.Abs.Q
attribute [local simp] look_set_ne look_set_eq fin tupled code_loop

def cmpI (a b : Int) : Int := if a < b then -1 else if b < a then 1 else 0

theorem pc_sign (a b : Int) : pc Q n_term_sign [.int .i64 a, .int .i64 b] = some (.int .i64 (cmpI a b)) := by
  refine pcQ res_term_sign rfl (by simp [x_term_sign]) fun fr hl ha => ?_
  have h0 := ha 0
  have h1 := ha 1
  simp [x_term_sign] at hl h0 h1 ⊢
  by_cases h : a < b
  · simp [*, cmpI]
  · by_cases h' : b < a <;> simp [*, cmpI]

theorem pc_number (a b : Int) : pc Q n_ref01_number [.int .i64 a, .int .i64 b] = some (.int .i64 (cmpI a b)) := by
  refine pcQ res_ref01_number rfl (by simp [x_ref01_number]) fun fr hl ha => ?_
  have h0 := ha 0
  have h1 := ha 1
  simp [x_ref01_number] at hl h0 h1 ⊢
  by_cases h : a < b
  · simp [*, cmpI]
  · by_cases h' : b < a <;> simp [*, cmpI]
end Go.Abs.Q

/- Contracts: sizes of terms. -/
namespace Go.Abs.Q
attribute [local simp] look_set_ne look_set_eq fin tupled code_loop raw_term_Size raw_ref01_Size

theorem pc_Size : ∀ (n : Nat) (t : Tm), t.size ≤ n → t.size ≤ 1099511627776 → pc Q n_term_Size [tmV t] = some (.int .i64 t.size) := by
  intro n
  induction n with
  | zero => intro t h; have := t.size_pos; omega
  | succ n ih =>
    intro t hn hb
    obtain ⟨k, nm, s, m, kids⟩ := t
    have hsz : Tm.size (.mk k nm s m kids) = 1 + Tm.sizes kids := rfl
    refine pcQ res_term_Size rfl (by simp [x_term_Size]) fun fr hl ha => ?_
    have h0 := ha 0
    clear ha
    simp [x_term_Size, tmV] at hl h0 ⊢
    simp [*]
    refine (Ends_list (Ψ := fun e fr h => e = .exit 0 ∧ look fr 3 = .int .i64 (1 + Tm.sizes kids : Nat) ∧ fr.length = 19) kids
      (fun done fr h => fr.length = 19 ∧ look fr 3 = .int .i64 (1 + Tm.sizes done : Nat) ∧ look fr 7 = sl m 4 (tmVs kids) ∧ look fr 8 = .int .i64 kids.length ∧ look fr 9 = .int .i64 done.length) ?_ ?_ _ _ ?_).mono ?_
    · rintro fr h ⟨hl, h3, h7, h8, h9⟩
      simp [x_term_Size_0, *]
    · rintro done t rest he fr h ⟨hl, h3, h7, h8, h9⟩
      have hget : nth (tmVs kids) done.length = some (tmV t) := nth_tmVs (by rw [← he]; simp)
      have hlt : done.length < kids.length := by rw [← he]; simp
      have hts : t.size ≤ Tm.sizes kids := Tm.size_le (by rw [← he]; simp)
      have hT := ih t (by omega) (by omega)
      have hlen := Tm.length_le kids
      have hsum : Tm.sizes done + (t.size + Tm.sizes rest) = Tm.sizes kids := by rw [← he, Tm.sizes_append]; rfl
      have hw1 : IntKind.i64.wrap (1 + (Tm.sizes done : Int) + (t.size : Int)) = 1 + (Tm.sizes (done ++ [t]) : Int) := by
        rw [Tm.sizes_append, wrap_id (by omega) (by omega)]
        simp only [Tm.sizes]
        omega
      have hw2 : IntKind.i64.wrap ((done.length : Int) + 1) = ((done ++ [t]).length : Nat) := by
        rw [wrap_id (by omega) (by omega)]
        simp
      obtain ⟨tk, tn, ts, tm, tl⟩ := t
      simp only [tmV] at hT hget
      simp [x_term_Size_0, *]
    · simp [*, Tm.sizes, tmVs_map]
    · rintro e fr h ⟨rfl, h3, hl⟩
      simp [*]
end Go.Abs.Q

/- Contracts: sizes of terms, the reference's; comparing strings and terms. -/
namespace Go.Abs.Q
attribute [local simp] look_set_ne look_set_eq fin tupled code_loop raw_term_Size raw_ref01_Size raw_bytealg_CompareString raw_strings_Compare raw_term_sign raw_ref01_number raw_term_Compare raw_ref01_Compare

theorem pc_refSize : ∀ (n : Nat) (t : Tm), t.size ≤ n → t.size ≤ 1099511627776 → pc Q n_ref01_Size [tmV t] = some (.int .i64 t.size) := by
  intro n
  induction n with
  | zero => intro t h; have := t.size_pos; omega
  | succ n ih =>
    intro t hn hb
    obtain ⟨k, nm, s, m, kids⟩ := t
    have hsz : Tm.size (.mk k nm s m kids) = 1 + Tm.sizes kids := rfl
    refine pcQ res_ref01_Size rfl (by simp [x_ref01_Size]) fun fr hl ha => ?_
    have h0 := ha 0
    clear ha
    simp [x_ref01_Size, tmV] at hl h0 ⊢
    simp [h0]
    refine (Ends_list (Ψ := fun e fr h => e = .exit 0 ∧ look fr 3 = .int .i64 (1 + Tm.sizes kids : Nat) ∧ fr.length = 21) kids
      (fun done fr h => fr.length = 21 ∧ look fr 1 = .ptr 0 0 ∧ h = ⟨[[.int .i64 k, .str nm, .int .i64 s, sl m 4 (tmVs kids)]], []⟩ ∧ look fr 3 = .int .i64 (1 + Tm.sizes done : Nat) ∧ look fr 4 = .int .i64 done.length) ?_ ?_ _ _ ?_).mono ?_
    · rintro fr h ⟨hl, h1, rfl, h3, h4⟩
      simp [x_ref01_Size_0, tmVs_map, *]
    · rintro done t rest he fr h ⟨hl, h1, rfl, h3, h4⟩
      have hget : nth (tmVs kids) done.length = some (tmV t) := nth_tmVs (by rw [← he]; simp)
      have hlt : done.length < kids.length := by rw [← he]; simp
      have hts : t.size ≤ Tm.sizes kids := Tm.size_le (by rw [← he]; simp)
      have hT := ih t (by omega) (by omega)
      have hlen := Tm.length_le kids
      have hsum : Tm.sizes done + (t.size + Tm.sizes rest) = Tm.sizes kids := by rw [← he, Tm.sizes_append]; rfl
      have hw1 : IntKind.i64.wrap (1 + (Tm.sizes done : Int) + (t.size : Int)) = 1 + (Tm.sizes (done ++ [t]) : Int) := by
        rw [Tm.sizes_append, wrap_id (by omega) (by omega)]
        simp only [Tm.sizes]
        omega
      have hw2 : IntKind.i64.wrap ((done.length : Int) + 1) = ((done ++ [t]).length : Nat) := by
        rw [wrap_id (by omega) (by omega)]
        simp
      obtain ⟨tk, tn, ts, tm, tl⟩ := t
      simp only [tmV] at hT hget
      simp [x_ref01_Size_0, *]
    · simp [*, Tm.sizes]
    · rintro e fr h ⟨rfl, h3, hl⟩
      simp [*]

theorem pc_strCmp (a b : ByteArray) : pc Q n_strings_Compare [.str a, .str b] = some (.int .i64 (cmpBytes a b)) := by
  refine pcQ res_strings_Compare rfl (by simp [x_strings_Compare]) fun fr hl ha => ?_
  have h0 := ha 0
  have h1 := ha 1
  clear ha
  simp [x_strings_Compare] at hl h0 h1 ⊢
  simp [*, pc_cmp]

def nz (a b : Int) : Int := if a = 0 then b else a
mutual
def cmpT : Tm → Tm → Int
  | .mk k n s _ l, .mk k' n' s' _ l' => nz (cmpI (1 + Tm.sizes l : Nat) (1 + Tm.sizes l' : Nat)) (nz (cmpI k k') (nz (cmpBytes n n') (nz (cmpI s s') (nz (cmpI l.length l'.length) (cmpTs l l')))))
def cmpTs : List Tm → List Tm → Int
  | t :: l, t' :: l' => nz (cmpT t t') (cmpTs l l')
  | _, _ => 0
end

theorem cmpI_len {a b : Nat} (h : cmpI (a : Int) (b : Int) = 0) : a = b := by
  unfold cmpI at h
  split at h
  · omega
  · split at h <;> omega
theorem cmpTs_nil (l : List Tm) : cmpTs [] l = 0 := by cases l <;> rfl

theorem pc_Compare : ∀ (n : Nat) (t t' : Tm), t.size ≤ n → t.size ≤ 1099511627776 → t'.size ≤ 1099511627776 → pc Q n_term_Compare [tmV t, tmV t'] = some (.int .i64 (cmpT t t')) := by
  intro n
  induction n with
  | zero => intro t t' h; have := t.size_pos; omega
  | succ n ih =>
    intro t t' hn hb hb'
    have hS := pc_Size _ t (Nat.le_refl _) hb
    have hS' := pc_Size _ t' (Nat.le_refl _) hb'
    obtain ⟨k, nm, s, m, l⟩ := t
    obtain ⟨k', nm', s', m', l'⟩ := t'
    have hsz : Tm.size (.mk k nm s m l) = 1 + Tm.sizes l := rfl
    have hsz' : Tm.size (.mk k' nm' s' m' l') = 1 + Tm.sizes l' := rfl
    have hlen := Tm.length_le l
    simp only [tmV, hsz, hsz'] at hS hS'
    have loop : ∀ (fr : Fr) (c : Int), fr.length = 65 → look fr 2 = .ptr 0 0 → look fr 3 = .ptr 1 0 → look fr 5 = .int .i64 c → look fr 6 = .int .i64 0 → (c = 0 → l.length = l'.length) →
        Ends (lp (evalCode (lim Q) (ctxF n_term_Compare) x_term_Compare_0) (fr, ⟨[[.int .i64 k, .str nm, .int .i64 s, sl m 4 (tmVs l)], [.int .i64 k', .str nm', .int .i64 s', sl m' 4 (tmVs l')]], []⟩))
          fun e fr' _ => e = .exit 0 ∧ fr'.length = 65 ∧ look fr' 5 = .int .i64 (nz c (cmpTs l l')) := by
      intro fr c hl h2 h3 h5 h6 hc
      refine Ends_lp (fun n fr h => ∃ i c', i + n = l.length ∧ fr.length = 65 ∧ look fr 2 = .ptr 0 0 ∧ look fr 3 = .ptr 1 0 ∧ look fr 5 = .int .i64 c' ∧ look fr 6 = .int .i64 (i : Nat) ∧ (c' = 0 → l.length = l'.length) ∧
        nz c' (cmpTs (l.drop i) (l'.drop i)) = nz c (cmpTs l l') ∧ h = ⟨[[.int .i64 k, .str nm, .int .i64 s, sl m 4 (tmVs l)], [.int .i64 k', .str nm', .int .i64 s', sl m' 4 (tmVs l')]], []⟩) ?_ l.length fr _ ⟨0, c, by omega, hl, h2, h3, h5, h6, hc, rfl, rfl⟩
      rintro n fr h ⟨i, c', hi, hl, h2, h3, h5, h6, hc', hr, rfl⟩
      by_cases hc0 : c' = 0
      · subst hc0
        have hle := hc' rfl
        by_cases hlt : i < l.length
        · have hx : nth (tmVs l) i = some (tmV l[i]) := nth_tmVs (by simp [hlt])
          have hx' : nth (tmVs l') i = some (tmV (l'[i]'(by omega))) := nth_tmVs (by simp [show i < l'.length by omega])
          have s1 := Tm.size_le (List.getElem_mem hlt)
          have s2 := Tm.size_le (List.getElem_mem (show i < l'.length by omega))
          have hT := ih l[i] (l'[i]'(by omega)) (by omega) (by omega) (by omega)
          have hw : IntKind.i64.wrap ((i : Int) + 1) = (i : Int) + 1 := wrap_id (by omega) (by omega)
          rw [List.drop_eq_getElem_cons hlt, List.drop_eq_getElem_cons (show i < l'.length by omega)] at hr
          simp only [cmpTs, nz, if_true] at hr
          generalize l[i] = t at *
          generalize l'[i]'(by omega) = t' at *
          obtain ⟨tk, tn, ts, tm, tl⟩ := t
          obtain ⟨tk', tn', ts', tm', tl'⟩ := t'
          simp only [tmV] at hT hx hx'
          clear ih hS hS' hc hsz hsz'
          simp [x_term_Compare_0, hl, h2, h3, h5, h6, hlt, hx, hx', hT, hw]
          exact ⟨n - 1, by omega, i + 1, by omega, by simp, fun _ => hle, hr⟩
        · have h0 : l.length ≤ i := by omega
          rw [List.drop_eq_nil_of_le h0, cmpTs_nil] at hr
          clear ih hS hS' hc hsz hsz' hle hc'
          simp [x_term_Compare_0, hl, h2, h3, h5, h6, hlt]
          exact hr
      · clear ih hS hS' hc hsz hsz'
        simp [x_term_Compare_0, *]
        simpa [nz, hc0] using hr
    refine pcQ res_term_Compare rfl (by simp [x_term_Compare]) fun fr hl ha => ?_
    have h0 := ha 0
    have h1 := ha 1
    clear ha ih
    simp [x_term_Compare, tmV] at hl h0 h1 ⊢
    by_cases e0 : cmpI (1 + (Tm.sizes l : Int)) (1 + (Tm.sizes l' : Int)) = 0
    · by_cases e1 : cmpI k k' = 0
      · by_cases e2 : cmpBytes nm nm' = 0
        · by_cases e3 : cmpI s s' = 0
          · by_cases e4 : cmpI (l.length : Int) (l'.length : Int) = 0
            · simp [e0, e1, e2, e3, e4, h0, h1, hl, hS, hS', pc_sign, pc_strCmp]
              refine (loop _ (0) (by simp [hl]) (by simp [hl]) (by simp [hl]) (by simp [hl]) (by simp [hl]) ?_).mono ?_
              · intro hc
                exact cmpI_len e4
              · rintro e fr h ⟨rfl, hl, h5⟩
                simp [hl, h5, cmpT, nz, e0, e1, e2, e3, e4]
            · simp [e0, e1, e2, e3, e4, h0, h1, hl, hS, hS', pc_sign, pc_strCmp]
              refine (loop _ (cmpI (l.length : Int) (l'.length : Int)) (by simp [hl]) (by simp [hl]) (by simp [hl]) (by simp [hl]) (by simp [hl]) ?_).mono ?_
              · intro hc
                exact absurd hc e4
              · rintro e fr h ⟨rfl, hl, h5⟩
                simp [hl, h5, cmpT, nz, e0, e1, e2, e3, e4]
          · simp [e0, e1, e2, e3, h0, h1, hl, hS, hS', pc_sign, pc_strCmp]
            refine (loop _ (cmpI s s') (by simp [hl]) (by simp [hl]) (by simp [hl]) (by simp [hl]) (by simp [hl]) ?_).mono ?_
            · intro hc
              exact absurd hc e3
            · rintro e fr h ⟨rfl, hl, h5⟩
              simp [hl, h5, cmpT, nz, e0, e1, e2, e3]
        · simp [e0, e1, e2, h0, h1, hl, hS, hS', pc_sign, pc_strCmp]
          refine (loop _ (cmpBytes nm nm') (by simp [hl]) (by simp [hl]) (by simp [hl]) (by simp [hl]) (by simp [hl]) ?_).mono ?_
          · intro hc
            exact absurd hc e2
          · rintro e fr h ⟨rfl, hl, h5⟩
            simp [hl, h5, cmpT, nz, e0, e1, e2]
      · simp [e0, e1, h0, h1, hl, hS, hS', pc_sign, pc_strCmp]
        refine (loop _ (cmpI k k') (by simp [hl]) (by simp [hl]) (by simp [hl]) (by simp [hl]) (by simp [hl]) ?_).mono ?_
        · intro hc
          exact absurd hc e1
        · rintro e fr h ⟨rfl, hl, h5⟩
          simp [hl, h5, cmpT, nz, e0, e1]
    · simp [e0, h0, h1, hl, hS, hS', pc_sign, pc_strCmp]
      refine (loop _ (cmpI (1 + (Tm.sizes l : Int)) (1 + (Tm.sizes l' : Int))) (by simp [hl]) (by simp [hl]) (by simp [hl]) (by simp [hl]) (by simp [hl]) ?_).mono ?_
      · intro hc
        exact absurd hc e0
      · rintro e fr h ⟨rfl, hl, h5⟩
        simp [hl, h5, cmpT, nz, e0]
end Go.Abs.Q

/- Contracts: comparing terms, the reference's. -/
namespace Go.Abs.Q
attribute [local simp] look_set_ne look_set_eq fin tupled code_loop raw_term_Size raw_ref01_Size raw_bytealg_CompareString raw_strings_Compare raw_term_sign raw_ref01_number raw_term_Compare raw_ref01_Compare

theorem pc_refCompare : ∀ (n : Nat) (t t' : Tm), t.size ≤ n → t.size ≤ 1099511627776 → t'.size ≤ 1099511627776 → pc Q n_ref01_Compare [tmV t, tmV t'] = some (.int .i64 (cmpT t t')) := by
  intro n
  induction n with
  | zero => intro t t' h; have := t.size_pos; omega
  | succ n ih =>
    intro t t' hn hb hb'
    have hS := pc_refSize _ t (Nat.le_refl _) hb
    have hS' := pc_refSize _ t' (Nat.le_refl _) hb'
    obtain ⟨k, nm, s, m, l⟩ := t
    obtain ⟨k', nm', s', m', l'⟩ := t'
    have hsz : Tm.size (.mk k nm s m l) = 1 + Tm.sizes l := rfl
    have hsz' : Tm.size (.mk k' nm' s' m' l') = 1 + Tm.sizes l' := rfl
    have hlen := Tm.length_le l
    simp only [tmV, hsz, hsz'] at hS hS'
    have loop : ∀ (fr : Fr), fr.length = 76 → look fr 2 = .ptr 0 0 → look fr 3 = .ptr 1 0 → look fr 9 = .int .i64 0 → l.length = l'.length →
        Ends (lp (evalCode (lim Q) (ctxF n_ref01_Compare) x_ref01_Compare_0) (fr, ⟨[[.int .i64 k, .str nm, .int .i64 s, sl m 4 (tmVs l)], [.int .i64 k', .str nm', .int .i64 s', sl m' 4 (tmVs l')]], []⟩))
          fun e fr' _ => fr'.length = 76 ∧ (e = .exit 0 ∧ cmpTs l l' = 0 ∨ e = .ret ∧ look fr' 4 = .int .i64 (cmpTs l l')) := by
      intro fr hl h2 h3 h9 hle
      refine Ends_lp (fun n fr h => ∃ i, i + n = l.length ∧ fr.length = 76 ∧ look fr 2 = .ptr 0 0 ∧ look fr 3 = .ptr 1 0 ∧ look fr 9 = .int .i64 (i : Nat) ∧
        cmpTs (l.drop i) (l'.drop i) = cmpTs l l' ∧ h = ⟨[[.int .i64 k, .str nm, .int .i64 s, sl m 4 (tmVs l)], [.int .i64 k', .str nm', .int .i64 s', sl m' 4 (tmVs l')]], []⟩) ?_ l.length fr _ ⟨0, by omega, hl, h2, h3, h9, rfl, rfl⟩
      rintro n fr h ⟨i, hi, hl, h2, h3, h9, hr, rfl⟩
      by_cases hlt : i < l.length
      · have hx : nth (tmVs l) i = some (tmV l[i]) := nth_tmVs (by simp [hlt])
        have hx' : nth (tmVs l') i = some (tmV (l'[i]'(by omega))) := nth_tmVs (by simp [show i < l'.length by omega])
        have s1 := Tm.size_le (List.getElem_mem hlt)
        have s2 := Tm.size_le (List.getElem_mem (show i < l'.length by omega))
        have hT := ih l[i] (l'[i]'(by omega)) (by omega) (by omega) (by omega)
        have hw : IntKind.i64.wrap ((i : Int) + 1) = (i : Int) + 1 := wrap_id (by omega) (by omega)
        rw [List.drop_eq_getElem_cons hlt, List.drop_eq_getElem_cons (show i < l'.length by omega)] at hr
        simp only [cmpTs, nz] at hr
        generalize l[i] = t at *
        generalize l'[i]'(by omega) = t' at *
        obtain ⟨tk, tn, ts, tm, tl⟩ := t
        obtain ⟨tk', tn', ts', tm', tl'⟩ := t'
        simp only [tmV] at hT hx hx'
        by_cases hc : cmpT (Tm.mk tk tn ts tm tl) (Tm.mk tk' tn' ts' tm' tl') = 0
        · rw [if_pos hc] at hr
          simp [x_ref01_Compare_0, hl, h2, h3, h9, hlt, hx, hx', hT, hw, hc]
          exact ⟨n - 1, by omega, i + 1, by omega, by simp, hr⟩
        · rw [if_neg hc] at hr
          simp [x_ref01_Compare_0, hl, h2, h3, h9, hlt, hx, hx', hT, hw, hc]
          exact hr
      · have h0 : l.length ≤ i := by omega
        rw [List.drop_eq_nil_of_le h0, cmpTs_nil] at hr
        simp [x_ref01_Compare_0, hl, h2, h3, h9, hlt]
        exact hr.symm
    refine pcQ res_ref01_Compare rfl (by simp [x_ref01_Compare]) fun fr hl ha => ?_
    have h0 := ha 0
    have h1 := ha 1
    clear ha ih
    simp [x_ref01_Compare, tmV] at hl h0 h1 ⊢
    by_cases e0 : cmpI (1 + (Tm.sizes l : Int)) (1 + (Tm.sizes l' : Int)) = 0
    · by_cases e1 : cmpI k k' = 0
      · by_cases e2 : Op.bytesLess nm.toList nm'.toList = true
        · simp [e0, e1, e2, h0, h1, hl, hS, hS', pc_number]
          simp [cmpT, nz, e0, e1, e2, cmpBytes]
        · by_cases e3 : nm.toList = nm'.toList
          · have e2' := e2
            rw [e3] at e2'
            by_cases e5 : cmpI s s' = 0
            · by_cases e4 : cmpI (l.length : Int) (l'.length : Int) = 0
              · simp [e0, e1, e2, e2', e3, e5, e4, h0, h1, hl, hS, hS', pc_number]
                refine (loop _ (by simp [hl]) (by simp [hl]) (by simp [hl]) (by simp [hl]) (cmpI_len e4)).mono ?_
                rintro e fr h ⟨hl, ⟨rfl, hz⟩ | ⟨rfl, h5⟩⟩
                · simp [hl, cmpT, nz, e0, e1, e2, e2', e3, e5, e4, cmpBytes, hz]
                · simp [hl, h5, cmpT, nz, e0, e1, e2, e2', e3, e5, e4, cmpBytes]
              · simp [e0, e1, e2, e2', e3, e5, e4, h0, h1, hl, hS, hS', pc_number]
                simp [cmpT, nz, e0, e1, e2, e2', e3, e5, e4, cmpBytes]
            · simp [e0, e1, e2, e2', e3, e5, h0, h1, hl, hS, hS', pc_number]
              simp [cmpT, nz, e0, e1, e2, e2', e3, e5, cmpBytes]
          · simp [e0, e1, e2, e3, h0, h1, hl, hS, hS', pc_number]
            simp [cmpT, nz, e0, e1, e2, e3, cmpBytes]
      · simp [e0, e1, h0, h1, hl, hS, hS', pc_number]
        simp [cmpT, nz, e0, e1, cmpBytes]
    · simp [e0, h0, h1, hl, hS, hS', pc_number]
      simp [cmpT, nz, e0, cmpBytes]
end Go.Abs.Q

/- Contracts: equality of lists of terms and of moments. -/
namespace Go.Abs.Q
attribute [local simp] look_set_ne look_set_eq fin tupled code_loop raw_term_Compare raw_ref01_Compare raw_goal_equal_1 raw_ref01_Same raw_slices_EqualFunc_Term raw_ref01_Lists

def eqT (t t' : Tm) : Bool := decide (cmpT t t' = 0)
def eqTs : List Tm → List Tm → Bool
  | [], [] => true
  | t :: l, t' :: l' => eqT t t' && eqTs l l'
  | _, _ => false
theorem eqTs_len : ∀ {l l' : List Tm}, eqTs l l' = true → l.length = l'.length
  | [], [], _ => rfl
  | [], _ :: _, h => by simp [eqTs] at h
  | _ :: _, [], h => by simp [eqTs] at h
  | _ :: _, _ :: _, h => by simp [eqTs] at h; simp [eqTs_len h.2]

theorem pc_equal1 (t t' : Tm) (h : t.size ≤ 1099511627776) (h' : t'.size ≤ 1099511627776) : pc Q n_goal_equal_1 [tmV t, tmV t'] = some (.bool (eqT t t')) := by
  have hC := pc_Compare _ t t' (Nat.le_refl _) h h'
  refine pcQ res_goal_equal_1 rfl (by simp [x_goal_equal_1]) fun fr hl ha => ?_
  have h0 := ha 0
  have h1 := ha 1
  clear ha h h'
  obtain ⟨tk, tn, ts, tm, tl⟩ := t
  obtain ⟨tk', tn', ts', tm', tl'⟩ := t'
  simp only [tmV] at hC
  simp [x_goal_equal_1, tmV] at hl h0 h1 ⊢
  simp [h0, h1, hl, hC, eqT]

theorem pc_Same (t t' : Tm) (h : t.size ≤ 1099511627776) (h' : t'.size ≤ 1099511627776) : pc Q n_ref01_Same [tmV t, tmV t'] = some (.bool (eqT t t')) := by
  have hC := pc_refCompare _ t t' (Nat.le_refl _) h h'
  refine pcQ res_ref01_Same rfl (by simp [x_ref01_Same]) fun fr hl ha => ?_
  have h0 := ha 0
  have h1 := ha 1
  clear ha h h'
  obtain ⟨tk, tn, ts, tm, tl⟩ := t
  obtain ⟨tk', tn', ts', tm', tl'⟩ := t'
  simp only [tmV] at hC
  simp [x_ref01_Same, tmV] at hl h0 h1 ⊢
  simp [h0, h1, hl, hC, eqT]

theorem pc_EqualFunc (m m' : Bool × Bool) (l l' : List Tm) (h : Tm.sizes l ≤ 1099511627776) (h' : Tm.sizes l' ≤ 1099511627776) :
    pc Q n_slices_EqualFunc_Term [sl m 4 (tmVs l), sl m' 4 (tmVs l'), .fn n_goal_equal_1 []] = some (.bool (eqTs l l')) := by
  refine pcQ res_slices_EqualFunc_Term rfl (by simp [x_slices_EqualFunc_Term]) fun fr hl ha => ?_
  have h0 := ha 0
  have h1 := ha 1
  have h2 := ha 2
  clear ha
  simp [x_slices_EqualFunc_Term] at hl h0 h1 h2 ⊢
  have hlen := Tm.length_le l
  by_cases hle : l.length = l'.length
  · have hle' : (l.length : Int) = (l'.length : Int) := by omega
    simp [h0, h1, hl, hle]
    refine (Ends_lp (Ψ := fun e fr h => fr.length = 32 ∧ (e = .exit 0 ∧ eqTs l l' = true ∨ e = .ret ∧ look fr 6 = .bool false ∧ eqTs l l' = false))
      (fun n fr h => ∃ i, i + n = l.length ∧ fr.length = 32 ∧ look fr 1 = sl m' 4 (tmVs l') ∧ look fr 2 = .fn n_goal_equal_1 [] ∧ look fr 15 = sl m 4 (tmVs l) ∧ look fr 16 = .int .i64 l.length ∧ look fr 17 = .int .i64 (i : Nat) ∧ eqTs (l.drop i) (l'.drop i) = eqTs l l') ?_ l.length _ _ ?_).mono ?_
    · rintro n fr h ⟨i, hi, hl, h1, h2, h15, h16, h17, hr⟩
      by_cases hlt : i < l.length
      · have hx : nth (tmVs l) i = some (tmV l[i]) := nth_tmVs (by simp [hlt])
        have hx' : nth (tmVs l') i = some (tmV (l'[i]'(by omega))) := nth_tmVs (by simp [show i < l'.length by omega])
        have s1 := Tm.size_le (List.getElem_mem hlt)
        have s2 := Tm.size_le (List.getElem_mem (show i < l'.length by omega))
        have hT := pc_equal1 l[i] (l'[i]'(by omega)) (by omega) (by omega)
        have hw : IntKind.i64.wrap ((i : Int) + 1) = (i : Int) + 1 := wrap_id (by omega) (by omega)
        rw [List.drop_eq_getElem_cons hlt, List.drop_eq_getElem_cons (show i < l'.length by omega)] at hr
        simp only [eqTs] at hr
        generalize l[i] = t at *
        generalize l'[i]'(by omega) = t' at *
        obtain ⟨tk, tn, ts, tm, tl⟩ := t
        obtain ⟨tk', tn', ts', tm', tl'⟩ := t'
        simp only [tmV] at hT hx hx'
        cases hc : eqT (Tm.mk tk tn ts tm tl) (Tm.mk tk' tn' ts' tm' tl') with
        | true =>
          rw [hc] at hT hr
          simp [x_slices_EqualFunc_Term_0, hl, h1, h2, h15, h16, h17, hlt, hx, hx', hT, hw]
          exact ⟨n - 1, by omega, i + 1, by omega, by simp, by simpa using hr⟩
        | false =>
          rw [hc] at hT hr
          simp [x_slices_EqualFunc_Term_0, hl, h1, h2, h15, h16, h17, hlt, hx, hx', hT, hw]
          simpa using hr.symm
      · have e0 : l.length ≤ i := by omega
        rw [List.drop_eq_nil_of_le e0, List.drop_eq_nil_of_le (by omega)] at hr
        simp [x_slices_EqualFunc_Term_0, hl, h16, h17, hlt]
        exact hr.symm
    · exact ⟨0, by omega, by simp [hl], by simp [h1], by simp [h2], by simp [hl], by simp [hl, hle], by simp [hl], rfl⟩
    · rintro e fr h ⟨hl, ⟨rfl, he⟩ | ⟨rfl, h6, he⟩⟩
      · simp [hl, he]
      · simp [hl, h6, he]
  · have hle' : ¬(l.length : Int) = (l'.length : Int) := by omega
    have hf : eqTs l l' = false := by
      cases hq : eqTs l l' with
      | false => rfl
      | true => exact absurd (eqTs_len hq) hle
    simp [h0, h1, hl, hle', hf]

theorem pc_Lists (m m' : Bool × Bool) (l l' : List Tm) (h : Tm.sizes l ≤ 1099511627776) (h' : Tm.sizes l' ≤ 1099511627776) :
    pc Q n_ref01_Lists [sl m 4 (tmVs l), sl m' 4 (tmVs l')] = some (.bool (eqTs l l')) := by
  refine pcQ res_ref01_Lists rfl (by simp [x_ref01_Lists]) fun fr hl ha => ?_
  have h0 := ha 0
  have h1 := ha 1
  clear ha
  simp [x_ref01_Lists] at hl h0 h1 ⊢
  have hlen := Tm.length_le l
  by_cases hle : l.length = l'.length
  · have hle' : (l.length : Int) = (l'.length : Int) := by omega
    simp [h0, h1, hl, hle]
    refine (Ends_lp (Ψ := fun e fr h => fr.length = 27 ∧ (e = .exit 0 ∧ eqTs l l' = true ∨ e = .ret ∧ look fr 4 = .bool false ∧ eqTs l l' = false))
      (fun n fr h => ∃ i, i + n = l.length ∧ fr.length = 27 ∧ look fr 0 = sl m 4 (tmVs l) ∧ look fr 1 = sl m' 4 (tmVs l') ∧ look fr 5 = .int .i64 (i : Nat) ∧ eqTs (l.drop i) (l'.drop i) = eqTs l l') ?_ l.length _ _ ?_).mono ?_
    · rintro n fr h ⟨i, hi, hl, h0, h1, h5, hr⟩
      by_cases hlt : i < l.length
      · have hx : nth (tmVs l) i = some (tmV l[i]) := nth_tmVs (by simp [hlt])
        have hx' : nth (tmVs l') i = some (tmV (l'[i]'(by omega))) := nth_tmVs (by simp [show i < l'.length by omega])
        have s1 := Tm.size_le (List.getElem_mem hlt)
        have s2 := Tm.size_le (List.getElem_mem (show i < l'.length by omega))
        have hT := pc_Same l[i] (l'[i]'(by omega)) (by omega) (by omega)
        have hw : IntKind.i64.wrap ((i : Int) + 1) = (i : Int) + 1 := wrap_id (by omega) (by omega)
        rw [List.drop_eq_getElem_cons hlt, List.drop_eq_getElem_cons (show i < l'.length by omega)] at hr
        simp only [eqTs] at hr
        generalize l[i] = t at *
        generalize l'[i]'(by omega) = t' at *
        obtain ⟨tk, tn, ts, tm, tl⟩ := t
        obtain ⟨tk', tn', ts', tm', tl'⟩ := t'
        simp only [tmV] at hT hx hx'
        cases hc : eqT (Tm.mk tk tn ts tm tl) (Tm.mk tk' tn' ts' tm' tl') with
        | true =>
          rw [hc] at hT hr
          simp [x_ref01_Lists_0, hl, h0, h1, h5, hlt, hx, hx', hT, hw]
          exact ⟨n - 1, by omega, i + 1, by omega, by simp, by simpa using hr⟩
        | false =>
          rw [hc] at hT hr
          simp [x_ref01_Lists_0, hl, h0, h1, h5, hlt, hx, hx', hT, hw]
          simpa using hr.symm
      · have e0 : l.length ≤ i := by omega
        rw [List.drop_eq_nil_of_le e0, List.drop_eq_nil_of_le (by omega)] at hr
        simp [x_ref01_Lists_0, hl, h0, h5, hlt]
        exact hr.symm
    · exact ⟨0, by omega, by simp [hl], by simp [h0], by simp [h1], by simp [hl], rfl⟩
    · rintro e fr h ⟨hl, ⟨rfl, he⟩ | ⟨rfl, h6, he⟩⟩
      · simp [hl, he]
      · simp [hl, h6, he]
  · have hle' : ¬(l.length : Int) = (l'.length : Int) := by omega
    have hf : eqTs l l' = false := by
      cases hq : eqTs l l' with
      | false => rfl
      | true => exact absurd (eqTs_len hq) hle
    simp [h0, h1, hl, hle', hf]

/-- A moment. -/
structure Mo where
  kind : Int
  number : Int
  role : Int
  am : Bool × Bool
  agents : List ByteArray
  goal : Int
  tm : Bool × Bool
  terms : List Tm
def moV (x : Mo) : AV := .agg [.int .i64 x.kind, .int .i64 x.number, .int .i64 x.role, sl x.am 1 (x.agents.map .str), .int .i64 x.goal, sl x.tm 4 (tmVs x.terms)]
def eqM (a b : Mo) : Bool := decide (a.goal = b.goal) && eqTs a.terms b.terms

theorem pc_equal (a b : Mo) (h : Tm.sizes a.terms ≤ 1099511627776) (h' : Tm.sizes b.terms ≤ 1099511627776) : pc Q n_goal_equal [moV a, moV b] = some (.bool (eqM a b)) := by
  have hE := pc_EqualFunc a.tm b.tm a.terms b.terms h h'
  refine pcQ res_goal_equal rfl (by simp [x_goal_equal]) fun fr hl ha => ?_
  have h0 := ha 0
  have h1 := ha 1
  clear ha h h'
  simp [x_goal_equal, moV] at hl h0 h1 ⊢
  by_cases hg : a.goal = b.goal
  · simp [h0, h1, hl, hE, hg, eqM]
  · simp [h0, h1, hl, hE, hg, eqM]

theorem pc_Equal (a b : Mo) (h : Tm.sizes a.terms ≤ 1099511627776) (h' : Tm.sizes b.terms ≤ 1099511627776) : pc Q n_ref27_Equal [moV a, moV b] = some (.bool (eqM a b)) := by
  have hE := pc_Lists a.tm b.tm a.terms b.terms h h'
  refine pcQ res_ref27_Equal rfl (by simp [x_ref27_Equal]) fun fr hl ha => ?_
  have h0 := ha 0
  have h1 := ha 1
  clear ha h h'
  simp [x_ref27_Equal, moV] at hl h0 h1 ⊢
  by_cases hg : a.goal = b.goal
  · simp [h0, h1, hl, hE, hg, eqM]
  · simp [h0, h1, hl, hE, hg, eqM]
end Go.Abs.Q

/- Contracts: fitting moments. -/
namespace Go.Abs.Q
attribute [local simp] look_set_ne look_set_eq fin tupled code_loop raw_goal_kind raw_ref27_kind raw_goal_equal raw_ref27_Equal raw_goal_fits raw_ref27_Fits

def mosV (m : Bool × Bool) (l : List Mo) : AV := sl m 6 (l.map moV)
def atI (l : List Mo) (i : Int) : Option Mo := if 0 ≤ i then l[i.toNat]? else none
def kindB (l : List Mo) (i k : Int) : Bool := match atI l i with | some x => decide (x.kind = k) | none => false
def fitsB (l : List Mo) (b c : Int) : Bool := match atI l b, atI l c with | some x, some y => decide (x.kind = 4) && decide (y.kind = 5) && decide (b < c) && eqM x y | _, _ => false
/-- The moments' terms are not great. -/
def fine (l : List Mo) : Prop := ∀ x ∈ l, Tm.sizes x.terms ≤ 1099511627776

theorem atI_some {l : List Mo} {i : Int} {x : Mo} (h : atI l i = some x) : 0 ≤ i ∧ i < l.length ∧ l[i.toNat]? = some x ∧ x ∈ l := by
  unfold atI at h
  split at h
  · have := (List.getElem?_eq_some_iff.1 h).1
    exact ⟨by assumption, by omega, h, List.mem_of_getElem? h⟩
  · cases h
theorem atI_none {l : List Mo} {i : Int} (h : atI l i = none) : ¬(0 ≤ i ∧ i < l.length) := by
  unfold atI at h
  split at h
  · have := List.getElem?_eq_none_iff.1 h
    omega
  · omega

theorem pc_kind (m : Bool × Bool) (l : List Mo) (i k : Int) : pc Q n_goal_kind [mosV m l, .int .i64 i, .int .i64 k] = some (.bool (kindB l i k)) := by
  refine pcQ res_goal_kind rfl (by simp [x_goal_kind]) fun fr hl ha => ?_
  have h0 := ha 0
  have h1 := ha 1
  have h2 := ha 2
  clear ha
  simp [x_goal_kind, mosV] at hl h0 h1 h2
  cases hx : atI l i with
  | none =>
    have hn := atI_none hx
    by_cases hi : 0 ≤ i
    · have hi' : ¬(i < l.length) := by omega
      simp [x_goal_kind, h0, h1, h2, hl, hi, hi', kindB, hx]
    · simp [x_goal_kind, h0, h1, h2, hl, hi, kindB, hx]
  | some x =>
    obtain ⟨g1, g2, g3, _⟩ := atI_some hx
    have hn := nth_map (f := moV) g3
    simp only [moV] at hn
    simp [x_goal_kind, h0, h1, h2, hl, g1, g2, hn, kindB, hx]

theorem pc_refkind (m : Bool × Bool) (l : List Mo) (i k : Int) : pc Q n_ref27_kind [mosV m l, .int .i64 i, .int .i64 k] = some (.bool (kindB l i k)) := by
  refine pcQ res_ref27_kind rfl (by simp [x_ref27_kind]) fun fr hl ha => ?_
  have h0 := ha 0
  have h1 := ha 1
  have h2 := ha 2
  clear ha
  simp [x_ref27_kind, mosV] at hl h0 h1 h2
  cases hx : atI l i with
  | none =>
    have hn := atI_none hx
    by_cases hi : 0 ≤ i
    · have hi' : ¬(i < l.length) := by omega
      simp [x_ref27_kind, h0, h1, h2, hl, hi, hi', kindB, hx]
    · simp [x_ref27_kind, h0, h1, h2, hl, hi, kindB, hx]
  | some x =>
    obtain ⟨g1, g2, g3, _⟩ := atI_some hx
    have hn := nth_map (f := moV) g3
    simp only [moV] at hn
    simp [x_ref27_kind, h0, h1, h2, hl, g1, g2, hn, kindB, hx]

theorem pc_fits (m : Bool × Bool) (l : List Mo) (hf : fine l) (b c : Int) : pc Q n_goal_fits [mosV m l, .int .i64 b, .int .i64 c] = some (.bool (fitsB l b c)) := by
  have hk := pc_kind m l
  refine pcQ res_goal_fits rfl (by simp [x_goal_fits]) fun fr hl ha => ?_
  have h0 := ha 0
  have h1 := ha 1
  have h2 := ha 2
  clear ha
  simp [x_goal_fits, mosV] at hl h0 h1 h2 hk
  cases hx : atI l b with
  | none => simp [x_goal_fits, h0, h1, h2, hl, hk, fitsB, kindB, hx]
  | some x =>
    obtain ⟨g1, g2, g3, g4⟩ := atI_some hx
    by_cases hxk : x.kind = 4
    · cases hy : atI l c with
      | none => simp [x_goal_fits, h0, h1, h2, hl, hk, fitsB, kindB, hx, hy, hxk]
      | some y =>
        obtain ⟨k1, k2, k3, k4⟩ := atI_some hy
        have hn := nth_map (f := moV) g3
        have hn' := nth_map (f := moV) k3
        have hE := pc_equal x y (hf x g4) (hf y k4)
        simp only [moV] at hn hn' hE
        by_cases hyk : y.kind = 5
        · by_cases hbc : b < c
          · rw [hxk] at hn hE
            rw [hyk] at hn' hE
            simp [x_goal_fits, h0, h1, h2, hl, hk, fitsB, kindB, hx, hy, hxk, hyk, hbc, g1, k1, hn, hn', hE]
          · simp [x_goal_fits, h0, h1, h2, hl, hk, fitsB, kindB, hx, hy, hxk, hyk, hbc]
        · simp [x_goal_fits, h0, h1, h2, hl, hk, fitsB, kindB, hx, hy, hxk, hyk]
    · have hv : fitsB l b c = false := by
        unfold fitsB
        rw [hx]
        cases atI l c <;> simp [hxk]
      rw [hv]
      simp [x_goal_fits, h0, h1, h2, hl, hk, kindB, hx, hxk]


theorem pc_refFits (m : Bool × Bool) (l : List Mo) (hf : fine l) (b c : Int) : pc Q n_ref27_Fits [mosV m l, .int .i64 b, .int .i64 c] = some (.bool (fitsB l b c)) := by
  have hk := pc_refkind m l
  refine pcQ res_ref27_Fits rfl (by simp [x_ref27_Fits]) fun fr hl ha => ?_
  have h0 := ha 0
  have h1 := ha 1
  have h2 := ha 2
  clear ha
  simp [x_ref27_Fits, mosV] at hl h0 h1 h2 hk
  cases hx : atI l b with
  | none => simp [x_ref27_Fits, h0, h1, h2, hl, hk, fitsB, kindB, hx]
  | some x =>
    obtain ⟨g1, g2, g3, g4⟩ := atI_some hx
    by_cases hxk : x.kind = 4
    · cases hy : atI l c with
      | none => simp [x_ref27_Fits, h0, h1, h2, hl, hk, fitsB, kindB, hx, hy, hxk]
      | some y =>
        obtain ⟨k1, k2, k3, k4⟩ := atI_some hy
        have hn := nth_map (f := moV) g3
        have hn' := nth_map (f := moV) k3
        have hE := pc_Equal x y (hf x g4) (hf y k4)
        simp only [moV] at hn hn' hE
        by_cases hyk : y.kind = 5
        · by_cases hbc : b < c
          · rw [hxk] at hn hE
            rw [hyk] at hn' hE
            simp [x_ref27_Fits, h0, h1, h2, hl, hk, fitsB, kindB, hx, hy, hxk, hyk, hbc, g1, k1, hn, hn', hE]
          · simp [x_ref27_Fits, h0, h1, h2, hl, hk, fitsB, kindB, hx, hy, hxk, hyk, hbc]
        · simp [x_ref27_Fits, h0, h1, h2, hl, hk, fitsB, kindB, hx, hy, hxk, hyk]
    · have hv : fitsB l b c = false := by
        unfold fitsB
        rw [hx]
        cases atI l c <;> simp [hxk]
      rw [hv]
      simp [x_ref27_Fits, h0, h1, h2, hl, hk, kindB, hx, hxk]

end Go.Abs.Q

/- Contracts: the first fitting Begin. -/
namespace Go.Abs.Q
attribute [local simp] look_set_ne look_set_eq fin tupled code_loop raw_goal_fits raw_ref27_Fits raw_goal_Agree raw_ref27_Agree

/-- The first Begin that fits, from an index on. -/
def agreeFrom (l : List Mo) (c : Int) : Nat → Nat → AV
  | 0, _ => .tup [.int .i64 0, .bool false]
  | n + 1, i => if fitsB l i c = true then .tup [.int .i64 i, .bool true] else agreeFrom l c n (i + 1)
def agreeV (l : List Mo) (c : Int) : AV := agreeFrom l c l.length 0

theorem pc_Agree (m : Bool × Bool) (l : List Mo) (hf : fine l) (hlen : l.length ≤ 1099511627776) (c : Int) : pc Q n_goal_Agree [mosV m l, .int .i64 c] = some (agreeV l c) := by
  refine pcQ res_goal_Agree rfl (by simp [x_goal_Agree]) fun fr hl ha => ?_
  have hk := pc_fits m l hf
  have h0 := ha 0
  have h1 := ha 1
  clear ha
  simp [x_goal_Agree, mosV] at hl h0 h1 hk
  simp [x_goal_Agree, hl, h0, h1]
  refine (Ends_lp (Ψ := fun e fr h => fr.length = 18 ∧ (e = .exit 0 ∧ agreeV l c = .tup [.int .i64 0, .bool false] ∨ e = .ret ∧ agreeV l c = .tup [look fr 4, look fr 5] ∧ ∃ i, look fr 4 = .int .i64 i ∧ look fr 5 = .bool true))
    (fun n fr h => ∃ i, i + n = l.length ∧ fr.length = 18 ∧ look fr 0 = sl m 6 (l.map moV) ∧ look fr 1 = .int .i64 c ∧ look fr 8 = .int .i64 l.length ∧ look fr 9 = .int .i64 (i : Nat) ∧ agreeFrom l c n i = agreeV l c) ?_ l.length _ _ ?_).mono ?_
  · rintro n fr h ⟨i, hi, hl, h0, h1, h8, h9, hr⟩
    by_cases hlt : i < l.length
    · have hw : IntKind.i64.wrap ((i : Int) + 1) = (i : Int) + 1 := wrap_id (by omega) (by omega)
      obtain ⟨n, rfl⟩ : ∃ q, n = q + 1 := ⟨n - 1, by omega⟩
      simp only [agreeFrom] at hr
      cases hc : fitsB l i c with
      | true =>
        rw [if_pos hc] at hr
        simp [x_goal_Agree_0, hl, h0, h1, h8, h9, hlt, hk, hw, hc]
        exact hr.symm
      | false =>
        rw [if_neg (by simp [hc])] at hr
        simp [x_goal_Agree_0, hl, h0, h1, h8, h9, hlt, hk, hw, hc]
        exact ⟨n, by omega, i + 1, by omega, by simp, hr⟩
    · obtain rfl : n = 0 := by omega
      simp [x_goal_Agree_0, hl, h8, h9, hlt]
      exact hr.symm
  · exact ⟨0, by omega, by simp [hl], by simp [h0], by simp [h1], by simp [hl], by simp [hl], rfl⟩
  · rintro e fr h ⟨hl, ⟨rfl, he⟩ | ⟨rfl, he, i, h4, h5⟩⟩
    · simp [hl, he]
    · simp [hl, he, h4, h5]

theorem pc_refAgree (m : Bool × Bool) (l : List Mo) (hf : fine l) (hlen : l.length ≤ 1099511627776) (c : Int) : pc Q n_ref27_Agree [mosV m l, .int .i64 c] = some (agreeV l c) := by
  refine pcQ res_ref27_Agree rfl (by simp [x_ref27_Agree]) fun fr hl ha => ?_
  have hk := pc_refFits m l hf
  have h0 := ha 0
  have h1 := ha 1
  clear ha
  simp [x_ref27_Agree, mosV] at hl h0 h1 hk
  simp [x_ref27_Agree, hl]
  refine (Ends_lp (Ψ := fun e fr h => fr.length = 18 ∧ (e = .exit 0 ∧ agreeV l c = .tup [.int .i64 0, .bool false] ∨ e = .ret ∧ agreeV l c = .tup [look fr 4, look fr 5] ∧ ∃ i, look fr 4 = .int .i64 i ∧ look fr 5 = .bool true))
    (fun n fr h => ∃ i, i + n = l.length ∧ fr.length = 18 ∧ look fr 0 = sl m 6 (l.map moV) ∧ look fr 1 = .int .i64 c ∧ look fr 6 = .int .i64 (i : Nat) ∧ agreeFrom l c n i = agreeV l c) ?_ l.length _ _ ?_).mono ?_
  · rintro n fr h ⟨i, hi, hl, h0, h1, h9, hr⟩
    by_cases hlt : i < l.length
    · have hw : IntKind.i64.wrap ((i : Int) + 1) = (i : Int) + 1 := wrap_id (by omega) (by omega)
      obtain ⟨n, rfl⟩ : ∃ q, n = q + 1 := ⟨n - 1, by omega⟩
      simp only [agreeFrom] at hr
      cases hc : fitsB l i c with
      | true =>
        rw [if_pos hc] at hr
        simp [x_ref27_Agree_0, hl, h0, h1, h9, hlt, hk, hw, hc]
        exact hr.symm
      | false =>
        rw [if_neg (by simp [hc])] at hr
        simp [x_ref27_Agree_0, hl, h0, h1, h9, hlt, hk, hw, hc]
        exact ⟨n, by omega, i + 1, by omega, by simp, hr⟩
    · obtain rfl : n = 0 := by omega
      simp [x_ref27_Agree_0, hl, h0, h9, hlt]
      exact hr.symm
  · exact ⟨0, by omega, by simp [hl], by simp [h0], by simp [h1], by simp [hl], rfl⟩
  · rintro e fr h ⟨hl, ⟨rfl, he⟩ | ⟨rfl, he, i, h4, h5⟩⟩
    · simp [hl, he]
    · simp [hl, he, h4, h5]
end Go.Abs.Q

/- Contracts: small lists of terms and moments. -/
namespace Go.Abs.Q
attribute [local simp] look_set_ne look_set_eq fin tupled code_loop raw_ref01_budget raw_ref01_Few raw_ref27_Few

mutual
def bud : Tm → Int → Int
  | .mk _ n _ _ l, most => if most ≤ 0 ∨ (40 : Int) < n.size then -1 else buds l (most - 1)
def buds : List Tm → Int → Int
  | [], most => most
  | t :: l, most => if bud t most < 0 then -1 else buds l (bud t most)
end
mutual
theorem bud_le : ∀ (t : Tm) (m : Int), bud t m ≤ m ∨ bud t m = -1
  | .mk _ n _ _ l, m => by
    simp only [bud]
    split
    · exact .inr rfl
    · rcases buds_le l (m - 1) with h | h
      · exact .inl (by omega)
      · exact .inr h
theorem buds_le : ∀ (l : List Tm) (m : Int), buds l m ≤ m ∨ buds l m = -1
  | [], m => .inl (Int.le_refl _)
  | t :: l, m => by
    simp only [buds]
    split
    · exact .inr rfl
    · rename_i hb
      rcases bud_le t m with h | h
      · rcases buds_le l (bud t m) with h' | h'
        · exact .inl (by omega)
        · exact .inr h'
      · omega
end

theorem pc_budget : ∀ (n : Nat) (t : Tm) (most : Int), t.size ≤ n → t.size ≤ 1099511627776 → most ≤ 9223372036854775807 → pc Q n_ref01_budget [tmV t, .int .i64 most] = some (.int .i64 (bud t most)) := by
  intro n
  induction n with
  | zero => intro t _ h; have := t.size_pos; omega
  | succ n ih =>
    intro t most hn hb hm
    obtain ⟨k, nm, s, m, kids⟩ := t
    have hsz : Tm.size (.mk k nm s m kids) = 1 + Tm.sizes kids := rfl
    have hlen := Tm.length_le kids
    refine pcQ res_ref01_budget rfl (by simp [x_ref01_budget]) fun fr hl ha => ?_
    have h0 := ha 0
    have h1 := ha 1
    clear ha
    simp [x_ref01_budget, tmV] at hl h0 h1
    by_cases h2 : most ≤ 0
    · simp [x_ref01_budget, hl, h0, h1, h2, bud]
    by_cases h3 : (40 : Int) < nm.size
    · simp [x_ref01_budget, hl, h0, h1, h2, h3, bud]
    have hw0 : IntKind.i64.wrap (most - 1) = most - 1 := wrap_id (by omega) (by omega)
    simp [x_ref01_budget, hl, h0, h1, h2, h3, hw0]
    refine (Ends_lp (Ψ := fun e fr h => fr.length = 33 ∧ (e = .exit 0 ∧ look fr 1 = .int .i64 (buds kids (most - 1)) ∨ e = .ret ∧ look fr 4 = .int .i64 (-1) ∧ buds kids (most - 1) = -1))
      (fun n fr h => ∃ i cur, i + n = kids.length ∧ fr.length = 33 ∧ cur ≤ 9223372036854775807 ∧ look fr 1 = .int .i64 cur ∧ look fr 2 = .ptr 0 0 ∧ look fr 5 = .int .i64 (i : Nat) ∧ buds (kids.drop i) cur = buds kids (most - 1) ∧
        h = ⟨[[.int .i64 k, .str nm, .int .i64 s, sl m 4 (tmVs kids)]], []⟩) ?_ kids.length _ _ ?_).mono ?_
    · rintro n fr h ⟨i, cur, hi, hl, hcur, h1, h2, h5, hr, rfl⟩
      by_cases hlt : i < kids.length
      · have hx : nth (tmVs kids) i = some (tmV kids[i]) := nth_tmVs (by simp [hlt])
        have s1 := Tm.size_le (List.getElem_mem hlt)
        have hT := ih kids[i] cur (by omega) (by omega) hcur
        have hle := bud_le kids[i] cur
        have hw : IntKind.i64.wrap ((i : Int) + 1) = (i : Int) + 1 := wrap_id (by omega) (by omega)
        rw [List.drop_eq_getElem_cons hlt] at hr
        simp only [buds] at hr
        generalize kids[i] = t at *
        obtain ⟨tk, tn, ts, tm, tl⟩ := t
        simp only [tmV] at hT hx
        by_cases hc : bud (Tm.mk tk tn ts tm tl) cur < 0
        · rw [if_pos hc] at hr
          simp [x_ref01_budget_0, hl, h1, h2, h5, hlt, hx, hT, hw, hc]
          exact hr.symm
        · rw [if_neg hc] at hr
          simp [x_ref01_budget_0, hl, h1, h2, h5, hlt, hx, hT, hw, hc]
          refine ⟨n - 1, by omega, i + 1, by omega, _, ?_, rfl, by simp, hr⟩
          omega
      · have h0 : kids.length ≤ i := by omega
        rw [List.drop_eq_nil_of_le h0] at hr
        simp only [buds] at hr
        simp [x_ref01_budget_0, hl, h1, h2, h5, hlt]
        exact hr
    · exact ⟨0, most - 1, by omega, by simp [hl], by omega, by simp [hl], by simp [hl], by simp [hl], rfl, rfl⟩
    · rintro e fr h ⟨hl, ⟨rfl, h1⟩ | ⟨rfl, h4, he⟩⟩
      · simp [hl, h1, bud, h2, h3]
      · simp [hl, h4, he, bud, h2, h3]

def fewL : List Tm → Int → Bool
  | [], _ => true
  | t :: l, most => if bud t most < 0 then false else fewL l (bud t most)
def fewT (l : List Tm) (n most : Int) : Bool := if n < l.length then false else fewL l most

theorem pc_Few (m : Bool × Bool) (l : List Tm) (q most : Int) (h : Tm.sizes l ≤ 1099511627776) (hm : most ≤ 9223372036854775807) : pc Q n_ref01_Few [sl m 4 (tmVs l), .int .i64 q, .int .i64 most] = some (.bool (fewT l q most)) := by
  have hlen := Tm.length_le l
  refine pcQ res_ref01_Few rfl (by simp [x_ref01_Few]) fun fr hl ha => ?_
  have h0 := ha 0
  have h1 := ha 1
  have h2 := ha 2
  clear ha
  simp [x_ref01_Few] at hl h0 h1 h2
  by_cases hq : q < l.length
  · simp [x_ref01_Few, hl, h0, h1, hq, fewT]
  simp [x_ref01_Few, hl, h0, h1, hq]
  refine (Ends_lp (Ψ := fun e fr h => fr.length = 26 ∧ (e = .exit 0 ∧ fewL l most = true ∨ e = .ret ∧ look fr 6 = .bool false ∧ fewL l most = false))
    (fun n fr h => ∃ i cur, i + n = l.length ∧ fr.length = 26 ∧ cur ≤ 9223372036854775807 ∧ look fr 0 = sl m 4 (tmVs l) ∧ look fr 2 = .int .i64 cur ∧ look fr 7 = .int .i64 (i : Nat) ∧ fewL (l.drop i) cur = fewL l most) ?_ l.length _ _ ?_).mono ?_
  · rintro n fr h ⟨i, cur, hi, hl, hcur, h0, h2, h7, hr⟩
    by_cases hlt : i < l.length
    · have hx : nth (tmVs l) i = some (tmV l[i]) := nth_tmVs (by simp [hlt])
      have s1 := Tm.size_le (List.getElem_mem hlt)
      have hT := pc_budget _ l[i] cur (Nat.le_refl _) (by omega) hcur
      have hle := bud_le l[i] cur
      have hw : IntKind.i64.wrap ((i : Int) + 1) = (i : Int) + 1 := wrap_id (by omega) (by omega)
      rw [List.drop_eq_getElem_cons hlt] at hr
      simp only [fewL] at hr
      generalize l[i] = t at *
      obtain ⟨tk, tn, ts, tm, tl⟩ := t
      simp only [tmV] at hT hx
      by_cases hc : bud (Tm.mk tk tn ts tm tl) cur < 0
      · rw [if_pos hc] at hr
        simp [x_ref01_Few_0, hl, h0, h2, h7, hlt, hx, hT, hw, hc]
        exact hr.symm
      · rw [if_neg hc] at hr
        simp [x_ref01_Few_0, hl, h0, h2, h7, hlt, hx, hT, hw, hc]
        refine ⟨n - 1, by omega, i + 1, by omega, _, ?_, rfl, by simp, hr⟩
        omega
    · have e0 : l.length ≤ i := by omega
      rw [List.drop_eq_nil_of_le e0] at hr
      simp only [fewL] at hr
      simp [x_ref01_Few_0, hl, h0, h7, hlt]
      exact hr.symm
  · exact ⟨0, most, by omega, by simp [hl], by omega, by simp [h0], by simp [h2], by simp [hl], rfl⟩
  · rintro e fr h ⟨hl, ⟨rfl, he⟩ | ⟨rfl, h4, he⟩⟩
    · simp [hl, he, fewT, hq]
    · simp [hl, h4, he, fewT, hq]
end Go.Abs.Q

/- Contracts: small lists of moments. -/
namespace Go.Abs.Q
attribute [local simp] look_set_ne look_set_eq fin tupled code_loop raw_ref01_Few raw_ref27_Few

def totM : List Mo → Nat
  | [] => 0
  | x :: l => Tm.sizes x.terms + totM l
theorem totM_fine {l : List Mo} (h : totM l ≤ 1099511627776) : fine l := by
  induction l with
  | nil => intro x hx; cases hx
  | cons y l ih =>
    simp only [totM] at h
    intro x hx
    rcases List.mem_cons.1 hx with rfl | hx
    · omega
    · exact ih (by omega) x hx

def fewMs : List Mo → List Tm → Bool
  | [], acc => fewT acc 200 1000
  | x :: l, acc => if (10 : Int) < x.agents.length then false else fewMs l (acc ++ x.terms)
def fewM (l : List Mo) : Bool := if (60 : Int) < l.length then false else fewMs l []

/-- A list of terms that grows. -/
def Gro (acc : List Tm) (v : AV) (h : AH) : Prop := (acc = [] ∧ v = .vs true 0 [] ∧ h = ⟨[], []⟩) ∨ (acc ≠ [] ∧ v = .sl 0 acc.length 0 acc.length ∧ h = ⟨[], [⟨tmVs acc, 4, false⟩]⟩)

theorem tmVs_append (a b : List Tm) : tmVs (a ++ b) = tmVs a ++ tmVs b := by simp [tmVs_map]

theorem Gro_app {acc : List Tm} {v : AV} {h : AH} (hg : Gro acc v h) (m : Bool × Bool) (l : List Tm) (hb : Tm.sizes acc + Tm.sizes l ≤ 1099511627776) :
    ∃ v' h', appendA (ctxF n_ref27_Few) h 4 56 v (sl m 4 (tmVs l)) = some (v', h') ∧ Gro (acc ++ l) v' h' := by
  have h1 := Tm.length_le acc
  have h2 := Tm.length_le l
  rcases hg with ⟨rfl, rfl, rfl⟩ | ⟨hne, rfl, rfl⟩
  · cases l with
    | nil => exact ⟨_, _, by simp [tmVs], .inl ⟨rfl, rfl, rfl⟩⟩
    | cons t l =>
      have hr : (t :: l).length * 56 ≤ roomA ∧ (t :: l).length ≤ maxLen := by
        simp only [roomA, maxLen]
        omega
      refine ⟨_, _, ?_, .inr ⟨by simp, rfl, rfl⟩⟩
      rw [app_nil, sl_elems, Option.bind_some, tmVs_length, if_neg (by simp), if_pos hr]
      simp [mutF]
  · have hr : (acc.length + l.length) * 56 ≤ roomA ∧ acc.length + l.length ≤ maxLen := by
      simp only [roomA, maxLen]
      omega
    refine ⟨_, _, ?_, .inr ⟨by simp [hne], rfl, rfl⟩⟩
    rw [app_view, sl_elems]
    simp [hr, tmVs_append]

theorem Gro_few {acc : List Tm} {v : AV} {h : AH} (hg : Gro acc v h) (hb : Tm.sizes acc ≤ 1099511627776) :
    ∃ u, frz h true v = some u ∧ pc Q n_ref01_Few [u, .int .i64 200, .int .i64 1000] = some (.bool (fewT acc 200 1000)) := by
  rcases hg with ⟨rfl, rfl, rfl⟩ | ⟨hne, rfl, rfl⟩
  · exact ⟨_, frz_nil _ _, pc_Few (true, false) [] 200 1000 (by simp [Tm.sizes]) (by omega)⟩
  · refine ⟨sl (false, true) 4 (tmVs acc), ?_, pc_Few _ acc 200 1000 hb (by omega)⟩
    have h0 : List.take acc.length (tmVs acc) = tmVs acc := List.take_of_length_le (by simp)
    simp [h0]

theorem pc_FewM (m : Bool × Bool) (l : List Mo) (hb : totM l ≤ 1099511627776) : pc Q n_ref27_Few [mosV m l] = some (.bool (fewM l)) := by
  refine pcQ res_ref27_Few rfl (by simp [x_ref27_Few]) fun fr hl ha => ?_
  have h0 := ha 0
  clear ha
  simp [x_ref27_Few, mosV] at hl h0
  by_cases hq : (60 : Int) < l.length
  · simp [x_ref27_Few, hl, h0, hq, fewM]
  simp [x_ref27_Few, hl, h0, hq]
  refine (Ends_lp (Ψ := fun e fr h => fr.length = 30 ∧ (e = .exit 0 ∧ (∃ acc, Gro acc (look fr 3) h ∧ Tm.sizes acc ≤ 1099511627776 ∧ fewT acc 200 1000 = fewMs l []) ∨ e = .ret ∧ look fr 2 = .bool false ∧ fewMs l [] = false))
    (fun n fr h => ∃ i acc, i + n = l.length ∧ fr.length = 30 ∧ Tm.sizes acc + totM (l.drop i) ≤ 1099511627776 ∧ look fr 0 = sl m 6 (l.map moV) ∧ Gro acc (look fr 3) h ∧ look fr 4 = .int .i64 (i : Nat) ∧ fewMs (l.drop i) acc = fewMs l []) ?_ l.length _ _ ?_).mono ?_
  · rintro n fr h ⟨i, acc, hi, hl, hs, h0, h3, h4, hr⟩
    by_cases hlt : i < l.length
    · have hx := nth_map (f := moV) (List.getElem?_eq_getElem hlt)
      have hw : IntKind.i64.wrap ((i : Int) + 1) = (i : Int) + 1 := wrap_id (by omega) (by omega)
      rw [List.drop_eq_getElem_cons hlt] at hr hs
      simp only [fewMs, totM] at hr hs
      generalize l[i] = x at *
      simp only [moV] at hx
      by_cases hc : (10 : Int) < x.agents.length
      · rw [if_pos hc] at hr
        simp [x_ref27_Few_0, hl, h0, h4, hlt, hx, hw, hc]
        exact hr.symm
      · rw [if_neg hc] at hr
        obtain ⟨v', h', ha, hg⟩ := Gro_app h3 x.tm x.terms (by omega)
        simp [x_ref27_Few_0, hl, h0, h4, hlt, hx, hw, hc, ha]
        refine ⟨n - 1, by omega, i + 1, by omega, _, ?_, hg, by simp, hr⟩
        rw [Tm.sizes_append]
        omega
    · have e0 : l.length ≤ i := by omega
      rw [List.drop_eq_nil_of_le e0] at hr hs
      simp only [fewMs, totM] at hr hs
      simp [x_ref27_Few_0, hl, h0, h4, hlt]
      exact ⟨acc, h3, by omega, hr⟩
  · exact ⟨0, [], by omega, by simp [hl], by simpa [Tm.sizes] using hb, by simp [h0], .inl ⟨rfl, by simp [hl], rfl⟩, by simp [hl], rfl⟩
  · rintro e fr h ⟨hl, ⟨rfl, acc, hg, hs, he⟩ | ⟨rfl, h4, he⟩⟩
    · obtain ⟨u, hu, hp⟩ := Gro_few hg hs
      simp [hl, hu, hp, fewM, hq, he]
    · simp [hl, h4, he, fewM, hq]
end Go.Abs.Q

/- Readings of terms and moments as abstract values. -/
namespace Go.Abs.Q
open Go.Proofs
open Go.Proofs.Ytpkegmgepnhfnaa (Rows.uptoBulk Rows.uptoBulkAll)

theorem c3 : Try.prog.cellsOf 3 = 1 := by kernel_rfl
theorem c9 : Try.prog.cellsOf 9 = 1 := by kernel_rfl
theorem c36 : Try.prog.cellsOf 36 = 1 := by kernel_rfl
theorem c37 : Try.prog.cellsOf 37 = 1 := by kernel_rfl
theorem c65 : Try.prog.cellsOf 65 = 4 := by kernel_rfl
theorem c39 : Try.prog.cellsOf 39 = 6 := by kernel_rfl

variable {w : World}

theorem sizes_sum (l : List Tm) : (l.map Tm.size).sum = Tm.sizes l := by
  induction l with
  | nil => rfl
  | cons t l ih => simp [Tm.sizes, ih]

theorem opens_tm : ∀ n, Opens Try.prog w 65 (fun t : Tm => (tmV t).cells) (fun _ => True) Tm.size n := by
  intro n
  induction n using Nat.strongRecOn with
  | _ n ih =>
    intro H enc cs x hx
    obtain ⟨m, xs, rfl, hcl, hxl, hx1, hf⟩ := struct_parts Try.underlying65 c65 (fun i f hi => by
      rcases i with _ | _ | _ | _ | i
      · cases hi; exact ⟨rfl, c3⟩
      · cases hi; exact ⟨rfl, c9⟩
      · cases hi; exact ⟨rfl, c3⟩
      · cases hi; exact ⟨rfl, c37⟩
      · simp at hi) hx
    obtain ⟨v0, y0, hv0, hy0, h0⟩ := hf 0 _ rfl
    obtain ⟨v1, y1, hv1, hy1, h1⟩ := hf 1 _ rfl
    obtain ⟨v2, y2, hv2, hy2, h2⟩ := hf 2 _ rfl
    obtain ⟨v3, y3, hv3, hy3, h3⟩ := hf 3 _ rfl
    obtain ⟨k, -, w0, cv0⟩ := opens_int (w := w) Try.underlying3 m enc _ _ h0
    obtain ⟨nm, -, w1, cv1⟩ := opens_str (w := w) Try.underlying9 m enc _ _ h1
    obtain ⟨s, -, w2, cv2⟩ := opens_int (w := w) Try.underlying3 m enc _ _ h2
    cases m with
    | zero => simp [DataW.trod] at h3
    | succ m =>
      obtain ⟨⟨bk, kids⟩, -, w3, cv3⟩ := opens_slice (w := w) Try.underlying37 c65 (by omega) (ih m (by omega)) enc _ _ h3
      have hcs : cs = [v0, v1, v2, v3] := by
        match cs, hcl with
        | [a, b, c, d], _ => simp at hv0 hv1 hv2 hv3; simp [hv0, hv1, hv2, hv3]
      have hxs : xs = [y0, y1, y2, y3] := by
        match xs, hxl with
        | [a, b, c, d], _ => simp at hy0 hy1 hy2 hy3; simp [hy0, hy1, hy2, hy3]
      subst hcs hxs
      refine ⟨.mk k nm s (false, bk) kids, trivial, ?_, ?_⟩
      · rw [hx1]
        dsimp only at w0 w1 w2 w3
        rw [sizes_sum] at w3
        simp only [Tm.size, List.map_cons, List.map_nil, Rows.uptoBulk, Rows.uptoBulkAll]
        omega
      · dsimp only at cv0 cv1 cv2 cv3
        simp only [tmV, cells_agg]
        rw [tmVs_map]
        exact CV_cons cv0 (CV_cons cv1 (CV_cons cv2 cv3))

def moW (x : Mo) : Nat := x.agents.length + Tm.sizes x.terms + 1

theorem sum_ge {α : Type} {f : α → Nat} (h : ∀ a, 1 ≤ f a) : ∀ l : List α, l.length ≤ (l.map f).sum
  | [] => by simp
  | a :: l => by have := h a; have := sum_ge h l; simp; omega

theorem opens_mo (n : Nat) : Opens Try.prog w 39 (fun x : Mo => (moV x).cells) (fun _ => True) moW n := by
  intro H enc cs x hx
  obtain ⟨m, xs, rfl, hcl, hxl, hx1, hf⟩ := struct_parts Try.underlying39 c39 (fun i f hi => by
    rcases i with _ | _ | _ | _ | _ | _ | i
    · cases hi; exact ⟨rfl, c3⟩
    · cases hi; exact ⟨rfl, c3⟩
    · cases hi; exact ⟨rfl, c3⟩
    · cases hi; exact ⟨rfl, c36⟩
    · cases hi; exact ⟨rfl, c3⟩
    · cases hi; exact ⟨rfl, c37⟩
    · simp at hi) hx
  obtain ⟨v0, y0, hv0, hy0, h0⟩ := hf 0 _ rfl
  obtain ⟨v1, y1, hv1, hy1, h1⟩ := hf 1 _ rfl
  obtain ⟨v2, y2, hv2, hy2, h2⟩ := hf 2 _ rfl
  obtain ⟨v3, y3, hv3, hy3, h3⟩ := hf 3 _ rfl
  obtain ⟨v4, y4, hv4, hy4, h4⟩ := hf 4 _ rfl
  obtain ⟨v5, y5, hv5, hy5, h5⟩ := hf 5 _ rfl
  obtain ⟨k, -, w0, cv0⟩ := opens_int (w := w) Try.underlying3 m enc _ _ h0
  obtain ⟨nb, -, w1, cv1⟩ := opens_int (w := w) Try.underlying3 m enc _ _ h1
  obtain ⟨ro, -, w2, cv2⟩ := opens_int (w := w) Try.underlying3 m enc _ _ h2
  obtain ⟨go, -, w4, cv4⟩ := opens_int (w := w) Try.underlying3 m enc _ _ h4
  cases m with
  | zero => simp [DataW.trod] at h3
  | succ m =>
    obtain ⟨⟨ba, ags⟩, -, w3, cv3⟩ := opens_slice (w := w) (enc := AV.str) Try.underlying36 c9 (by omega) (opens_str (w := w) Try.underlying9 m) enc _ _ h3
    obtain ⟨⟨bt, tms⟩, -, w5, cv5⟩ := opens_slice (w := w) Try.underlying37 c65 (by omega) (opens_tm m) enc _ _ h5
    have hcs : cs = [v0, v1, v2, v3, v4, v5] := by
      match cs, hcl with
      | [a, b, c, d, e, f], _ => simp at hv0 hv1 hv2 hv3 hv4 hv5; simp [hv0, hv1, hv2, hv3, hv4, hv5]
    have hxs : xs = [y0, y1, y2, y3, y4, y5] := by
      match xs, hxl with
      | [a, b, c, d, e, f], _ => simp at hy0 hy1 hy2 hy3 hy4 hy5; simp [hy0, hy1, hy2, hy3, hy4, hy5]
    subst hcs hxs
    refine ⟨⟨k, nb, ro, (false, ba), ags, go, (false, bt), tms⟩, trivial, ?_, ?_⟩
    · rw [hx1]
      dsimp only at w0 w1 w2 w3 w4 w5
      rw [sizes_sum] at w5
      have := sum_ge (f := fun s : ByteArray => s.size + 1) (fun s => by omega) ags
      simp only [moW, List.map_cons, List.map_nil, Rows.uptoBulk, Rows.uptoBulkAll]
      omega
    · dsimp only at cv0 cv1 cv2 cv3 cv4 cv5
      simp only [moV, cells_agg]
      rw [tmVs_map]
      exact CV_cons cv0 (CV_cons cv1 (CV_cons cv2 (CV_cons cv3 (CV_cons cv4 cv5))))

theorem totM_le (l : List Mo) : totM l ≤ (l.map moW).sum := by
  induction l with
  | nil => simp [totM]
  | cons x l ih => simp only [totM, List.map_cons, List.sum_cons]; have e : moW x = x.agents.length + Tm.sizes x.terms + 1 := rfl; omega

theorem opens_mos (n : Nat) : Opens Try.prog w 22 (fun l : Bool × List Mo => [mosV (false, l.1) l.2]) (fun _ => True) (fun l => (l.2.map moW).sum + 1) n := by
  intro H enc cs x hx
  cases n with
  | zero => simp [DataW.trod] at hx
  | succ n =>
    obtain ⟨l, -, h1, h2⟩ := opens_slice (w := w) Try.underlying22 c39 (by omega) (opens_mo n) enc _ _ hx
    exact ⟨l, trivial, h1, h2⟩
end Go.Abs.Q

namespace Go.Abs.Q
attribute [local simp] look_set_ne look_set_eq fin tupled code_loop

def cloneM (m : Bool × Bool) (xs : List AV) : Bool × Bool := if xs.isEmpty then (true, m.2) else (false, true)

theorem frzRes_nil (h : AH) (sz : Nat) : frzRes h (.vs true 0 []) = some (sl (true, false) sz []) := by rw [← sl_nil sz]; rfl
@[simp] theorem frzRes_view (h : AH) (k n off len : Nat) : frzRes h (.sl k n off len) = frz1 h true (.sl k n off len) := _root_.id rfl

theorem pc_CloneInt (m : Bool × Bool) (xs : List AV) (hb : xs.length ≤ 1099511627776) : pc Q n_slices_Clone_int [sl m 1 xs] = some (sl (cloneM m xs) 1 xs) := by
  refine pcQ res_slices_Clone_int rfl (by simp [x_slices_Clone_int]) fun fr hl ha => ?_
  have h0 := ha 0
  clear ha
  simp [x_slices_Clone_int] at hl h0
  have hr : xs.length * 8 ≤ roomA ∧ xs.length ≤ maxLen := by simp only [roomA, maxLen]; omega
  cases xs with
  | nil =>
    cases hm : m.2 with
    | false => simp [x_slices_Clone_int, hl, h0, nqA_sl, hm, cloneM, frzRes_nil _ 1]
    | true => simp [x_slices_Clone_int, hl, h0, nqA_sl, hm, cloneM, sliceParts, app_sl]
  | cons x xs =>
    simp at hr
    simp [x_slices_Clone_int, hl, h0, nqA_sl, cloneM, sliceParts, app_sl, hr]
end Go.Abs.Q
