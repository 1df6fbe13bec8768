/- A part of the proof. -/
import Derived.Test.YthcbgdmeacaglaaGreatDoorTE12
import Derived.Test.YthcbgdmeacaglaaGreatDoorProg
import Derived.KernelRfl
import Derived.Lib.Strings
import Derived.Lib.Bytealg
set_option linter.all false
namespace Go.Abs.Q
open Go.Proofs
noncomputable def codeF (f : FuncId) : Option RFunc := if rspF f then none else resFunc Tryz.prog ctxF f
theorem res_law47_TranslateEnvironment : codeF n_law47_TranslateEnvironment = some x_law47_TranslateEnvironment := by kernel_rfl
theorem res_ref15_Few : codeF n_ref15_Few = some x_ref15_Few := by kernel_rfl
theorem res_translate_Environment : codeF n_translate_Environment = some x_translate_Environment := by kernel_rfl
theorem res_ref47_Environment : codeF n_ref47_Environment = some x_ref47_Environment := by kernel_rfl
theorem res_ref47_SameClauses : codeF n_ref47_SameClauses = some x_ref47_SameClauses := by kernel_rfl
theorem res_cast_Valid : codeF n_cast_Valid = some x_cast_Valid := by kernel_rfl
theorem res_translate_variable : codeF n_translate_variable = some x_translate_variable := by kernel_rfl
theorem res_translate_app : codeF n_translate_app = some x_translate_app := by kernel_rfl
theorem res_translate_from : codeF n_translate_from = some x_translate_from := by kernel_rfl
theorem res_translate_atom : codeF n_translate_atom = some x_translate_atom := by kernel_rfl
theorem res_ref15_Valid : codeF n_ref15_Valid = some x_ref15_Valid := by kernel_rfl
theorem res_ref47_att : codeF n_ref47_att = some x_ref47_att := by kernel_rfl
theorem res_ref15_Agent : codeF n_ref15_Agent = some x_ref15_Agent := by kernel_rfl
theorem res_ref01_App : codeF n_ref01_App = some x_ref01_App := by kernel_rfl
theorem res_ref44_Same : codeF n_ref44_Same = some x_ref44_Same := by kernel_rfl
theorem res_slices_Index_string : codeF n_slices_Index_string = some x_slices_Index_string := by kernel_rfl
theorem res_ref01_Compare : codeF n_ref01_Compare = some x_ref01_Compare := by kernel_rfl
theorem res_term_Valid : codeF n_term_Valid = some x_term_Valid := by kernel_rfl
theorem res_cast_agent : codeF n_cast_agent = some x_cast_agent := by kernel_rfl
theorem res_slices_Contains_string : codeF n_slices_Contains_string = some x_slices_Contains_string := by kernel_rfl
theorem res_translate_att : codeF n_translate_att = some x_translate_att := by kernel_rfl
theorem res_ref01_IsName : codeF n_ref01_IsName = some x_ref01_IsName := by kernel_rfl
theorem res_ref15_hash : codeF n_ref15_hash = some x_ref15_hash := by kernel_rfl
theorem res_ref15_find : codeF n_ref15_find = some x_ref15_find := by kernel_rfl
theorem res_ref01_Atom : codeF n_ref01_Atom = some x_ref01_Atom := by kernel_rfl
theorem res_ref01_Size : codeF n_ref01_Size = some x_ref01_Size := by kernel_rfl
theorem res_ref01_number : codeF n_ref01_number = some x_ref01_number := by kernel_rfl
theorem res_term_check : codeF n_term_check = some x_term_check := by kernel_rfl
theorem res_ref01_letter : codeF n_ref01_letter = some x_ref01_letter := by kernel_rfl
theorem res_ref01_digit : codeF n_ref01_digit = some x_ref01_digit := by kernel_rfl
theorem res_term_isName : codeF n_term_isName = some x_term_isName := by kernel_rfl
theorem res_term_Compare : codeF n_term_Compare = some x_term_Compare := by kernel_rfl
theorem res_term_part : codeF n_term_part = some x_term_part := by kernel_rfl
theorem res_term_sign : codeF n_term_sign = some x_term_sign := by kernel_rfl
theorem res_term_Size : codeF n_term_Size = some x_term_Size := by kernel_rfl
theorem res_strings_Compare : codeF n_strings_Compare = some x_strings_Compare := by kernel_rfl
end Go.Abs.Q
namespace Go.Abs
def Ends (r : Option (Ex × St)) (Ψ : Ex → Fr → AH → Prop) : Prop := match r with | some (e, fr, h) => Ψ e fr h | none => False
@[congr] theorem Ends_congr {r r' : Option (Ex × St)} {Ψ : Ex → Fr → AH → Prop} (h : r = r') : Ends r Ψ = Ends r' Ψ := by rw [h]
@[simp] theorem Ends_some (e : Ex) (fr : Fr) (h : AH) (Ψ : Ex → Fr → AH → Prop) : Ends (some (e, fr, h)) Ψ = Ψ e fr h := _root_.id rfl
def SQ (O : Orc) (c : Ctx) (y : RCode) (Ψ : Ex → Fr → AH → Prop) : Ex → Fr → AH → Prop
  | .normal, fr, h => Ends (evalCode O c y (fr, h)) Ψ
  | e, fr, h => Ψ e fr h
section
variable (O : Orc) (c : Ctx) (y : RCode) (Ψ : Ex → Fr → AH → Prop)
@[simp] theorem SQ_n (fr : Fr) (h : AH) : SQ O c y Ψ .normal fr h = Ends (evalCode O c y (fr, h)) Ψ := _root_.id rfl
@[simp] theorem SQ_r (fr : Fr) (h : AH) : SQ O c y Ψ .ret fr h = Ψ .ret fr h := _root_.id rfl
@[simp] theorem SQ_e (i : Nat) (fr : Fr) (h : AH) : SQ O c y Ψ (.exit i) fr h = Ψ (.exit i) fr h := _root_.id rfl
@[simp] theorem Ends_sqn (r : Option (Ex × St)) : Ends (sqn r O c y) Ψ = Ends r (SQ O c y Ψ) := by
  cases r with
  | none => rfl
  | some x => obtain ⟨e, fr, h⟩ := x; cases e <;> rfl
end
def BL (id : Nat) (Ψ : Ex → Fr → AH → Prop) : Ex → Fr → AH → Prop
  | .exit i, fr, h => if i = id then Ψ .normal fr h else Ψ (.exit i) fr h
  | e, fr, h => Ψ e fr h
@[simp] theorem BL_n (id : Nat) (Ψ : Ex → Fr → AH → Prop) (fr : Fr) (h : AH) : BL id Ψ .normal fr h = Ψ .normal fr h := _root_.id rfl
@[simp] theorem BL_r (id : Nat) (Ψ : Ex → Fr → AH → Prop) (fr : Fr) (h : AH) : BL id Ψ .ret fr h = Ψ .ret fr h := _root_.id rfl
@[simp] theorem BL_e (id i : Nat) (Ψ : Ex → Fr → AH → Prop) (fr : Fr) (h : AH) : BL id Ψ (.exit i) fr h = if i = id then Ψ .normal fr h else Ψ (.exit i) fr h := _root_.id rfl
@[simp] theorem Ends_kbl (id : Nat) (r : Option (Ex × St)) (Ψ : Ex → Fr → AH → Prop) : Ends (kbl id r) Ψ = Ends r (BL id Ψ) := by
  cases r with
  | none => rfl
  | some x =>
    obtain ⟨e, fr, h⟩ := x
    cases e with
    | exit i =>
      by_cases hi : i = id
      · subst hi; simp [kbl, BL]
      · simp [kbl, BL, hi]
    | _ => rfl
theorem Ends.mono {r : Option (Ex × St)} {Φ Ψ : Ex → Fr → AH → Prop} (h : Ends r Φ) (k : ∀ e fr h, Φ e fr h → Ψ e fr h) : Ends r Ψ := by
  cases r with
  | none => exact h.elim
  | some x => exact k _ _ _ h
theorem Ends.elim' {r : Option (Ex × St)} {Φ : Ex → Fr → AH → Prop} (h : Ends r Φ) : ∃ e fr h', r = some (e, fr, h') ∧ Φ e fr h' := by
  cases r with
  | none => exact h.elim
  | some x => exact ⟨_, _, _, rfl, h⟩
theorem Ends_lp {step : St → Option (Ex × St)} {Ψ : Ex → Fr → AH → Prop} (Inv : Nat → Fr → AH → Prop)
    (H : ∀ n fr h, Inv n fr h → Ends (step (fr, h)) fun e fr' h' => (e = .normal ∧ ∃ m, m < n ∧ Inv m fr' h') ∨ (e ≠ .normal ∧ Ψ e fr' h')) :
    ∀ (n : Nat) (fr : Fr) (h : AH), Inv n fr h → Ends (lp step (fr, h)) Ψ := by
  intro n
  induction n using Nat.strongRecOn with
  | _ n ih =>
    intro fr h hi
    obtain ⟨e, fr', h', he, hp⟩ := (H n fr h hi).elim'
    rcases hp with ⟨rfl, m, hm, hi'⟩ | ⟨hne, hp⟩
    · obtain ⟨e2, fr2, h2, he2, hp2⟩ := (ih m hm fr' h' hi').elim'
      rw [lp_go he he2]
      exact hp2
    · cases e with
      | normal => exact absurd rfl hne
      | exit i => rw [lp_exit he]; exact hp
      | ret => rw [lp_ret he]; exact hp
theorem Ends_list {α : Type} {step : St → Option (Ex × St)} {Ψ : Ex → Fr → AH → Prop} (all : List α) (Inv : List α → Fr → AH → Prop)
    (last : ∀ fr h, Inv all fr h → Ends (step (fr, h)) fun e fr' h' => e ≠ .normal ∧ Ψ e fr' h')
    (next : ∀ done x rest, done ++ x :: rest = all → ∀ fr h, Inv done fr h → Ends (step (fr, h)) fun e fr' h' => (e = .normal ∧ Inv (done ++ [x]) fr' h') ∨ (e ≠ .normal ∧ Ψ e fr' h')) :
    ∀ (fr : Fr) (h : AH), Inv [] fr h → Ends (lp step (fr, h)) Ψ := by
  intro fr h hi
  refine Ends_lp (fun n fr h => ∃ done rest, done ++ rest = all ∧ rest.length = n ∧ Inv done fr h) (fun n fr h ⟨done, rest, he, hn, hi⟩ => ?_) all.length fr h ⟨[], all, rfl, rfl, hi⟩
  cases rest with
  | nil =>
    rw [List.append_nil] at he
    subst he
    exact (last fr h hi).mono fun e fr' h' hp => .inr hp
  | cons x rest =>
    refine (next done x rest he fr h hi).mono fun e fr' h' hp => ?_
    rcases hp with ⟨h1, h2⟩ | hp
    · exact .inl ⟨h1, rest.length, by simp at hn; omega, done ++ [x], rest, by simpa using he, rfl, h2⟩
    · exact .inr hp
def FIN (rs : List RRes) (r : AV) : Ex → Fr → AH → Prop
  | .exit _, _, _ => False
  | _, fr, h => fin rs fr h = some r
@[simp] theorem FIN_n (rs : List RRes) (r : AV) (fr : Fr) (h : AH) : FIN rs r .normal fr h = (fin rs fr h = some r) := _root_.id rfl
@[simp] theorem FIN_r (rs : List RRes) (r : AV) (fr : Fr) (h : AH) : FIN rs r .ret fr h = (fin rs fr h = some r) := _root_.id rfl
theorem pc_ends {C : Cfg} {f : FuncId} {rf : RFunc} {args : List AV} {r : AV} (hs : C.spec f = none) (hc : C.code f = some rf) (hl : args.length ≤ rf.ntmps)
    (H : ∀ fr : Fr, fr.length = rf.ntmps → (∀ i, look fr i = args.getD i undefA) → Ends (evalCode (lim C) (C.ctx f) rf.body (fr, ⟨[], []⟩)) (FIN rf.results r)) : pc C f args = some r := by
  refine pc_run hs hc hl fun fr h1 h2 => ?_
  obtain ⟨e, fr', h', he, hp⟩ := (H fr h1 h2).elim'
  rw [he]
  cases e with
  | exit i => exact hp.elim
  | normal => exact hp
  | ret => exact hp
def RFIN (rs : List RRes) (Φ : AV → AH → Prop) : Ex → Fr → AH → Prop
  | .exit _, _, _ => False
  | _, fr, h => ∃ vs, resA fr h rs = some vs ∧ Φ (tupled vs) h
@[simp] theorem RFIN_n (rs : List RRes) (Φ : AV → AH → Prop) (fr : Fr) (h : AH) : RFIN rs Φ .normal fr h = (∃ vs, resA fr h rs = some vs ∧ Φ (tupled vs) h) := _root_.id rfl
@[simp] theorem RFIN_r (rs : List RRes) (Φ : AV → AH → Prop) (fr : Fr) (h : AH) : RFIN rs Φ .ret fr h = (∃ vs, resA fr h rs = some vs ∧ Φ (tupled vs) h) := _root_.id rfl
theorem rc_ends {C : Cfg} {f : FuncId} {rf : RFunc} {args : List AV} {h : AH} {Φ : AV → AH → Prop} (hc : C.code f = some rf) (hl : args.length ≤ rf.ntmps)
    (H : ∀ fr : Fr, fr.length = rf.ntmps → (∀ i, look fr i = args.getD i undefA) → Ends (evalCode (lim C) (C.ctx f) rf.body (fr, h)) (RFIN rf.results Φ)) (hrst : (C.ctx f).rst = false := by rfl) : ∃ v h', rc C f args h = some (v, h') ∧ Φ v h' := by
  obtain ⟨hl', hlook⟩ := look_start hl
  obtain ⟨e, fr', h', he, hp⟩ := (H _ hl' hlook).elim'
  have key : ∃ vs, resA fr' h' rf.results = some vs ∧ Φ (tupled vs) h' := by
    cases e with
    | exit i => exact hp.elim
    | normal => exact hp
    | ret => exact hp
  obtain ⟨vs, hv, hΦ⟩ := key
  refine ⟨tupled vs, h', ?_, hΦ⟩
  have hq : (tupled vs, h') = rstQ (C.ctx f).rst (tupled vs, h') := by rw [hrst]; rfl
  rw [hq]
  refine rc_of C ?_
  unfold rawA
  simp only [hc]
  unfold evalBody
  rw [he]
  cases e with
  | exit i => exact hp.elim
  | normal => simp only [hv]; rfl
  | ret => simp only [hv]; rfl
def RCode.wr : RCode → List Nat
  | .region _ ops => ops.filterMap (·.dst)
  | .regd _ ops => ops.filterMap (·.dst)
  | .seq a b => a.wr ++ b.wr
  | .cond _ a b => a.wr ++ b.wr
  | .block _ a => a.wr
  | .loop a => a.wr
  | _ => []
def Kp (ws : List Nat) (fr fr' : Fr) : Prop := fr'.length = fr.length ∧ ∀ j, j ∉ ws → look fr' j = look fr j
theorem Kp.refl (ws : List Nat) (fr : Fr) : Kp ws fr fr := ⟨rfl, fun _ _ => rfl⟩
theorem Kp.trans {ws : List Nat} {a b c : Fr} (h : Kp ws a b) (k : Kp ws b c) : Kp ws a c := ⟨k.1.trans h.1, fun j hj => (k.2 j hj).trans (h.2 j hj)⟩
theorem Kp.mono {ws ws' : List Nat} {a b : Fr} (h : Kp ws a b) (hs : ∀ j, j ∈ ws → j ∈ ws') : Kp ws' a b := ⟨h.1, fun j hj => h.2 j fun k => hj (hs j k)⟩
theorem Kp.put (fr : Fr) (d : Option Nat) (v : AV) {ws : List Nat} (hd : ∀ x, d = some x → x ∈ ws) : Kp ws fr (put fr d v) := by
  cases d with
  | none => exact Kp.refl _ _
  | some d =>
    refine ⟨by simp, fun j hj => ?_⟩
    have hne : d ≠ j := fun e => hj (e ▸ hd d rfl)
    simp [look_set_ne fr v hne]
section
variable {C : Cfg} {c : Ctx}
theorem ops_keep {O : Orc} : ∀ {ros : List RO} {fr : Fr} {h : AH} {x : Fr × AH} {ws : List Nat}, (∀ j, j ∈ ros.filterMap (·.dst) → j ∈ ws) → evalOps O c ros fr h = some x → Kp ws fr x.1
  | [], fr, h, x, ws, _, he => by
    simp only [evalOps] at he
    cases he
    exact Kp.refl _ _
  | o :: ros, fr, h, x, ws, hs, he => by
    have h1 : ∀ y, o.dst = some y → y ∈ ws := fun y hy => hs y (by simp [hy])
    have h2 : ∀ j, j ∈ ros.filterMap (·.dst) → j ∈ ws := fun j hj => hs j (by
      rw [List.filterMap_cons]
      split
      · exact hj
      · exact List.mem_cons_of_mem _ hj)
    simp only [evalOps] at he
    cases hw : wantedA fr o.guard with
    | none => rw [hw] at he; cases he
    | some b =>
      rw [hw] at he
      cases b with
      | false => exact (Kp.put fr o.dst _ h1).trans (ops_keep h2 he)
      | true =>
        dsimp only at he
        cases hop : evalOp O c o.op fr h with
        | none => rw [hop] at he; cases he
        | some y =>
          rw [hop] at he
          exact (Kp.put fr o.dst _ h1).trans (ops_keep h2 he)
theorem iter_keep {step : St → Option (Ex × St)} {ws : List Nat} (hs : ∀ s x, step s = some x → Kp ws s.1 x.2.1) : ∀ (n : Nat) (s : St) (x : Ex × St), iter step n s = some x → Kp ws s.1 x.2.1
  | 0, s, x, he => by simp [iter] at he
  | n + 1, s, x, he => by
    simp only [iter] at he
    cases h1 : step s with
    | none => rw [h1] at he; cases he
    | some y =>
      rw [h1] at he
      have k := hs s y h1
      obtain ⟨e, s'⟩ := y
      cases e with
      | normal => exact k.trans (iter_keep hs n s' x he)
      | exit id => cases he; exact k
      | ret => cases he; exact k
theorem code_keep : ∀ (rc : RCode) (s : St) (x : Ex × St), evalCode (lim C) c rc s = some x → Kp rc.wr s.1 x.2.1 := by
  intro rc
  induction rc with
  | skip => intro s x he; cases he; exact Kp.refl _ _
  | region d ros =>
    intro s x he
    simp only [evalCode] at he
    cases hs : evalOps (lim C) c ros s.1 s.2 with
    | none => rw [hs] at he; cases he
    | some y =>
      rw [hs] at he
      cases he
      exact ops_keep (fun j hj => hj) hs
  | regd bs ros =>
    intro s x he
    simp only [evalCode] at he
    cases hs : evalOpsD (lim C) c ros s.1 (s.2.holes (nAt ros)) with
    | none => rw [hs] at he; cases he
    | some y =>
      rw [hs] at he
      dsimp only at he
      split at he
      · cases he
        exact ops_keep (fun j hj => hj) (evalOpsD_ops hs)
      · cases he
  | seq a b iha ihb =>
    intro s x he
    simp only [evalCode] at he
    cases hs : evalCode (lim C) c a s with
    | none => rw [hs] at he; cases he
    | some y =>
      rw [hs] at he
      have k := (iha s y hs).mono (ws' := (RCode.seq a b).wr) fun j hj => List.mem_append_left _ hj
      obtain ⟨e, s'⟩ := y
      cases e with
      | normal => exact k.trans ((ihb _ _ he).mono fun j hj => List.mem_append_right _ hj)
      | exit id => cases he; exact k
      | ret => cases he; exact k
  | cond q a b iha ihb =>
    intro s x he
    simp only [evalCode] at he
    split at he
    · exact (iha _ _ he).mono fun j hj => List.mem_append_left _ hj
    · exact (ihb _ _ he).mono fun j hj => List.mem_append_right _ hj
    · cases he
  | block id a ih =>
    intro s x he
    simp only [evalCode] at he
    cases hs : evalCode (lim C) c a s with
    | none => rw [hs] at he; cases he
    | some y =>
      rw [hs] at he
      have k := ih s y hs
      obtain ⟨e, s'⟩ := y
      cases e with
      | normal => cases he; exact k
      | exit i =>
        simp only at he
        split at he <;> cases he <;> exact k
      | ret => cases he; exact k
  | loop a ih =>
    intro s x he
    obtain ⟨n, hn⟩ := lp_iter he
    exact iter_keep ih n s x hn
  | exit id => intro s x he; cases he; exact Kp.refl _ _
  | ret => intro s x he; cases he; exact Kp.refl _ _
  | bad => intro s x he; cases he
theorem Ends_keep {rc : RCode} {ws : List Nat} (hw : rc.wr = ws) {fr : Fr} {h : AH} {Ψ : Ex → Fr → AH → Prop} (H : Ends (evalCode (lim C) c rc (fr, h)) Ψ) : Ends (evalCode (lim C) c rc (fr, h)) fun e fr' h' => Kp ws fr fr' ∧ Ψ e fr' h' := by
  subst hw
  obtain ⟨e, fr', h', he, hp⟩ := H.elim'
  have k := code_keep rc _ _ he
  rw [he]
  exact ⟨k, hp⟩
theorem Ends_lpk {body : RCode} {Ψ : Ex → Fr → AH → Prop} {ws : List Nat} (hw : body.wr = ws) (fr0 : Fr) (Inv : Nat → Fr → AH → Prop)
    (H : ∀ n fr h, Kp ws fr0 fr → Inv n fr h → Ends (evalCode (lim C) c body (fr, h)) fun e fr' h' => (e = .normal ∧ ∃ m, m < n ∧ Inv m fr' h') ∨ (e ≠ .normal ∧ Ψ e fr' h'))
    (n : Nat) (h : AH) (hi : Inv n fr0 h) : Ends (lp (evalCode (lim C) c body) (fr0, h)) fun e fr' h' => Kp ws fr0 fr' ∧ Ψ e fr' h' := by
  refine Ends_lp (fun n fr h => Kp ws fr0 fr ∧ Inv n fr h) (fun n fr h ⟨k, hi⟩ => ?_) n fr0 h ⟨Kp.refl _ _, hi⟩
  refine (Ends_keep hw (H n fr h k hi)).mono fun e fr' h' ⟨k', hp⟩ => ?_
  rcases hp with ⟨h1, m, h2, h3⟩ | ⟨h1, h2⟩
  · exact .inl ⟨h1, m, h2, k.trans k', h3⟩
  · exact .inr ⟨h1, k.trans k', h2⟩
end
theorem Ends_lpw {C : Cfg} {c : Ctx} {body : RCode} {Ψ : Ex → Fr → AH → Prop} {ws : List Nat} (hw : body.wr = ws) (fr0 : Fr) (Inv : Nat → Fr → AH → Prop)
    (H : ∀ (J : Nat → Fr → AH → Prop) (Φ : Ex → Fr → AH → Prop), (∀ n fr h, Inv n fr h → J n fr h) → (∀ e fr h, Ψ e fr h → Φ e fr h) → ∀ n fr h, Kp ws fr0 fr → Inv n fr h →
      Ends (evalCode (lim C) c body (fr, h)) fun e fr' h' => (e = .normal ∧ ∃ m, m < n ∧ J m fr' h') ∨ (e ≠ .normal ∧ Φ e fr' h'))
    (n : Nat) (h : AH) (hi : Inv n fr0 h) : Ends (lp (evalCode (lim C) c body) (fr0, h)) fun e fr' h' => Kp ws fr0 fr' ∧ Ψ e fr' h' :=
  Ends_lpk hw fr0 Inv (H Inv Ψ (fun _ _ _ h => h) (fun _ _ _ h => h)) n h hi
def EFIN (rs : List RRes) (Φ : AV → Prop) : Ex → Fr → AH → Prop
  | .exit _, _, _ => False
  | _, fr, h => ∃ r, fin rs fr h = some r ∧ Φ r
@[simp] theorem EFIN_n (rs : List RRes) (Φ : AV → Prop) (fr : Fr) (h : AH) : EFIN rs Φ .normal fr h = (∃ r, fin rs fr h = some r ∧ Φ r) := _root_.id rfl
@[simp] theorem EFIN_r (rs : List RRes) (Φ : AV → Prop) (fr : Fr) (h : AH) : EFIN rs Φ .ret fr h = (∃ r, fin rs fr h = some r ∧ Φ r) := _root_.id rfl
theorem pc_ends_ex0 {C : Cfg} {f : FuncId} {rf : RFunc} {args : List AV} {Φ : AV → Prop} (hs : C.spec f = none) (hc : C.code f = some rf) (hl : args.length ≤ rf.ntmps)
    (H : ∀ fr : Fr, fr.length = rf.ntmps → (∀ i, look fr i = args.getD i undefA) → Ends (evalCode (lim C) (C.ctx f) rf.body (fr, ⟨[], []⟩)) (EFIN rf.results Φ)) : ∃ r, pc C f args = some r ∧ Φ r := by
  obtain ⟨hl', hlook⟩ := look_start hl
  obtain ⟨e, fr', h', he, hp⟩ := (H _ hl' hlook).elim'
  have key : ∃ r, fin rf.results fr' h' = some r ∧ Φ r := by
    cases e with
    | exit i => exact hp.elim
    | normal => exact hp
    | ret => exact hp
  obtain ⟨r, hr, hΦ⟩ := key
  refine ⟨r, pc_run hs hc hl fun fr h1 h2 => ?_, hΦ⟩
  have hfr : fr = startFr rf args := by
    apply List.ext_getElem (h1.trans hl'.symm)
    intro i g1 g2
    have a := h2 i
    have b := hlook i
    simp only [look, List.getD, List.getElem?_eq_getElem g1, List.getElem?_eq_getElem g2, Option.getD_some] at a b
    exact a.trans b.symm
  subst hfr
  rw [he]
  cases e with
  | exit i => exact hp.elim
  | normal => exact hr
  | ret => exact hr
theorem pc_ends_ex {C : Cfg} {f : FuncId} {rf : RFunc} {args : List AV} {Φ : AV → Prop} (hs : C.spec f = none) (hc : C.code f = some rf) (hl : args.length ≤ rf.ntmps)
    (H : ∀ Ψ : AV → Prop, (∀ r, Φ r → Ψ r) → ∀ fr : Fr, fr.length = rf.ntmps → (∀ i, look fr i = args.getD i undefA) → Ends (evalCode (lim C) (C.ctx f) rf.body (fr, ⟨[], []⟩)) (EFIN rf.results Ψ)) : ∃ r, pc C f args = some r ∧ Φ r :=
  pc_ends_ex0 hs hc hl (H Φ fun _ h => h)
@[simp] theorem tame_int (h : AH) (k : IntKind) (n : Int) : tame h (.int k n) = true := _root_.id rfl
@[simp] theorem tame_bool (h : AH) (b : Bool) : tame h (.bool b) = true := _root_.id rfl
@[simp] theorem tame_str (h : AH) (s : ByteArray) : tame h (.str s) = true := _root_.id rfl
@[simp] theorem tame_agg (h : AH) (cs : List AV) : tame h (.agg cs) = cs.all (tame1 h) := _root_.id rfl
@[simp] theorem tame1_int (h : AH) (k : IntKind) (n : Int) : tame1 h (.int k n) = true := _root_.id rfl
@[simp] theorem tame1_bool (h : AH) (b : Bool) : tame1 h (.bool b) = true := _root_.id rfl
@[simp] theorem tame1_str (h : AH) (s : ByteArray) : tame1 h (.str s) = true := _root_.id rfl
@[simp] theorem tame_vs (h : AH) (f : Bool) (sz : Nat) (xs : List AV) : tame h (.vs f sz xs) = true := _root_.id rfl
@[simp] theorem tame1_vs (h : AH) (f : Bool) (sz : Nat) (xs : List AV) : tame1 h (.vs f sz xs) = true := _root_.id rfl
@[simp] theorem isTup_view (k n off len : Nat) : (AV.sl k n off len).isTup = false := _root_.id rfl
@[simp] theorem cells_view (k n off len : Nat) : (AV.sl k n off len).cells = [.sl k n off len] := _root_.id rfl
@[simp] theorem isTup_ptr (b off : Nat) : (AV.ptr b off).isTup = false := _root_.id rfl
@[simp] theorem cells_ptr (b off : Nat) : (AV.ptr b off).cells = [.ptr b off] := _root_.id rfl
@[simp] theorem isTup_vs (f : Bool) (sz : Nat) (xs : List AV) : (AV.vs f sz xs).isTup = false := _root_.id rfl
@[simp] theorem cells_vs (f : Bool) (sz : Nat) (xs : List AV) : (AV.vs f sz xs).cells = [.vs f sz xs] := _root_.id rfl
def AV.isAgg : AV → Bool
  | .agg _ => true
  | _ => false
def RSpec.of (run : List AV → AH → Option (AV × AH)) : RSpec := ⟨fun _ => run, fun _ _ _ _ he => ⟨[], fun _ hp => (nomatch hp), fun _ _ => he⟩⟩
def insRun (K bytes : Nat) (args : List AV) (h : AH) : Option (AV × AH) :=
  match args with
  | [s, .int .i64 i, .vs _ z [x]] =>
    if z = K ∧ x.isAgg = true then
      match s with
      | .sl k n off len =>
        match h.fams[k]? with
        | some f =>
          if f.xs.length = n ∧ off = 0 ∧ len = n ∧ 0 < n ∧ f.wr = true ∧ f.sz = K ∧ 0 ≤ i ∧ i ≤ n ∧ (n + 1) * bytes ≤ roomA ∧ n + 1 ≤ maxLen then
            some (.sl k (n + 1) 0 (n + 1), { h with fams := h.fams.set k { f with xs := f.xs.take i.toNat ++ x :: f.xs.drop i.toNat } })
          else none
        | none => none
      | .vs true _ [] => if i = 0 ∧ bytes ≤ roomA then some (.sl h.fams.length 1 0 1, { h with fams := h.fams ++ [⟨[x], K, true⟩] }) else none
      | _ => none
    else none
  | _ => none
def insR (K bytes : Nat) : RSpec := .of (insRun K bytes)
def insRun0 (K bytes : Nat) (args : List AV) (h : AH) : Option (AV × AH) :=
  match args with
  | [.vs true z [], i, x] => insRun K bytes [.vs true z [], i, x] h
  | _ => none
def insR0 (K bytes : Nat) : RSpec := .of (insRun0 K bytes)
def growRun (K bytes : Nat) (b : Bool) (args : List AV) (h : AH) : Option (AV × AH) :=
  match args with
  | [.vs true z [], .int .i64 n] =>
    if n = 0 then some (.vs true z [], h)
    else if 0 < n ∧ n * bytes ≤ roomA ∧ n ≤ maxLen then some (.sl h.fams.length 0 0 0, { h with fams := h.fams ++ [⟨[], K, b⟩] })
    else none
  | _ => none
def growR (K bytes : Nat) (b : Bool := false) : RSpec := .of (growRun K bytes b)
end Go.Abs
namespace Go.Abs.Q
open Go.Proofs
def cmpBytes (a b : ByteArray) : Int := if Op.bytesLess a.toList b.toList then -1 else if a.toList = b.toList then 0 else 1
def specCmp : List AV → Option AV
  | [.str a, .str b] => some (.int .i64 (cmpBytes a b))
  | _ => none
def specHas : List AV → Option AV
  | [.str a, .str b] => match b.data.toList with | [c] => some (.bool (a.data.toList.contains c)) | _ => none
  | _ => none
def specIB : List AV → Option AV
  | [.str a, .int .u8 c] => some (.int .i64 (Lib.indexByte a.data.toList c.toNat.toUInt8))
  | _ => none
def specIX : List AV → Option AV
  | [.str a, .str b] => match b.data.toList with | [c] => some (.int .i64 (Lib.indexByte a.data.toList c)) | _ => none
  | _ => none
def specF (f : FuncId) : Option (List AV → Option AV) := if f = n_bytealg_CompareString then some specCmp else if f = n_strings_Contains then some specHas else if f = n_stringslite_IndexByte then some specIB else if f = n_strings_Index then some specIX else none
def rspecF (f : FuncId) : Option RSpec := if f = n_slices_Insert_Term then some (insR 4 56) else if f = n_slices_Insert_Power then some (insR0 5 64) else if f = n_slices_Grow_Term then some (growR 4 56 true) else none
noncomputable def Q : Cfg := ⟨codeF, ctxF, specF, rspecF⟩
theorem Q_code (f : FuncId) : Q.code f = codeF f := by
  simp only [Q]
theorem Q_spec (f : FuncId) : Q.spec f = specF f := by
  simp only [Q]
@[simp] theorem Q_ctx (f : FuncId) : Q.ctx f = ctxF f := by
  simp only [Q]
@[simp] theorem ctxF_mut (f : FuncId) : (ctxF f).mutApp = mutF f := _root_.id rfl
@[simp] theorem ctxF_rawv (f : FuncId) : (ctxF f).rawv = rawvF f := _root_.id rfl
@[simp] theorem ctxF_noB (f : FuncId) : (ctxF f).noB = noBF := _root_.id rfl
@[simp] theorem ctxF_ro (f : FuncId) : (ctxF f).ro = roF f := _root_.id rfl
theorem pc_spec {f : FuncId} {s : List AV → Option AV} (h : specF f = some s) {args : List AV} {r : AV} (hr : s args = some r) : pc Q f args = some r := by
  apply pc_of
  unfold pureA
  have e : Q.spec f = some s := h
  rw [e]
  exact hr
theorem pc_cmp (a b : ByteArray) : pc Q n_bytealg_CompareString [.str a, .str b] = some (.int .i64 (cmpBytes a b)) := pc_spec (s := specCmp) rfl rfl
theorem pc_has (a : ByteArray) (c : UInt8) : pc Q n_strings_Contains [.str a, .str ⟨#[c]⟩] = some (.bool (a.data.toList.contains c)) := pc_spec (s := specHas) rfl rfl
theorem pcQ {f : FuncId} {rf : RFunc} {args : List AV} {r : AV} (hc : codeF f = some rf) (hs : specF f = none) (hl : args.length ≤ rf.ntmps)
    (H : ∀ fr : Fr, fr.length = rf.ntmps → (∀ i, look fr i = args.getD i undefA) → Ends (evalCode (lim Q) (ctxF f) rf.body (fr, ⟨[], []⟩)) (FIN rf.results r)) : pc Q f args = some r :=
  pc_ends (C := Q) ((Q_spec f).trans hs) ((Q_code f).trans hc) hl fun fr h1 h2 => by
    rw [Q_ctx]
    exact H fr h1 h2
theorem rcQ {f : FuncId} {rf : RFunc} {args : List AV} {h : AH} {Φ : AV → AH → Prop} (hc : codeF f = some rf) (hl : args.length ≤ rf.ntmps)
    (H : ∀ fr : Fr, fr.length = rf.ntmps → (∀ i, look fr i = args.getD i undefA) → Ends (evalCode (lim Q) (ctxF f) rf.body (fr, h)) (RFIN rf.results Φ)) (hrst : (ctxF f).rst = false := by rfl) : ∃ v h', rc Q f args h = some (v, h') ∧ Φ v h' :=
  rc_ends (C := Q) ((Q_code f).trans hc) hl (fun fr h1 h2 => by
    rw [Q_ctx]
    exact H fr h1 h2) (by rw [Q_ctx]; exact hrst)
end Go.Abs.Q
namespace Go.Abs.Q
attribute [local simp] look_set_ne look_set_eq fin tupled code_loop
def cmpI (a b : Int) : Int := if a < b then -1 else if b < a then 1 else 0
theorem pc_sign (a b : Int) : pc Q n_term_sign [.int .i64 a, .int .i64 b] = some (.int .i64 (cmpI a b)) := by
  refine pcQ res_term_sign rfl (by simp [x_term_sign]) fun fr hl ha => ?_
  have h0 := ha 0
  have h1 := ha 1
  simp [x_term_sign] at hl h0 h1 ⊢
  by_cases h : a < b
  · simp [*, cmpI]
  · by_cases h' : b < a <;> simp [*, cmpI]
theorem pc_number (a b : Int) : pc Q n_ref01_number [.int .i64 a, .int .i64 b] = some (.int .i64 (cmpI a b)) := by
  refine pcQ res_ref01_number rfl (by simp [x_ref01_number]) fun fr hl ha => ?_
  have h0 := ha 0
  have h1 := ha 1
  simp [x_ref01_number] at hl h0 h1 ⊢
  by_cases h : a < b
  · simp [*, cmpI]
  · by_cases h' : b < a <;> simp [*, cmpI]
theorem pc_Size : ∀ (n : Nat) (t : Tm), t.size ≤ n → t.size ≤ 1099511627776 → pc Q n_term_Size [tmV t] = some (.int .i64 t.size) := by
  intro n
  induction n with
  | zero => intro t h; have := t.size_pos; omega
  | succ n ih =>
    intro t hn hb
    obtain ⟨k, nm, s, m, kids⟩ := t
    have hsz : Tm.size (.mk k nm s m kids) = 1 + Tm.sizes kids := rfl
    refine pcQ res_term_Size rfl (by simp [x_term_Size]) fun fr hl ha => ?_
    have h0 := ha 0
    clear ha
    simp [x_term_Size, tmV] at hl h0 ⊢
    simp [*]
    refine (Ends_list (Ψ := fun e fr h => e = .exit 0 ∧ look fr 3 = .int .i64 (1 + Tm.sizes kids : Nat) ∧ fr.length = 19) kids
      (fun done fr h => fr.length = 19 ∧ look fr 3 = .int .i64 (1 + Tm.sizes done : Nat) ∧ look fr 7 = sl m 4 (tmVs kids) ∧ look fr 8 = .int .i64 kids.length ∧ look fr 9 = .int .i64 done.length) ?_ ?_ _ _ ?_).mono ?_
    · rintro fr h ⟨hl, h3, h7, h8, h9⟩
      simp [x_term_Size_0, *]
    · rintro done t rest he fr h ⟨hl, h3, h7, h8, h9⟩
      have hget : nth (tmVs kids) done.length = some (tmV t) := nth_tmVs (by rw [← he]; simp)
      have hlt : done.length < kids.length := by rw [← he]; simp
      have hts : t.size ≤ Tm.sizes kids := Tm.size_le (by rw [← he]; simp)
      have hT := ih t (by omega) (by omega)
      have hlen := Tm.length_le kids
      have hsum : Tm.sizes done + (t.size + Tm.sizes rest) = Tm.sizes kids := by rw [← he, Tm.sizes_append]; rfl
      have hw1 : IntKind.i64.wrap (1 + (Tm.sizes done : Int) + (t.size : Int)) = 1 + (Tm.sizes (done ++ [t]) : Int) := by
        rw [Tm.sizes_append, wrap_id (by omega) (by omega)]
        simp only [Tm.sizes]
        omega
      have hw2 : IntKind.i64.wrap ((done.length : Int) + 1) = ((done ++ [t]).length : Nat) := by
        rw [wrap_id (by omega) (by omega)]
        simp
      obtain ⟨tk, tn, ts, tm, tl⟩ := t
      simp only [tmV] at hT hget
      simp [x_term_Size_0, *]
    · simp [*, Tm.sizes, tmVs_map]
    · rintro e fr h ⟨rfl, h3, hl⟩
      simp [*]
theorem pc_refSize : ∀ (n : Nat) (t : Tm), t.size ≤ n → t.size ≤ 1099511627776 → pc Q n_ref01_Size [tmV t] = some (.int .i64 t.size) := by
  intro n
  induction n with
  | zero => intro t h; have := t.size_pos; omega
  | succ n ih =>
    intro t hn hb
    obtain ⟨k, nm, s, m, kids⟩ := t
    have hsz : Tm.size (.mk k nm s m kids) = 1 + Tm.sizes kids := rfl
    refine pcQ res_ref01_Size rfl (by simp [x_ref01_Size]) fun fr hl ha => ?_
    have h0 := ha 0
    clear ha
    simp [x_ref01_Size, tmV] at hl h0 ⊢
    simp [h0]
    refine (Ends_list (Ψ := fun e fr h => e = .exit 0 ∧ look fr 3 = .int .i64 (1 + Tm.sizes kids : Nat) ∧ fr.length = 21) kids
      (fun done fr h => fr.length = 21 ∧ look fr 1 = .ptr 0 0 ∧ h = ⟨[[.int .i64 k, .str nm, .int .i64 s, sl m 4 (tmVs kids)]], []⟩ ∧ look fr 3 = .int .i64 (1 + Tm.sizes done : Nat) ∧ look fr 4 = .int .i64 done.length) ?_ ?_ _ _ ?_).mono ?_
    · rintro fr h ⟨hl, h1, rfl, h3, h4⟩
      simp [x_ref01_Size_0, tmVs_map, *]
    · rintro done t rest he fr h ⟨hl, h1, rfl, h3, h4⟩
      have hget : nth (tmVs kids) done.length = some (tmV t) := nth_tmVs (by rw [← he]; simp)
      have hlt : done.length < kids.length := by rw [← he]; simp
      have hts : t.size ≤ Tm.sizes kids := Tm.size_le (by rw [← he]; simp)
      have hT := ih t (by omega) (by omega)
      have hlen := Tm.length_le kids
      have hsum : Tm.sizes done + (t.size + Tm.sizes rest) = Tm.sizes kids := by rw [← he, Tm.sizes_append]; rfl
      have hw1 : IntKind.i64.wrap (1 + (Tm.sizes done : Int) + (t.size : Int)) = 1 + (Tm.sizes (done ++ [t]) : Int) := by
        rw [Tm.sizes_append, wrap_id (by omega) (by omega)]
        simp only [Tm.sizes]
        omega
      have hw2 : IntKind.i64.wrap ((done.length : Int) + 1) = ((done ++ [t]).length : Nat) := by
        rw [wrap_id (by omega) (by omega)]
        simp
      obtain ⟨tk, tn, ts, tm, tl⟩ := t
      simp only [tmV] at hT hget
      simp [x_ref01_Size_0, *]
    · simp [*, Tm.sizes]
    · rintro e fr h ⟨rfl, h3, hl⟩
      simp [*]
theorem pc_strCmp (a b : ByteArray) : pc Q n_strings_Compare [.str a, .str b] = some (.int .i64 (cmpBytes a b)) := by
  refine pcQ res_strings_Compare rfl (by simp [x_strings_Compare]) fun fr hl ha => ?_
  have h0 := ha 0
  have h1 := ha 1
  clear ha
  simp [x_strings_Compare] at hl h0 h1 ⊢
  simp [*, pc_cmp]
def nz (a b : Int) : Int := if a = 0 then b else a
mutual
def cmpT : Tm → Tm → Int
  | .mk k n s _ l, .mk k' n' s' _ l' => nz (cmpI (1 + Tm.sizes l : Nat) (1 + Tm.sizes l' : Nat)) (nz (cmpI k k') (nz (cmpBytes n n') (nz (cmpI s s') (nz (cmpI l.length l'.length) (cmpTs l l')))))
def cmpTs : List Tm → List Tm → Int
  | t :: l, t' :: l' => nz (cmpT t t') (cmpTs l l')
  | _, _ => 0
end
theorem cmpI_len {a b : Nat} (h : cmpI (a : Int) (b : Int) = 0) : a = b := by
  unfold cmpI at h
  split at h
  · omega
  · split at h <;> omega
theorem cmpTs_nil (l : List Tm) : cmpTs [] l = 0 := by cases l <;> rfl
theorem pc_Compare : ∀ (n : Nat) (t t' : Tm), t.size ≤ n → t.size ≤ 1099511627776 → t'.size ≤ 1099511627776 → pc Q n_term_Compare [tmV t, tmV t'] = some (.int .i64 (cmpT t t')) := by
  intro n
  induction n with
  | zero => intro t t' h; have := t.size_pos; omega
  | succ n ih =>
    intro t t' hn hb hb'
    have hS := pc_Size _ t (Nat.le_refl _) hb
    have hS' := pc_Size _ t' (Nat.le_refl _) hb'
    obtain ⟨k, nm, s, m, l⟩ := t
    obtain ⟨k', nm', s', m', l'⟩ := t'
    have hsz : Tm.size (.mk k nm s m l) = 1 + Tm.sizes l := rfl
    have hsz' : Tm.size (.mk k' nm' s' m' l') = 1 + Tm.sizes l' := rfl
    have hlen := Tm.length_le l
    simp only [tmV, hsz, hsz'] at hS hS'
    have loop : ∀ (fr : Fr) (c : Int), fr.length = 65 → look fr 2 = .ptr 0 0 → look fr 3 = .ptr 1 0 → look fr 5 = .int .i64 c → look fr 6 = .int .i64 0 → (c = 0 → l.length = l'.length) →
        Ends (lp (evalCode (lim Q) (ctxF n_term_Compare) x_term_Compare_0) (fr, ⟨[[.int .i64 k, .str nm, .int .i64 s, sl m 4 (tmVs l)], [.int .i64 k', .str nm', .int .i64 s', sl m' 4 (tmVs l')]], []⟩))
          fun e fr' _ => e = .exit 0 ∧ fr'.length = 65 ∧ look fr' 5 = .int .i64 (nz c (cmpTs l l')) := by
      intro fr c hl h2 h3 h5 h6 hc
      refine Ends_lp (fun n fr h => ∃ i c', i + n = l.length ∧ fr.length = 65 ∧ look fr 2 = .ptr 0 0 ∧ look fr 3 = .ptr 1 0 ∧ look fr 5 = .int .i64 c' ∧ look fr 6 = .int .i64 (i : Nat) ∧ (c' = 0 → l.length = l'.length) ∧
        nz c' (cmpTs (l.drop i) (l'.drop i)) = nz c (cmpTs l l') ∧ h = ⟨[[.int .i64 k, .str nm, .int .i64 s, sl m 4 (tmVs l)], [.int .i64 k', .str nm', .int .i64 s', sl m' 4 (tmVs l')]], []⟩) ?_ l.length fr _ ⟨0, c, by omega, hl, h2, h3, h5, h6, hc, rfl, rfl⟩
      rintro n fr h ⟨i, c', hi, hl, h2, h3, h5, h6, hc', hr, rfl⟩
      by_cases hc0 : c' = 0
      · subst hc0
        have hle := hc' rfl
        by_cases hlt : i < l.length
        · have hx : nth (tmVs l) i = some (tmV l[i]) := nth_tmVs (by simp [hlt])
          have hx' : nth (tmVs l') i = some (tmV (l'[i]'(by omega))) := nth_tmVs (by simp [show i < l'.length by omega])
          have s1 := Tm.size_le (List.getElem_mem hlt)
          have s2 := Tm.size_le (List.getElem_mem (show i < l'.length by omega))
          have hT := ih l[i] (l'[i]'(by omega)) (by omega) (by omega) (by omega)
          have hw : IntKind.i64.wrap ((i : Int) + 1) = (i : Int) + 1 := wrap_id (by omega) (by omega)
          rw [List.drop_eq_getElem_cons hlt, List.drop_eq_getElem_cons (show i < l'.length by omega)] at hr
          simp only [cmpTs, nz, if_true] at hr
          generalize l[i] = t at *
          generalize l'[i]'(by omega) = t' at *
          obtain ⟨tk, tn, ts, tm, tl⟩ := t
          obtain ⟨tk', tn', ts', tm', tl'⟩ := t'
          simp only [tmV] at hT hx hx'
          clear ih hS hS' hc hsz hsz'
          simp [x_term_Compare_0, hl, h2, h3, h5, h6, hlt, hx, hx', hT, hw]
          exact ⟨n - 1, by omega, i + 1, by omega, by simp, fun _ => hle, hr⟩
        · have h0 : l.length ≤ i := by omega
          rw [List.drop_eq_nil_of_le h0, cmpTs_nil] at hr
          clear ih hS hS' hc hsz hsz' hle hc'
          simp [x_term_Compare_0, hl, h2, h3, h5, h6, hlt]
          exact hr
      · clear ih hS hS' hc hsz hsz'
        simp [x_term_Compare_0, *]
        simpa [nz, hc0] using hr
    refine pcQ res_term_Compare rfl (by simp [x_term_Compare]) fun fr hl ha => ?_
    have h0 := ha 0
    have h1 := ha 1
    clear ha ih
    simp [x_term_Compare, tmV] at hl h0 h1 ⊢
    by_cases e0 : cmpI (1 + (Tm.sizes l : Int)) (1 + (Tm.sizes l' : Int)) = 0
    · by_cases e1 : cmpI k k' = 0
      · by_cases e2 : cmpBytes nm nm' = 0
        · by_cases e3 : cmpI s s' = 0
          · by_cases e4 : cmpI (l.length : Int) (l'.length : Int) = 0
            · simp [e0, e1, e2, e3, e4, h0, h1, hl, hS, hS', pc_sign, pc_strCmp]
              refine (loop _ (0) (by simp [hl]) (by simp [hl]) (by simp [hl]) (by simp [hl]) (by simp [hl]) ?_).mono ?_
              · intro hc
                exact cmpI_len e4
              · rintro e fr h ⟨rfl, hl, h5⟩
                simp [hl, h5, cmpT, nz, e0, e1, e2, e3, e4]
            · simp [e0, e1, e2, e3, e4, h0, h1, hl, hS, hS', pc_sign, pc_strCmp]
              refine (loop _ (cmpI (l.length : Int) (l'.length : Int)) (by simp [hl]) (by simp [hl]) (by simp [hl]) (by simp [hl]) (by simp [hl]) ?_).mono ?_
              · intro hc
                exact absurd hc e4
              · rintro e fr h ⟨rfl, hl, h5⟩
                simp [hl, h5, cmpT, nz, e0, e1, e2, e3, e4]
          · simp [e0, e1, e2, e3, h0, h1, hl, hS, hS', pc_sign, pc_strCmp]
            refine (loop _ (cmpI s s') (by simp [hl]) (by simp [hl]) (by simp [hl]) (by simp [hl]) (by simp [hl]) ?_).mono ?_
            · intro hc
              exact absurd hc e3
            · rintro e fr h ⟨rfl, hl, h5⟩
              simp [hl, h5, cmpT, nz, e0, e1, e2, e3]
        · simp [e0, e1, e2, h0, h1, hl, hS, hS', pc_sign, pc_strCmp]
          refine (loop _ (cmpBytes nm nm') (by simp [hl]) (by simp [hl]) (by simp [hl]) (by simp [hl]) (by simp [hl]) ?_).mono ?_
          · intro hc
            exact absurd hc e2
          · rintro e fr h ⟨rfl, hl, h5⟩
            simp [hl, h5, cmpT, nz, e0, e1, e2]
      · simp [e0, e1, h0, h1, hl, hS, hS', pc_sign, pc_strCmp]
        refine (loop _ (cmpI k k') (by simp [hl]) (by simp [hl]) (by simp [hl]) (by simp [hl]) (by simp [hl]) ?_).mono ?_
        · intro hc
          exact absurd hc e1
        · rintro e fr h ⟨rfl, hl, h5⟩
          simp [hl, h5, cmpT, nz, e0, e1]
    · simp [e0, h0, h1, hl, hS, hS', pc_sign, pc_strCmp]
      refine (loop _ (cmpI (1 + (Tm.sizes l : Int)) (1 + (Tm.sizes l' : Int))) (by simp [hl]) (by simp [hl]) (by simp [hl]) (by simp [hl]) (by simp [hl]) ?_).mono ?_
      · intro hc
        exact absurd hc e0
      · rintro e fr h ⟨rfl, hl, h5⟩
        simp [hl, h5, cmpT, nz, e0]
theorem pc_refCompare : ∀ (n : Nat) (t t' : Tm), t.size ≤ n → t.size ≤ 1099511627776 → t'.size ≤ 1099511627776 → pc Q n_ref01_Compare [tmV t, tmV t'] = some (.int .i64 (cmpT t t')) := by
  intro n
  induction n with
  | zero => intro t t' h; have := t.size_pos; omega
  | succ n ih =>
    intro t t' hn hb hb'
    have hS := pc_refSize _ t (Nat.le_refl _) hb
    have hS' := pc_refSize _ t' (Nat.le_refl _) hb'
    obtain ⟨k, nm, s, m, l⟩ := t
    obtain ⟨k', nm', s', m', l'⟩ := t'
    have hsz : Tm.size (.mk k nm s m l) = 1 + Tm.sizes l := rfl
    have hsz' : Tm.size (.mk k' nm' s' m' l') = 1 + Tm.sizes l' := rfl
    have hlen := Tm.length_le l
    simp only [tmV, hsz, hsz'] at hS hS'
    have loop : ∀ (fr : Fr), fr.length = 76 → look fr 2 = .ptr 0 0 → look fr 3 = .ptr 1 0 → look fr 9 = .int .i64 0 → l.length = l'.length →
        Ends (lp (evalCode (lim Q) (ctxF n_ref01_Compare) x_ref01_Compare_0) (fr, ⟨[[.int .i64 k, .str nm, .int .i64 s, sl m 4 (tmVs l)], [.int .i64 k', .str nm', .int .i64 s', sl m' 4 (tmVs l')]], []⟩))
          fun e fr' _ => fr'.length = 76 ∧ (e = .exit 0 ∧ cmpTs l l' = 0 ∨ e = .ret ∧ look fr' 4 = .int .i64 (cmpTs l l')) := by
      intro fr hl h2 h3 h9 hle
      refine Ends_lp (fun n fr h => ∃ i, i + n = l.length ∧ fr.length = 76 ∧ look fr 2 = .ptr 0 0 ∧ look fr 3 = .ptr 1 0 ∧ look fr 9 = .int .i64 (i : Nat) ∧
        cmpTs (l.drop i) (l'.drop i) = cmpTs l l' ∧ h = ⟨[[.int .i64 k, .str nm, .int .i64 s, sl m 4 (tmVs l)], [.int .i64 k', .str nm', .int .i64 s', sl m' 4 (tmVs l')]], []⟩) ?_ l.length fr _ ⟨0, by omega, hl, h2, h3, h9, rfl, rfl⟩
      rintro n fr h ⟨i, hi, hl, h2, h3, h9, hr, rfl⟩
      by_cases hlt : i < l.length
      · have hx : nth (tmVs l) i = some (tmV l[i]) := nth_tmVs (by simp [hlt])
        have hx' : nth (tmVs l') i = some (tmV (l'[i]'(by omega))) := nth_tmVs (by simp [show i < l'.length by omega])
        have s1 := Tm.size_le (List.getElem_mem hlt)
        have s2 := Tm.size_le (List.getElem_mem (show i < l'.length by omega))
        have hT := ih l[i] (l'[i]'(by omega)) (by omega) (by omega) (by omega)
        have hw : IntKind.i64.wrap ((i : Int) + 1) = (i : Int) + 1 := wrap_id (by omega) (by omega)
        rw [List.drop_eq_getElem_cons hlt, List.drop_eq_getElem_cons (show i < l'.length by omega)] at hr
        simp only [cmpTs, nz] at hr
        generalize l[i] = t at *
        generalize l'[i]'(by omega) = t' at *
        obtain ⟨tk, tn, ts, tm, tl⟩ := t
        obtain ⟨tk', tn', ts', tm', tl'⟩ := t'
        simp only [tmV] at hT hx hx'
        by_cases hc : cmpT (Tm.mk tk tn ts tm tl) (Tm.mk tk' tn' ts' tm' tl') = 0
        · rw [if_pos hc] at hr
          simp [x_ref01_Compare_0, hl, h2, h3, h9, hlt, hx, hx', hT, hw, hc]
          exact ⟨n - 1, by omega, i + 1, by omega, by simp, hr⟩
        · rw [if_neg hc] at hr
          simp [x_ref01_Compare_0, hl, h2, h3, h9, hlt, hx, hx', hT, hw, hc]
          exact hr
      · have h0 : l.length ≤ i := by omega
        rw [List.drop_eq_nil_of_le h0, cmpTs_nil] at hr
        simp [x_ref01_Compare_0, hl, h2, h3, h9, hlt]
        exact hr.symm
    refine pcQ res_ref01_Compare rfl (by simp [x_ref01_Compare]) fun fr hl ha => ?_
    have h0 := ha 0
    have h1 := ha 1
    clear ha ih
    simp [x_ref01_Compare, tmV] at hl h0 h1 ⊢
    by_cases e0 : cmpI (1 + (Tm.sizes l : Int)) (1 + (Tm.sizes l' : Int)) = 0
    · by_cases e1 : cmpI k k' = 0
      · by_cases e2 : Op.bytesLess nm.toList nm'.toList = true
        · simp [e0, e1, e2, h0, h1, hl, hS, hS', pc_number]
          simp [cmpT, nz, e0, e1, e2, cmpBytes]
        · by_cases e3 : nm.toList = nm'.toList
          · have e2' := e2
            rw [e3] at e2'
            by_cases e5 : cmpI s s' = 0
            · by_cases e4 : cmpI (l.length : Int) (l'.length : Int) = 0
              · simp [e0, e1, e2, e2', e3, e5, e4, h0, h1, hl, hS, hS', pc_number]
                refine (loop _ (by simp [hl]) (by simp [hl]) (by simp [hl]) (by simp [hl]) (cmpI_len e4)).mono ?_
                rintro e fr h ⟨hl, ⟨rfl, hz⟩ | ⟨rfl, h5⟩⟩
                · simp [hl, cmpT, nz, e0, e1, e2, e2', e3, e5, e4, cmpBytes, hz]
                · simp [hl, h5, cmpT, nz, e0, e1, e2, e2', e3, e5, e4, cmpBytes]
              · simp [e0, e1, e2, e2', e3, e5, e4, h0, h1, hl, hS, hS', pc_number]
                simp [cmpT, nz, e0, e1, e2, e2', e3, e5, e4, cmpBytes]
            · simp [e0, e1, e2, e2', e3, e5, h0, h1, hl, hS, hS', pc_number]
              simp [cmpT, nz, e0, e1, e2, e2', e3, e5, cmpBytes]
          · simp [e0, e1, e2, e3, h0, h1, hl, hS, hS', pc_number]
            simp [cmpT, nz, e0, e1, e2, e3, cmpBytes]
      · simp [e0, e1, h0, h1, hl, hS, hS', pc_number]
        simp [cmpT, nz, e0, e1, cmpBytes]
    · simp [e0, h0, h1, hl, hS, hS', pc_number]
      simp [cmpT, nz, e0, cmpBytes]
end Go.Abs.Q
namespace Go.Abs.Q
mutual
def bud : Tm → Int → Int
  | .mk _ n _ _ l, most => if most ≤ 0 ∨ (40 : Int) < n.size then -1 else buds l (most - 1)
def buds : List Tm → Int → Int
  | [], most => most
  | t :: l, most => if bud t most < 0 then -1 else buds l (bud t most)
end
mutual
theorem bud_le : ∀ (t : Tm) (m : Int), bud t m ≤ m ∨ bud t m = -1
  | .mk _ n _ _ l, m => by
    simp only [bud]
    split
    · exact .inr rfl
    · rcases buds_le l (m - 1) with h | h
      · exact .inl (by omega)
      · exact .inr h
theorem buds_le : ∀ (l : List Tm) (m : Int), buds l m ≤ m ∨ buds l m = -1
  | [], m => .inl (Int.le_refl _)
  | t :: l, m => by
    simp only [buds]
    split
    · exact .inr rfl
    · rename_i hb
      rcases bud_le t m with h | h
      · rcases buds_le l (bud t m) with h' | h'
        · exact .inl (by omega)
        · exact .inr h'
      · omega
end
end Go.Abs.Q
namespace Go.Abs.Q
attribute [local simp] look_set_ne look_set_eq fin tupled code_loop
theorem slcA_sl (h : AH) (m : Bool × Bool) (sz : Nat) (hsz : 0 < sz) (xs : List AV) (lo hi : Option Int) : slcA h sz (sl m sz xs) (some lo) (some hi) (some none) =
    if 0 ≤ lo.getD 0 ∧ lo.getD 0 ≤ hi.getD xs.length ∧ hi.getD xs.length ≤ xs.length then
      some (sl (m.1 && decide (hi.getD xs.length = xs.length), m.2 || !xs.isEmpty) sz ((xs.drop (lo.getD 0).toNat).take (hi.getD xs.length - lo.getD 0).toNat), h) else none := by
  have hz : (if (xs.isEmpty && !m.2) = true then 0 else sz) = sz ∨ xs.length = 0 := by
    cases xs with
    | nil => exact .inr rfl
    | cons x xs => exact .inl rfl
  simp only [slcA, sl, sliceA]
  rw [if_pos ⟨hsz, hz⟩]
  by_cases hc : 0 ≤ lo.getD 0 ∧ lo.getD 0 ≤ hi.getD xs.length ∧ hi.getD xs.length ≤ xs.length
  · rw [if_pos hc, if_pos hc]
    have e : ((if (xs.isEmpty && !m.2) = true then 0 else sz) : Nat) = (if (((xs.drop (lo.getD 0).toNat).take (hi.getD xs.length - lo.getD 0).toNat).isEmpty && !(m.2 || !xs.isEmpty)) = true then 0 else sz) := by
      cases xs with
      | nil => simp
      | cons x xs => simp
    rw [e]
  · rw [if_neg hc, if_neg hc]
theorem slc_drop (h : AH) (m : Bool × Bool) (sz : Nat) (hsz : 0 < sz) (xs : List AV) (k : Nat) (hk : k ≤ xs.length) :
    slcA h sz (sl m sz xs) (some (some (k : Int))) (some none) (some none) = some (sl (m.1, m.2 || !xs.isEmpty) sz (xs.drop k), h) := by
  rw [slcA_sl _ _ _ hsz]
  have e : ((xs.length : Int) - (k : Int)).toNat = xs.length - k := by omega
  simp only [Option.getD_some, Option.getD_none, decide_true, Bool.and_true, Int.toNat_natCast, e]
  rw [if_pos ⟨by omega, by omega, by omega⟩, List.take_of_length_le (by simp)]
theorem slc_take (h : AH) (m : Bool × Bool) (sz : Nat) (hsz : 0 < sz) (xs : List AV) (k : Nat) (hk : k ≤ xs.length) :
    slcA h sz (sl m sz xs) (some none) (some (some (k : Int))) (some none) = some (sl (m.1 && decide (k = xs.length), m.2 || !xs.isEmpty) sz (xs.take k), h) := by
  rw [slcA_sl _ _ _ hsz]
  have e : decide ((k : Int) = (xs.length : Int)) = decide (k = xs.length) := by
    rw [Bool.eq_iff_iff]
    simp only [decide_eq_true_eq]
    omega
  simp only [Option.getD_some, Option.getD_none, Int.sub_zero, Int.toNat_natCast, e, Int.toNat_zero, List.drop_zero]
  rw [if_pos ⟨by omega, by omega, by omega⟩]
def idxFrom {α : Type} (p : α → Bool) : Nat → List α → Int
  | _, [] => -1
  | i, a :: r => if p a = true then (i : Int) else idxFrom p (i + 1) r
def idx {α : Type} (p : α → Bool) (l : List α) : Int := idxFrom p 0 l
theorem idxFrom_ge {α : Type} (p : α → Bool) : ∀ (l : List α) (i : Nat), (0 ≤ idxFrom p i l) ↔ l.any p = true
  | [], i => by simp [idxFrom]
  | a :: l, i => by
    simp only [idxFrom, List.any_cons, Bool.or_eq_true]
    by_cases h : p a = true
    · simp [h]
    · rw [if_neg h, idxFrom_ge p l (i + 1)]
      simp [h]
theorem dec_t {p : Prop} [Decidable p] (h : p) : decide p = true := by simp [h]
theorem dec_f {p : Prop} [Decidable p] (h : ¬p) : decide p = false := by simp [h]
def letB (c : Nat) : Bool := decide (97 ≤ c ∧ c ≤ 122) || decide (65 ≤ c ∧ c ≤ 90)
def digB (c : Nat) : Bool := decide (48 ≤ c ∧ c ≤ 57)
def parB (c : Nat) : Bool := letB c || digB c || decide (c = 95) || decide (c = 35)
theorem ranges (c : Nat) : c < 35 ∨ c = 35 ∨ (36 ≤ c ∧ c ≤ 47) ∨ (48 ≤ c ∧ c ≤ 57) ∨ (58 ≤ c ∧ c ≤ 64) ∨ (65 ≤ c ∧ c ≤ 90) ∨ (91 ≤ c ∧ c ≤ 94) ∨ c = 95 ∨ c = 96 ∨ (97 ≤ c ∧ c ≤ 122) ∨ 123 ≤ c := by omega
theorem pc_part (c : Nat) : pc Q n_term_part [.int .u8 c] = some (.bool (parB c)) := by
  refine pcQ res_term_part rfl (by simp [x_term_part]) fun fr hl ha => ?_
  have h0 := ha 0
  clear ha
  simp [x_term_part] at hl h0
  rcases ranges c with h | h | h | h | h | h | h | h | h | h | h <;> simp (disch := omega) only [parB, letB, digB, dec_t, dec_f, Bool.true_or, Bool.or_true, Bool.false_or, Bool.or_false] <;> simp (disch := first | omega | (simp only [List.length_set]; omega)) [x_term_part, h0, hl, dec_t, dec_f]
theorem pc_letter (c : Nat) : pc Q n_ref01_letter [.int .u8 c] = some (.bool (letB c)) := by
  refine pcQ res_ref01_letter rfl (by simp [x_ref01_letter]) fun fr hl ha => ?_
  have h0 := ha 0
  clear ha
  simp [x_ref01_letter] at hl h0
  rcases ranges c with h | h | h | h | h | h | h | h | h | h | h <;> simp (disch := omega) only [parB, letB, digB, dec_t, dec_f, Bool.true_or, Bool.or_true, Bool.false_or, Bool.or_false] <;> simp (disch := first | omega | (simp only [List.length_set]; omega)) [x_ref01_letter, h0, hl, dec_t, dec_f]
theorem pc_digit (c : Nat) : pc Q n_ref01_digit [.int .u8 c] = some (.bool (digB c)) := by
  refine pcQ res_ref01_digit rfl (by simp [x_ref01_digit]) fun fr hl ha => ?_
  have h0 := ha 0
  clear ha
  simp [x_ref01_digit] at hl h0
  rcases ranges c with h | h | h | h | h | h | h | h | h | h | h <;> simp (disch := omega) only [parB, letB, digB, dec_t, dec_f, Bool.true_or, Bool.or_true, Bool.false_or, Bool.or_false] <;> simp (disch := first | omega | (simp only [List.length_set]; omega)) [x_ref01_digit, h0, hl, dec_t, dec_f]
abbrev bys (s : ByteArray) : List UInt8 := s.data.toList
theorem bys_get (s : ByteArray) (j : Nat) : s[j]? = (bys s)[j]? := by
  obtain ⟨⟨l⟩⟩ := s
  by_cases h : j < l.length
  · have h1 : j < ByteArray.size ⟨⟨l⟩⟩ := h
    rw [getElem?_pos (⟨⟨l⟩⟩ : ByteArray) j h1]
    simp only [bys]
    rw [List.getElem?_eq_getElem h]
    rfl
  · have h1 : ¬j < ByteArray.size ⟨⟨l⟩⟩ := h
    rw [getElem?_neg (⟨⟨l⟩⟩ : ByteArray) j h1]
    simp only [bys]
    rw [List.getElem?_eq_none (by omega)]
theorem bys_len (s : ByteArray) : (bys s).length = s.size := by
  obtain ⟨⟨l⟩⟩ := s
  rfl
def nameB (s : ByteArray) : Bool := match bys s with | [] => false | c :: r => decide (s.size ≤ 24) && letB c.toNat && (c :: r).all fun c => parB c.toNat
def hashB (s : ByteArray) : Bool := (bys s).contains 35
theorem loop_isName (s : ByteArray) (hs : s.size ≤ 24) (fr : Fr) (h : AH) (hl : fr.length = 48) (h0 : look fr 0 = .str s) (h38 : look fr 38 = .int .i64 s.size) (h39 : look fr 39 = .int .i64 0) :
    Ends (lp (evalCode (lim Q) (ctxF n_term_isName) x_term_isName_0) (fr, h)) fun e fr' h' => Kp x_term_isName_0.wr fr fr' ∧ (e = .exit 0 ∧ ((bys s).all fun c => parB c.toNat) = true ∨ e = .ret ∧ look fr' 2 = .bool false ∧ ((bys s).all fun c => parB c.toNat) = false) := by
  refine Ends_lpw rfl fr (fun n fr h => ∃ i : Nat, i + n = s.size ∧ look fr 39 = .int .i64 (i : Nat) ∧ (((bys s).drop i).all fun c => parB c.toNat) = ((bys s).all fun c => parB c.toNat)) ?_ s.size h ⟨0, by omega, h39, rfl⟩
  rintro J Φ hJ hΦ n fr1 h1' K ⟨i, hi, k39, hr⟩
  have hl1 : fr1.length = 48 := K.1.trans hl
  have k0 := (K.2 0 (by decide)).trans h0
  have k38 := (K.2 38 (by decide)).trans h38
  have hlen := bys_len s
  by_cases hlt : i < s.size
  · have hlt' : i < (bys s).length := by omega
    have hx : s[i]? = some (bys s)[i] := by rw [bys_get, List.getElem?_eq_getElem hlt']
    have hw : IntKind.i64.wrap ((i : Int) + 1) = (i : Int) + 1 := wrap_id (by omega) (by omega)
    rw [List.drop_eq_getElem_cons hlt', List.all_cons] at hr
    generalize (bys s)[i] = c at *
    have hP := pc_part c.toNat
    have hsi : s[i]'hlt = c := by rw [getElem?_pos s i hlt] at hx; exact Option.some.inj hx
    cases hc : parB c.toNat with
    | true =>
      rw [hc] at hP hr
      simp [x_term_isName_0, hl1, k0, k38, k39, hlt, hsi, hw, hP]
      exact ⟨n - 1, by omega, hJ _ _ _ ⟨i + 1, by omega, by simp [hl1], by simpa using hr⟩⟩
    | false =>
      rw [hc] at hP hr
      simp [x_term_isName_0, hl1, k0, k38, k39, hlt, hsi, hw, hP]
      exact hΦ _ _ _ (.inr ⟨rfl, by simp [hl1], by simpa using hr.symm⟩)
  · rw [List.drop_eq_nil_of_le (by omega)] at hr
    simp [x_term_isName_0, hl1, k38, k39, hlt]
    exact hΦ _ _ _ (.inl ⟨rfl, by simpa using hr.symm⟩)
theorem bys_nil {s : ByteArray} (h : bys s = []) : s = bs [] := by
  obtain ⟨⟨l⟩⟩ := s
  simp [bys] at h
  subst h
  rfl
theorem pc_isName (s : ByteArray) : pc Q n_term_isName [.str s] = some (.bool (nameB s)) := by
  have hlen := bys_len s
  refine pcQ res_term_isName rfl (by simp [x_term_isName]) fun fr hl ha => ?_
  have h0 := ha 0
  clear ha
  simp [x_term_isName] at hl h0
  cases hb : bys s with
  | nil =>
    have e := bys_nil hb
    subst e
    simp [x_term_isName, hl, h0, nameB, hb]
  | cons c r =>
    rw [hb] at hlen
    simp only [List.length_cons] at hlen
    have hne : ¬(s.toList = (bs []).toList) := by
      rw [Lib.toList_data, Lib.toList_data, show s.data.toList = c :: r from hb]
      intro e
      cases e
    have hpos : 0 < s.size := by omega
    have hx : s[0]? = some c := by rw [bys_get, hb]; rfl
    have hsi : s[0]'hpos = c := by rw [getElem?_pos s 0 hpos] at hx; exact Option.some.inj hx
    by_cases h24 : 24 < s.size
    · have h24' : (24 : Int) < (s.size : Int) := by omega
      have h24n : ¬s.size ≤ 24 := by omega
      simp [x_term_isName, hl, h0, hne, h24', nameB, hb, h24n]
    · have h24' : ¬(24 : Int) < (s.size : Int) := by omega
      have h24n : s.size ≤ 24 := by omega
      have hP := pc_part c.toNat
      cases hL : letB c.toNat with
      | false =>
        have hv : nameB s = false := by simp [nameB, hb, hL]
        rw [hv]
        cases hp : parB c.toNat with
        | false =>
          rw [hp] at hP
          simp [x_term_isName, hl, h0, hne, h24', hpos, hsi, hP]
        | true =>
          rw [hp] at hP
          have hcc : (48 ≤ c.toNat ∧ c.toNat ≤ 57) ∨ c.toNat = 95 ∨ c.toNat = 35 := by
            simp only [parB, hL, digB, Bool.false_or, Bool.or_eq_true, decide_eq_true_eq] at hp
            omega
          generalize hzv : c.toNat = z at *
          rcases hcc with hz | hz | hz <;> simp (disch := first | omega | (simp only [List.length_set]; omega)) [x_term_isName, hl, h0, hne, h24', hpos, hsi, hzv, hP, dec_t, dec_f]
      | true =>
        have hp : parB c.toNat = true := by simp [parB, hL]
        rw [hp] at hP
        have hcc : (97 ≤ c.toNat ∧ c.toNat ≤ 122) ∨ (65 ≤ c.toNat ∧ c.toNat ≤ 90) := by
          simp only [letB, Bool.or_eq_true, decide_eq_true_eq] at hL
          exact hL
        have hv : nameB s = (bys s).all fun c => parB c.toNat := by simp [nameB, hb, hL, h24n]
        rw [hv]
        have key : ∀ b, ((bys s).all fun c => parB c.toNat) = b → Ends (evalCode (lim Q) (ctxF n_term_isName) x_term_isName.body (fr, ⟨[], []⟩)) (FIN x_term_isName.results (.bool b)) := by
          intro b hbv
          generalize hzv : c.toNat = z at *
          have q1 : ¬(z : Int) = 95 := by omega
          have q2 : ¬(z : Int) = 35 := by omega
          have q3 : ¬((z : Int) ≤ 57) := by omega
          have q4 : (48 : Int) ≤ (z : Int) := by omega
          simp [x_term_isName, hl, h0, hne, h24', hpos, hsi, hzv, hP, q1, q2, q3, q4]
          refine (loop_isName s h24n _ _ (by simp [hl]) (by simp [hl, h0]) (by simp [hl]) (by simp [hl])).mono ?_
          rintro e fr' h' ⟨K, ⟨rfl, he⟩ | ⟨rfl, h2, he⟩⟩
          · have hl' : fr'.length = 48 := K.1.trans (by simp [hl])
            rw [hbv] at he
            simp [hl', he]
          · rw [hbv] at he
            simp [h2, he]
        exact key _ rfl
theorem rloop_IsName (s : ByteArray) (hs : s.size ≤ 24) (fr : Fr) (h : AH) (hl : fr.length = 48) (h0 : look fr 0 = .str s) (h3 : look fr 3 = .int .i64 0) :
    Ends (lp (evalCode (lim Q) (ctxF n_ref01_IsName) x_ref01_IsName_0) (fr, h)) fun e fr' h' => Kp x_ref01_IsName_0.wr fr fr' ∧ (e = .exit 0 ∧ ((bys s).all fun c => parB c.toNat) = true ∨ e = .ret ∧ look fr' 2 = .bool false ∧ ((bys s).all fun c => parB c.toNat) = false) := by
  refine Ends_lpw rfl fr (fun n fr h => ∃ i : Nat, i + n = s.size ∧ look fr 3 = .int .i64 (i : Nat) ∧ (((bys s).drop i).all fun c => parB c.toNat) = ((bys s).all fun c => parB c.toNat)) ?_ s.size h ⟨0, by omega, h3, rfl⟩
  rintro J Φ hJ hΦ n fr1 h1' K ⟨i, hi, k3, hr⟩
  have hl1 : fr1.length = 48 := K.1.trans hl
  have k0 := (K.2 0 (by decide)).trans h0
  have hlen := bys_len s
  by_cases hlt : i < s.size
  · have hlt' : i < (bys s).length := by omega
    have hx : s[i]? = some (bys s)[i] := by rw [bys_get, List.getElem?_eq_getElem hlt']
    have hw : IntKind.i64.wrap ((i : Int) + 1) = (i : Int) + 1 := wrap_id (by omega) (by omega)
    rw [List.drop_eq_getElem_cons hlt', List.all_cons] at hr
    generalize (bys s)[i] = c at *
    have hL := pc_letter c.toNat
    have hD := pc_digit c.toNat
    have hsi : s[i]'hlt = c := by rw [getElem?_pos s i hlt] at hx; exact Option.some.inj hx
    have fwd : parB c.toNat = true → (((bys s).drop (i + 1)).all fun c => parB c.toNat) = ((bys s).all fun c => parB c.toNat) := fun hp => by rw [hp] at hr; simpa using hr
    have bad : parB c.toNat = false → ((bys s).all fun c => parB c.toNat) = false := fun hp => by rw [hp] at hr; simpa using hr.symm
    clear hr
    generalize hz : c.toNat = z at *
    cases hLv : letB z with
    | true =>
      rw [hLv] at hL
      simp [x_ref01_IsName_0, hl1, k0, k3, hlt, hsi, hz, hw, hL]
      exact ⟨n - 1, by omega, hJ _ _ _ ⟨i + 1, by omega, by simp [hl1], fwd (by simp [parB, hLv])⟩⟩
    | false =>
      rw [hLv] at hL
      cases hDv : digB z with
      | true =>
        rw [hDv] at hD
        simp [x_ref01_IsName_0, hl1, k0, k3, hlt, hsi, hz, hw, hL, hD]
        exact ⟨n - 1, by omega, hJ _ _ _ ⟨i + 1, by omega, by simp [hl1], fwd (by simp [parB, hDv])⟩⟩
      | false =>
        rw [hDv] at hD
        by_cases h95 : z = 95
        · subst h95
          simp only [Int.cast_ofNat_Int] at hL hD
          simp [x_ref01_IsName_0, hl1, k0, k3, hlt, hsi, hz, hw, hL, hD]
          exact ⟨n - 1, by omega, hJ _ _ _ ⟨i + 1, by omega, by simp [hl1], fwd (by simp [parB])⟩⟩
        · have h95' : ¬(z : Int) = 95 := by omega
          by_cases h35 : z = 35
          · subst h35
            simp only [Int.cast_ofNat_Int] at hL hD
            simp [x_ref01_IsName_0, hl1, k0, k3, hlt, hsi, hz, hw, hL, hD]
            exact ⟨n - 1, by omega, hJ _ _ _ ⟨i + 1, by omega, by simp [hl1], fwd (by simp [parB])⟩⟩
          · have h35' : ¬(z : Int) = 35 := by omega
            simp [x_ref01_IsName_0, hl1, k0, k3, hlt, hsi, hz, hw, hL, hD, h95', h35']
            exact hΦ _ _ _ (.inr ⟨rfl, by simp [hl1], bad (by simp [parB, hLv, hDv, h95, h35])⟩)
  · rw [List.drop_eq_nil_of_le (by omega)] at hr
    simp [x_ref01_IsName_0, hl1, k0, k3, hlt]
    exact hΦ _ _ _ (.inl ⟨rfl, by simpa using hr.symm⟩)
theorem pc_IsName (s : ByteArray) : pc Q n_ref01_IsName [.str s] = some (.bool (nameB s)) := by
  have hlen := bys_len s
  refine pcQ res_ref01_IsName rfl (by simp [x_ref01_IsName]) fun fr hl ha => ?_
  have h0 := ha 0
  clear ha
  simp [x_ref01_IsName] at hl h0
  cases hb : bys s with
  | nil =>
    have e := bys_nil hb
    subst e
    simp [x_ref01_IsName, hl, h0, nameB, hb, show (bs []).size = 0 from rfl]
  | cons c r =>
    rw [hb] at hlen
    simp only [List.length_cons] at hlen
    have hne : ¬(s.size : Int) = 0 := by omega
    have hne' : ¬s.size = 0 := by omega
    have hpos : 0 < s.size := by omega
    have hx : s[0]? = some c := by rw [bys_get, hb]; rfl
    have hsi : s[0]'hpos = c := by rw [getElem?_pos s 0 hpos] at hx; exact Option.some.inj hx
    by_cases h24 : 24 < s.size
    · have h24' : (24 : Int) < (s.size : Int) := by omega
      have h24n : ¬s.size ≤ 24 := by omega
      simp [x_ref01_IsName, hl, h0, hne, hne', h24', nameB, hb, h24n]
    · have h24' : ¬(24 : Int) < (s.size : Int) := by omega
      have h24n : s.size ≤ 24 := by omega
      have hL := pc_letter c.toNat
      cases hLv : letB c.toNat with
      | false =>
        rw [hLv] at hL
        have hv : nameB s = false := by simp [nameB, hb, hLv]
        rw [hv]
        simp [x_ref01_IsName, hl, h0, hne, hne', h24', hpos, hsi, hL]
      | true =>
        rw [hLv] at hL
        have hv : nameB s = (bys s).all fun c => parB c.toNat := by simp [nameB, hb, hLv, h24n]
        rw [hv]
        have key : ∀ b, ((bys s).all fun c => parB c.toNat) = b → Ends (evalCode (lim Q) (ctxF n_ref01_IsName) x_ref01_IsName.body (fr, ⟨[], []⟩)) (FIN x_ref01_IsName.results (.bool b)) := by
          intro b hbv
          simp [x_ref01_IsName, hl, h0, hne, hne', h24', hpos, hsi, hL]
          refine (rloop_IsName s h24n _ _ (by simp [hl]) (by simp [hl, h0]) (by simp [hl])).mono ?_
          rintro e fr' h' ⟨K, ⟨rfl, he⟩ | ⟨rfl, h2, he⟩⟩
          · have hl' : fr'.length = 48 := K.1.trans (by simp [hl])
            rw [hbv] at he
            simp [hl', he]
          · rw [hbv] at he
            simp [h2, he]
        exact key _ rfl
def strsV (m : Bool × Bool) (l : List ByteArray) : AV := sl m 1 (l.map AV.str)
def eqS (x a : ByteArray) : Bool := decide (x.toList = a.toList)
theorem loop_Index_string (m : Bool × Bool) (l : List ByteArray) (x : ByteArray) (hlen : l.length ≤ 1099511627776) (fr : Fr) (h : AH) (hl : fr.length = 19)
    (h0 : look fr 0 = sl m 1 (l.map AV.str)) (h1 : look fr 1 = .str x) (h7 : look fr 7 = .int .i64 l.length) (h8 : look fr 8 = .int .i64 0) :
    Ends (lp (evalCode (lim Q) (ctxF n_slices_Index_string) x_slices_Index_string_0) (fr, h)) fun e fr' h' => Kp x_slices_Index_string_0.wr fr fr' ∧ (e = .exit 0 ∧ idx (eqS x) l = -1 ∨ e = .ret ∧ look fr' 4 = .int .i64 (idx (eqS x) l)) := by
  refine Ends_lpw rfl fr (fun n fr h => ∃ i, i + n = l.length ∧ look fr 8 = .int .i64 (i : Nat) ∧ idxFrom (eqS x) i (l.drop i) = idx (eqS x) l) ?_ l.length h ⟨0, by omega, h8, rfl⟩
  rintro J Φ hJ hΦ n fr1 h1' K ⟨i, hi, k8, hr⟩
  have hl1 : fr1.length = 19 := K.1.trans hl
  have k0 := (K.2 0 (by decide)).trans h0
  have k1 := (K.2 1 (by decide)).trans h1
  have k7 := (K.2 7 (by decide)).trans h7
  by_cases hlt : i < l.length
  · have hx := nth_map (f := AV.str) (List.getElem?_eq_getElem hlt)
    have hw : IntKind.i64.wrap ((i : Int) + 1) = (i : Int) + 1 := wrap_id (by omega) (by omega)
    rw [List.drop_eq_getElem_cons hlt] at hr
    simp only [idxFrom, eqS, decide_eq_true_eq] at hr
    generalize l[i] = a at *
    by_cases hc : x.toList = a.toList
    · rw [if_pos hc] at hr
      simp [x_slices_Index_string_0, hl1, k0, k1, k7, k8, hlt, hx, hw, hc]
      exact hΦ _ _ _ (.inr ⟨rfl, by simp [hl1]; exact hr⟩)
    · rw [if_neg hc] at hr
      simp [x_slices_Index_string_0, hl1, k0, k1, k7, k8, hlt, hx, hw, hc]
      exact ⟨n - 1, by omega, hJ _ _ _ ⟨i + 1, by omega, by simp [hl1], hr⟩⟩
  · rw [List.drop_eq_nil_of_le (by omega)] at hr
    simp [x_slices_Index_string_0, hl1, k7, k8, hlt]
    exact hΦ _ _ _ (.inl ⟨rfl, hr.symm⟩)
theorem pc_IndexStr (m : Bool × Bool) (l : List ByteArray) (x : ByteArray) (hlen : l.length ≤ 1099511627776) : pc Q n_slices_Index_string [strsV m l, .str x] = some (.int .i64 (idx (eqS x) l)) := by
  refine pcQ res_slices_Index_string rfl (by simp [x_slices_Index_string]) fun fr hl ha => ?_
  have h0 := ha 0
  have h1 := ha 1
  clear ha
  simp [x_slices_Index_string, strsV] at hl h0 h1
  simp [x_slices_Index_string, hl, h0]
  refine (loop_Index_string m l x hlen _ _ (by simp [hl]) (by simp [hl, h0]) (by simp [hl, h1]) (by simp [hl]) (by simp [hl])).mono ?_
  rintro e fr' h' ⟨K, ⟨rfl, he⟩ | ⟨rfl, h4⟩⟩
  · have hl' : fr'.length = 19 := K.1.trans (by simp [hl])
    simp [hl', he]
  · simp [h4]
theorem pc_ContainsStr (m : Bool × Bool) (l : List ByteArray) (x : ByteArray) (hlen : l.length ≤ 1099511627776) : pc Q n_slices_Contains_string [strsV m l, .str x] = some (.bool (l.any (eqS x))) := by
  have hI := pc_IndexStr m l x hlen
  have he : decide (0 ≤ idx (eqS x) l) = l.any (eqS x) := by
    rw [Bool.eq_iff_iff, decide_eq_true_iff, idx, idxFrom_ge]
  refine pcQ res_slices_Contains_string rfl (by simp [x_slices_Contains_string]) fun fr hl ha => ?_
  have h0 := ha 0
  have h1 := ha 1
  clear ha
  simp [x_slices_Contains_string, strsV] at hl h0 h1 hI
  simp [x_slices_Contains_string, hl, h0, h1, hI]
  exact he
end Go.Abs.Q
namespace Go.Abs.Q
open Go.Proofs
attribute [local simp] look_set_ne look_set_eq fin tupled code_loop
theorem bys_mk (l : List UInt8) : bys ⟨⟨l⟩⟩ = l := rfl
theorem bys_eq {a b : ByteArray} (h : bys a = bys b) : a = b := by
  obtain ⟨⟨a⟩⟩ := a
  obtain ⟨⟨b⟩⟩ := b
  simp only [bys_mk] at h
  rw [h]
theorem toL_bys (s : ByteArray) : s.toList = bys s := Lib.toList_data s
theorem toL_iff (a b : ByteArray) : a.toList = b.toList ↔ a = b := by
  rw [toL_bys, toL_bys]
  exact ⟨bys_eq, fun h => by rw [h]⟩
def twoB (l : List UInt8) : Bool := decide (l.take 2 = [35, 35])
def dblB : List UInt8 → Bool
  | [] => false
  | c :: r => twoB (c :: r) || dblB r
def lexN (s : ByteArray) : Bool := nameB s && !dblB (bys s)
structure Tk where
  kind : Int
  text : ByteArray
  num : Int
  str : ByteArray
  line : Int
end Go.Abs.Q
