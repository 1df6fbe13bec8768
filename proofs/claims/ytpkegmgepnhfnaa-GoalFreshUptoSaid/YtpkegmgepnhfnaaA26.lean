/- What holds when code ends: for loops, whose end is known only by what holds there. -/
import Derived.Test.YtpkegmgepnhfnaaA25
namespace Go.Abs

/-- The code ends, so that Ψ holds. -/
def Ends (r : Option (Ex × St)) (Ψ : Ex → Fr → AH → Prop) : Prop := match r with | some (e, fr, h) => Ψ e fr h | none => False
@[congr] theorem Ends_congr {r r' : Option (Ex × St)} {Ψ : Ex → Fr → AH → Prop} (h : r = r') : Ends r Ψ = Ends r' Ψ := by rw [h]
@[simp] theorem Ends_some (e : Ex) (fr : Fr) (h : AH) (Ψ : Ex → Fr → AH → Prop) : Ends (some (e, fr, h)) Ψ = Ψ e fr h := _root_.id rfl

def SQ (O : Orc) (c : Ctx) (y : RCode) (Ψ : Ex → Fr → AH → Prop) : Ex → Fr → AH → Prop
  | .normal, fr, h => Ends (evalCode O c y (fr, h)) Ψ
  | e, fr, h => Ψ e fr h
section
variable (O : Orc) (c : Ctx) (y : RCode) (Ψ : Ex → Fr → AH → Prop)
@[simp] theorem SQ_n (fr : Fr) (h : AH) : SQ O c y Ψ .normal fr h = Ends (evalCode O c y (fr, h)) Ψ := _root_.id rfl
@[simp] theorem SQ_r (fr : Fr) (h : AH) : SQ O c y Ψ .ret fr h = Ψ .ret fr h := _root_.id rfl
@[simp] theorem SQ_e (i : Nat) (fr : Fr) (h : AH) : SQ O c y Ψ (.exit i) fr h = Ψ (.exit i) fr h := _root_.id rfl
@[simp] theorem Ends_sqn (r : Option (Ex × St)) : Ends (sqn r O c y) Ψ = Ends r (SQ O c y Ψ) := by
  cases r with
  | none => rfl
  | some x => obtain ⟨e, fr, h⟩ := x; cases e <;> rfl
end

def BL (id : Nat) (Ψ : Ex → Fr → AH → Prop) : Ex → Fr → AH → Prop
  | .exit i, fr, h => if i = id then Ψ .normal fr h else Ψ (.exit i) fr h
  | e, fr, h => Ψ e fr h
@[simp] theorem BL_n (id : Nat) (Ψ : Ex → Fr → AH → Prop) (fr : Fr) (h : AH) : BL id Ψ .normal fr h = Ψ .normal fr h := _root_.id rfl
@[simp] theorem BL_r (id : Nat) (Ψ : Ex → Fr → AH → Prop) (fr : Fr) (h : AH) : BL id Ψ .ret fr h = Ψ .ret fr h := _root_.id rfl
@[simp] theorem BL_e (id i : Nat) (Ψ : Ex → Fr → AH → Prop) (fr : Fr) (h : AH) : BL id Ψ (.exit i) fr h = if i = id then Ψ .normal fr h else Ψ (.exit i) fr h := _root_.id rfl
@[simp] theorem Ends_kbl (id : Nat) (r : Option (Ex × St)) (Ψ : Ex → Fr → AH → Prop) : Ends (kbl id r) Ψ = Ends r (BL id Ψ) := by
  cases r with
  | none => rfl
  | some x =>
    obtain ⟨e, fr, h⟩ := x
    cases e with
    | exit i =>
      by_cases hi : i = id
      · subst hi; simp [kbl, BL]
      · simp [kbl, BL, hi]
    | _ => rfl

theorem Ends.mono {r : Option (Ex × St)} {Φ Ψ : Ex → Fr → AH → Prop} (h : Ends r Φ) (k : ∀ e fr h, Φ e fr h → Ψ e fr h) : Ends r Ψ := by
  cases r with
  | none => exact h.elim
  | some x => exact k _ _ _ h

theorem Ends.elim' {r : Option (Ex × St)} {Φ : Ex → Fr → AH → Prop} (h : Ends r Φ) : ∃ e fr h', r = some (e, fr, h') ∧ Φ e fr h' := by
  cases r with
  | none => exact h.elim
  | some x => exact ⟨_, _, _, rfl, h⟩

/-- A loop, by an invariant with a number that falls. -/
theorem Ends_lp {step : St → Option (Ex × St)} {Ψ : Ex → Fr → AH → Prop} (Inv : Nat → Fr → AH → Prop)
    (H : ∀ n fr h, Inv n fr h → Ends (step (fr, h)) fun e fr' h' => (e = .normal ∧ ∃ m, m < n ∧ Inv m fr' h') ∨ (e ≠ .normal ∧ Ψ e fr' h')) :
    ∀ (n : Nat) (fr : Fr) (h : AH), Inv n fr h → Ends (lp step (fr, h)) Ψ := by
  intro n
  induction n using Nat.strongRecOn with
  | _ n ih =>
    intro fr h hi
    obtain ⟨e, fr', h', he, hp⟩ := (H n fr h hi).elim'
    rcases hp with ⟨rfl, m, hm, hi'⟩ | ⟨hne, hp⟩
    · obtain ⟨e2, fr2, h2, he2, hp2⟩ := (ih m hm fr' h' hi').elim'
      rw [lp_go he he2]
      exact hp2
    · cases e with
      | normal => exact absurd rfl hne
      | exit i => rw [lp_exit he]; exact hp
      | ret => rw [lp_ret he]; exact hp

/-- A loop over a list: what is done, what is to do. -/
theorem Ends_list {α : Type} {step : St → Option (Ex × St)} {Ψ : Ex → Fr → AH → Prop} (all : List α) (Inv : List α → Fr → AH → Prop)
    (last : ∀ fr h, Inv all fr h → Ends (step (fr, h)) fun e fr' h' => e ≠ .normal ∧ Ψ e fr' h')
    (next : ∀ done x rest, done ++ x :: rest = all → ∀ fr h, Inv done fr h → Ends (step (fr, h)) fun e fr' h' => (e = .normal ∧ Inv (done ++ [x]) fr' h') ∨ (e ≠ .normal ∧ Ψ e fr' h')) :
    ∀ (fr : Fr) (h : AH), Inv [] fr h → Ends (lp step (fr, h)) Ψ := by
  intro fr h hi
  refine Ends_lp (fun n fr h => ∃ done rest, done ++ rest = all ∧ rest.length = n ∧ Inv done fr h) (fun n fr h ⟨done, rest, he, hn, hi⟩ => ?_) all.length fr h ⟨[], all, rfl, rfl, hi⟩
  cases rest with
  | nil =>
    rw [List.append_nil] at he
    subst he
    exact (last fr h hi).mono fun e fr' h' hp => .inr hp
  | cons x rest =>
    refine (next done x rest he fr h hi).mono fun e fr' h' hp => ?_
    rcases hp with ⟨h1, h2⟩ | hp
    · exact .inl ⟨h1, rest.length, by simp at hn; omega, done ++ [x], rest, by simpa using he, rfl, h2⟩
    · exact .inr hp

/-- At a function's end. -/
def FIN (rs : List RRes) (r : AV) : Ex → Fr → AH → Prop
  | .exit _, _, _ => False
  | _, fr, h => fin rs fr h = some r
@[simp] theorem FIN_n (rs : List RRes) (r : AV) (fr : Fr) (h : AH) : FIN rs r .normal fr h = (fin rs fr h = some r) := _root_.id rfl
@[simp] theorem FIN_r (rs : List RRes) (r : AV) (fr : Fr) (h : AH) : FIN rs r .ret fr h = (fin rs fr h = some r) := _root_.id rfl

theorem pc_ends {C : Cfg} {f : FuncId} {rf : RFunc} {args : List AV} {r : AV} (hs : C.spec f = none) (hc : C.code f = some rf) (hl : args.length ≤ rf.ntmps)
    (H : ∀ fr : Fr, fr.length = rf.ntmps → (∀ i, look fr i = args.getD i undefA) → Ends (evalCode (lim C) (C.ctx f) rf.body (fr, ⟨[], []⟩)) (FIN rf.results r)) : pc C f args = some r := by
  refine pc_run hs hc hl fun fr h1 h2 => ?_
  obtain ⟨e, fr', h', he, hp⟩ := (H fr h1 h2).elim'
  rw [he]
  cases e with
  | exit i => exact hp.elim
  | normal => exact hp
  | ret => exact hp

def RFIN (rs : List RRes) (Φ : AV → AH → Prop) : Ex → Fr → AH → Prop
  | .exit _, _, _ => False
  | _, fr, h => ∃ vs, resA fr h rs = some vs ∧ Φ (tupled vs) h
@[simp] theorem RFIN_n (rs : List RRes) (Φ : AV → AH → Prop) (fr : Fr) (h : AH) : RFIN rs Φ .normal fr h = (∃ vs, resA fr h rs = some vs ∧ Φ (tupled vs) h) := _root_.id rfl
@[simp] theorem RFIN_r (rs : List RRes) (Φ : AV → AH → Prop) (fr : Fr) (h : AH) : RFIN rs Φ .ret fr h = (∃ vs, resA fr h rs = some vs ∧ Φ (tupled vs) h) := _root_.id rfl

theorem rc_ends {C : Cfg} {f : FuncId} {rf : RFunc} {args : List AV} {h : AH} {Φ : AV → AH → Prop} (hc : C.code f = some rf) (hl : args.length ≤ rf.ntmps)
    (H : ∀ fr : Fr, fr.length = rf.ntmps → (∀ i, look fr i = args.getD i undefA) → Ends (evalCode (lim C) (C.ctx f) rf.body (fr, h)) (RFIN rf.results Φ)) : ∃ v h', rc C f args h = some (v, h') ∧ Φ v h' := by
  obtain ⟨hl', hlook⟩ := look_start hl
  obtain ⟨e, fr', h', he, hp⟩ := (H _ hl' hlook).elim'
  have key : ∃ vs, resA fr' h' rf.results = some vs ∧ Φ (tupled vs) h' := by
    cases e with
    | exit i => exact hp.elim
    | normal => exact hp
    | ret => exact hp
  obtain ⟨vs, hv, hΦ⟩ := key
  refine ⟨tupled vs, h', rc_of C ?_, hΦ⟩
  unfold rawA
  simp only [hc]
  unfold evalBody
  rw [he]
  cases e with
  | exit i => exact hp.elim
  | normal => simp only [hv]; rfl
  | ret => simp only [hv]; rfl

end Go.Abs
