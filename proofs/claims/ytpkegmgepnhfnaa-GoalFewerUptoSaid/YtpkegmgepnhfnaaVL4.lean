/- GoalFewer returns true, for every input of bulk at most 1048576; its arguments read afterwards as they read before. Conditions: none beyond the statement's own. -/
import Derived.Test.YtpkegmgepnhfnaaVL3
import Derived.KernelRfl
import Derived.ProofKit
import Derived.WalkKit
import Derived.Lib.Strings
import Derived.Lib.Slices
import Derived.Lib.Walk
import Derived.Lib.Bytealg
import Derived.Test.YtpkegmgepnhfnaaRows
import Derived.OpenShut
import Derived.JoinedCond
/- Contracts: two equal claims of different sessions: the reference's loops. -/
namespace Go.Abs.Q
attribute [local simp] look_set_ne look_set_eq fin tupled code_loop raw_goal_kind raw_ref27_kind raw_goal_equal raw_ref27_Equal raw_goal_Fresh raw_ref27_Fresh

theorem rfresh_inner (m mc : Bool × Bool) (l : List Mo) (hf : fine l) (cs : List Int) (hlen : cs.length ≤ 1099511627776) (k : Nat) (hk0 : k < cs.length) (b : Int) (hb : cs[k]? = some b) (done : List Int) (hdone : done = cs.take k) (fr : Fr) (h : AH) (hl : fr.length = 64)
    (h0 : look fr 0 = sl m 6 (l.map moV)) (h1 : look fr 1 = sl mc 1 (cs.map (AV.int .i64))) (h7 : look fr 7 = .int .i64 (k : Nat)) (h8 : look fr 8 = .int .i64 0) :
    Ends (lp (evalCode (lim Q) (ctxF n_ref27_Fresh) x_ref27_Fresh_0) (fr, h)) fun e fr' h' => fr'.length = 64 ∧ h' = h ∧ look fr' 0 = sl m 6 (l.map moV) ∧ look fr' 1 = sl mc 1 (cs.map (AV.int .i64)) ∧ look fr' 7 = .int .i64 (k : Nat) ∧
      (e = .exit 2 ∧ freshIn l b done = none ∨ e = .ret ∧ ∃ a, freshIn l b done = some a ∧ look fr' 4 = .int .i64 a ∧ look fr' 5 = .int .i64 b ∧ look fr' 6 = .bool false) := by
  have hk := pc_refkind m l
  simp only [mosV] at hk
  have hdl : done.length = k := by rw [hdone]; simp; omega
  have hxb := nth_map (f := AV.int .i64) hb
  refine Ends_lp (fun n fr h' => ∃ i, i + n = done.length ∧ h' = h ∧ fr.length = 64 ∧ look fr 0 = sl m 6 (l.map moV) ∧ look fr 1 = sl mc 1 (cs.map (AV.int .i64)) ∧ look fr 7 = .int .i64 (k : Nat) ∧ look fr 8 = .int .i64 (i : Nat) ∧ freshIn l b (done.drop i) = freshIn l b done) ?_ done.length fr h ⟨0, by omega, rfl, hl, h0, h1, h7, h8, rfl⟩
  clear h0 h1 h7 h8 hl
  rintro n fr h' ⟨i, hi, rfl, hl, h0, h1, h7, h8, hr⟩
  by_cases hlt : i < k
  · have hlt' : i < done.length := by omega
    have hd : cs[i]? = some done[i] := by subst hdone; simp [List.getElem?_eq_getElem (show i < cs.length by omega)]
    have hx := nth_map (f := AV.int .i64) hd
    have hw : IntKind.i64.wrap ((i : Int) + 1) = (i : Int) + 1 := wrap_id (by omega) (by omega)
    rw [List.drop_eq_getElem_cons hlt'] at hr
    simp only [freshIn] at hr
    generalize done[i] = a at *
    have yes : clash l a b = true → freshIn l b done = some a := fun hc => by rw [if_pos hc] at hr; exact hr.symm
    have no : ¬clash l a b = true → freshIn l b (done.drop (i + 1)) = freshIn l b done := fun hc => by rw [if_neg hc] at hr; exact hr
    have fwd : ¬clash l a b = true → ∃ m_1, m_1 < n ∧ ∃ i_1, i_1 + m_1 = done.length ∧ (i : Int) + 1 = (i_1 : Nat) ∧ freshIn l b (done.drop i_1) = freshIn l b done := fun hc => ⟨n - 1, by omega, i + 1, by omega, by simp, no hc⟩
    cases hA : atI l a with
    | none =>
      have hc : ¬clash l a b = true := by simp [clash, hA]
      simp [x_ref27_Fresh_0, hl, h0, h1, h7, h8, hlt, hx, hxb, hw, hk, kindB, hA]
      exact fwd hc
    | some x =>
      obtain ⟨g1, g2, g3, g4⟩ := atI_some hA
      by_cases hxk : x.kind = 5
      case neg =>
        have hc : ¬clash l a b = true := by
          simp only [clash, hA]
          cases atI l b <;> simp [hxk]
        simp [x_ref27_Fresh_0, hl, h0, h1, h7, h8, hlt, hx, hxb, hw, hk, kindB, hA, hxk]
        exact fwd hc
      cases hB : atI l b with
      | none =>
        have hc : ¬clash l a b = true := by simp [clash, hA, hB]
        simp [x_ref27_Fresh_0, hl, h0, h1, h7, h8, hlt, hx, hxb, hw, hk, kindB, hA, hxk, hB]
        exact fwd hc
      | some y =>
        obtain ⟨k1, k2, k3, k4⟩ := atI_some hB
        by_cases hyk : y.kind = 5
        case neg =>
          have hc : ¬clash l a b = true := by simp [clash, hA, hB, hyk]
          simp [x_ref27_Fresh_0, hl, h0, h1, h7, h8, hlt, hx, hxb, hw, hk, kindB, hA, hxk, hB, hyk]
          exact fwd hc
        have hn := nth_map (f := moV) g3
        have hn' := nth_map (f := moV) k3
        have hE := pc_Equal x y (hf x g4) (hf y k4)
        simp only [moV] at hn hn' hE
        rw [hxk] at hn hE
        rw [hyk] at hn' hE
        cases hq : eqM x y with
        | false =>
          rw [hq] at hE
          have hc : ¬clash l a b = true := by simp [clash, hA, hB, hq]
          simp [x_ref27_Fresh_0, hl, h0, h1, h7, h8, hlt, hx, hxb, hw, hk, kindB, hA, hxk, hB, hyk, g1, k1, hn, hn', hE]
          exact fwd hc
        | true =>
          rw [hq] at hE
          by_cases hnum : x.number = y.number
          · have hc : ¬clash l a b = true := by simp [clash, hA, hB, hq, hnum]
            rw [hnum] at hn hE
            simp [x_ref27_Fresh_0, hl, h0, h1, h7, h8, hlt, hx, hxb, hw, hk, kindB, hA, hxk, hB, hyk, g1, k1, hn, hn', hE, hnum]
            exact fwd hc
          · have hc : clash l a b = true := by simp [clash, hA, hB, hq, hnum, hxk, hyk]
            simp [x_ref27_Fresh_0, hl, h0, h1, h7, h8, hlt, hx, hxb, hw, hk, kindB, hA, hxk, hB, hyk, g1, k1, hn, hn', hE, hnum]
            exact yes hc
  · have e0 : done.length ≤ i := by omega
    rw [List.drop_eq_nil_of_le e0] at hr
    simp only [freshIn] at hr
    simp [x_ref27_Fresh_0, hl, h0, h1, h7, h8, hlt]
    exact hr.symm
end Go.Abs.Q

/- Contracts: two equal claims of different sessions, the reference's. -/
namespace Go.Abs.Q
attribute [local simp] look_set_ne look_set_eq fin tupled code_loop raw_ref27_kind raw_ref27_Equal raw_ref27_Fresh

theorem pc_refFresh (m mc : Bool × Bool) (l : List Mo) (hf : fine l) (cs : List Int) (hlen : cs.length ≤ 1099511627776) : pc Q n_ref27_Fresh [mosV m l, intsV mc cs] = some (freshV l cs) := by
  refine pcQ res_ref27_Fresh rfl (by simp [x_ref27_Fresh]) fun fr hl ha => ?_
  have h0 := ha 0
  have h1 := ha 1
  clear ha
  simp [x_ref27_Fresh, mosV, intsV] at hl h0 h1
  simp [x_ref27_Fresh, hl]
  refine (Ends_lp (Ψ := fun e fr h => fr.length = 64 ∧ h = ⟨[], []⟩ ∧ (e = .exit 0 ∧ freshV l cs = .tup [.int .i64 0, .int .i64 0, .bool true] ∨ e = .ret ∧ ∃ a b, freshV l cs = .tup [.int .i64 a, .int .i64 b, .bool false] ∧ look fr 4 = .int .i64 a ∧ look fr 5 = .int .i64 b ∧ look fr 6 = .bool false))
    (fun n fr h => ∃ i, i + n = cs.length ∧ h = ⟨[], []⟩ ∧ fr.length = 64 ∧ look fr 0 = sl m 6 (l.map moV) ∧ look fr 1 = sl mc 1 (cs.map (AV.int .i64)) ∧ look fr 7 = .int .i64 (i : Nat) ∧ freshFrom l (cs.take i) (cs.drop i) = freshV l cs) ?_ cs.length _ _ ?_).mono ?_
  · rintro n fr h ⟨i, hi, rfl, hl, h0, h1, h7, hr⟩
    by_cases hlt : i < cs.length
    · have hw : IntKind.i64.wrap ((i : Int) + 1) = (i : Int) + 1 := wrap_id (by omega) (by omega)
      have hr' : freshFrom l (cs.take i) (cs[i] :: cs.drop (i + 1)) = freshV l cs := by rw [← List.drop_eq_getElem_cons hlt]; exact hr
      have hnext : cs.take (i + 1) = cs.take i ++ [cs[i]] := by rw [List.take_succ_eq_append_getElem hlt]
      simp only [freshFrom] at hr'
      rw [← hnext] at hr'
      have hb : cs[i]? = some cs[i] := List.getElem?_eq_getElem hlt
      generalize cs[i] = b at *
      simp [x_ref27_Fresh_1, hl, h0, h1, h7, hlt]
      refine (rfresh_inner m mc l hf cs hlen i hlt b hb (cs.take i) rfl _ _ (by simp [hl]) (by simp [hl, h0]) (by simp [hl, h1]) (by simp [hl, h7]) (by simp [hl])).mono ?_
      rintro e fr' h' ⟨hl', rfl, k0, k1, k7, ⟨rfl, hn⟩ | ⟨rfl, a, ha, k4, k5, k6⟩⟩
      · rw [hn] at hr'
        simp [hl', k0, k1, k7, hw]
        exact ⟨n - 1, by omega, i + 1, by omega, by simp, hr'⟩
      · rw [ha] at hr'
        simp [hl', k4, k5, k6]
        exact hr'.symm
    · have e0 : cs.length ≤ i := by omega
      rw [List.drop_eq_nil_of_le e0] at hr
      simp only [freshFrom] at hr
      simp [x_ref27_Fresh_1, hl, h0, h1, h7, hlt]
      exact hr.symm
  · exact ⟨0, by omega, rfl, by simp [hl], by simp [h0], by simp [h1], by simp [hl], rfl⟩
  · rintro e fr h ⟨hl, rfl, ⟨rfl, he⟩ | ⟨rfl, a, b, he, h4, h5, h6⟩⟩
    · simp [hl, he]
    · simp [hl, he, h4, h5, h6]
end Go.Abs.Q

/- What code writes to; loops that keep the rest. -/
namespace Go.Abs

/-- The places to which code writes. -/
def RCode.wr : RCode → List Nat
  | .region _ ops => ops.filterMap (·.dst)
  | .seq a b => a.wr ++ b.wr
  | .cond _ a b => a.wr ++ b.wr
  | .block _ a => a.wr
  | .loop a => a.wr
  | _ => []

/-- A frame that differs only at some places. -/
def Kp (ws : List Nat) (fr fr' : Fr) : Prop := fr'.length = fr.length ∧ ∀ j, j ∉ ws → look fr' j = look fr j

theorem Kp.refl (ws : List Nat) (fr : Fr) : Kp ws fr fr := ⟨rfl, fun _ _ => rfl⟩
theorem Kp.trans {ws : List Nat} {a b c : Fr} (h : Kp ws a b) (k : Kp ws b c) : Kp ws a c := ⟨k.1.trans h.1, fun j hj => (k.2 j hj).trans (h.2 j hj)⟩
theorem Kp.mono {ws ws' : List Nat} {a b : Fr} (h : Kp ws a b) (hs : ∀ j, j ∈ ws → j ∈ ws') : Kp ws' a b := ⟨h.1, fun j hj => h.2 j fun k => hj (hs j k)⟩

theorem Kp.put (fr : Fr) (d : Option Nat) (v : AV) {ws : List Nat} (hd : ∀ x, d = some x → x ∈ ws) : Kp ws fr (put fr d v) := by
  cases d with
  | none => exact Kp.refl _ _
  | some d =>
    refine ⟨by simp, fun j hj => ?_⟩
    have hne : d ≠ j := fun e => hj (e ▸ hd d rfl)
    simp [look_set_ne fr v hne]

section
variable {C : Cfg} {c : Ctx}

theorem ops_keep {O : Orc} : ∀ {ros : List RO} {fr : Fr} {h : AH} {x : Fr × AH} {ws : List Nat}, (∀ j, j ∈ ros.filterMap (·.dst) → j ∈ ws) → evalOps O c ros fr h = some x → Kp ws fr x.1
  | [], fr, h, x, ws, _, he => by
    simp only [evalOps] at he
    cases he
    exact Kp.refl _ _
  | o :: ros, fr, h, x, ws, hs, he => by
    have h1 : ∀ y, o.dst = some y → y ∈ ws := fun y hy => hs y (by simp [hy])
    have h2 : ∀ j, j ∈ ros.filterMap (·.dst) → j ∈ ws := fun j hj => hs j (by
      rw [List.filterMap_cons]
      split
      · exact hj
      · exact List.mem_cons_of_mem _ hj)
    simp only [evalOps] at he
    cases hw : wantedA fr o.guard with
    | none => rw [hw] at he; cases he
    | some b =>
      rw [hw] at he
      cases b with
      | false => exact (Kp.put fr o.dst _ h1).trans (ops_keep h2 he)
      | true =>
        dsimp only at he
        cases hop : evalOp O c o.op fr h with
        | none => rw [hop] at he; cases he
        | some y =>
          rw [hop] at he
          exact (Kp.put fr o.dst _ h1).trans (ops_keep h2 he)

theorem iter_keep {step : St → Option (Ex × St)} {ws : List Nat} (hs : ∀ s x, step s = some x → Kp ws s.1 x.2.1) : ∀ (n : Nat) (s : St) (x : Ex × St), iter step n s = some x → Kp ws s.1 x.2.1
  | 0, s, x, he => by simp [iter] at he
  | n + 1, s, x, he => by
    simp only [iter] at he
    cases h1 : step s with
    | none => rw [h1] at he; cases he
    | some y =>
      rw [h1] at he
      have k := hs s y h1
      obtain ⟨e, s'⟩ := y
      cases e with
      | normal => exact k.trans (iter_keep hs n s' x he)
      | exit id => cases he; exact k
      | ret => cases he; exact k

theorem code_keep : ∀ (rc : RCode) (s : St) (x : Ex × St), evalCode (lim C) c rc s = some x → Kp rc.wr s.1 x.2.1 := by
  intro rc
  induction rc with
  | skip => intro s x he; cases he; exact Kp.refl _ _
  | region d ros =>
    intro s x he
    simp only [evalCode] at he
    cases hs : evalOps (lim C) c ros s.1 s.2 with
    | none => rw [hs] at he; cases he
    | some y =>
      rw [hs] at he
      cases he
      exact ops_keep (fun j hj => hj) hs
  | seq a b iha ihb =>
    intro s x he
    simp only [evalCode] at he
    cases hs : evalCode (lim C) c a s with
    | none => rw [hs] at he; cases he
    | some y =>
      rw [hs] at he
      have k := (iha s y hs).mono (ws' := (RCode.seq a b).wr) fun j hj => List.mem_append_left _ hj
      obtain ⟨e, s'⟩ := y
      cases e with
      | normal => exact k.trans ((ihb _ _ he).mono fun j hj => List.mem_append_right _ hj)
      | exit id => cases he; exact k
      | ret => cases he; exact k
  | cond q a b iha ihb =>
    intro s x he
    simp only [evalCode] at he
    split at he
    · exact (iha _ _ he).mono fun j hj => List.mem_append_left _ hj
    · exact (ihb _ _ he).mono fun j hj => List.mem_append_right _ hj
    · cases he
  | block id a ih =>
    intro s x he
    simp only [evalCode] at he
    cases hs : evalCode (lim C) c a s with
    | none => rw [hs] at he; cases he
    | some y =>
      rw [hs] at he
      have k := ih s y hs
      obtain ⟨e, s'⟩ := y
      cases e with
      | normal => cases he; exact k
      | exit i =>
        simp only at he
        split at he <;> cases he <;> exact k
      | ret => cases he; exact k
  | loop a ih =>
    intro s x he
    obtain ⟨n, hn⟩ := lp_iter he
    exact iter_keep ih n s x hn
  | exit id => intro s x he; cases he; exact Kp.refl _ _
  | ret => intro s x he; cases he; exact Kp.refl _ _

theorem Ends_keep {rc : RCode} {ws : List Nat} (hw : rc.wr = ws) {fr : Fr} {h : AH} {Ψ : Ex → Fr → AH → Prop} (H : Ends (evalCode (lim C) c rc (fr, h)) Ψ) : Ends (evalCode (lim C) c rc (fr, h)) fun e fr' h' => Kp ws fr fr' ∧ Ψ e fr' h' := by
  subst hw
  obtain ⟨e, fr', h', he, hp⟩ := H.elim'
  have k := code_keep rc _ _ he
  rw [he]
  exact ⟨k, hp⟩

/-- A loop, by an invariant with a number that falls; what the body does not write to stays. -/
theorem Ends_lpk {body : RCode} {Ψ : Ex → Fr → AH → Prop} {ws : List Nat} (hw : body.wr = ws) (fr0 : Fr) (Inv : Nat → Fr → AH → Prop)
    (H : ∀ n fr h, Kp ws fr0 fr → Inv n fr h → Ends (evalCode (lim C) c body (fr, h)) fun e fr' h' => (e = .normal ∧ ∃ m, m < n ∧ Inv m fr' h') ∨ (e ≠ .normal ∧ Ψ e fr' h'))
    (n : Nat) (h : AH) (hi : Inv n fr0 h) : Ends (lp (evalCode (lim C) c body) (fr0, h)) fun e fr' h' => Kp ws fr0 fr' ∧ Ψ e fr' h' := by
  refine Ends_lp (fun n fr h => Kp ws fr0 fr ∧ Inv n fr h) (fun n fr h ⟨k, hi⟩ => ?_) n fr0 h ⟨Kp.refl _ _, hi⟩
  refine (Ends_keep hw (H n fr h k hi)).mono fun e fr' h' ⟨k', hp⟩ => ?_
  rcases hp with ⟨h1, m, h2, h3⟩ | ⟨h1, h2⟩
  · exact .inl ⟨h1, m, h2, k.trans k', h3⟩
  · exact .inr ⟨h1, k.trans k', h2⟩
end

/-- The same, with the invariant behind a name, so that simp leaves it alone. -/
theorem Ends_lpw {C : Cfg} {c : Ctx} {body : RCode} {Ψ : Ex → Fr → AH → Prop} {ws : List Nat} (hw : body.wr = ws) (fr0 : Fr) (Inv : Nat → Fr → AH → Prop)
    (H : ∀ (J : Nat → Fr → AH → Prop) (Φ : Ex → Fr → AH → Prop), (∀ n fr h, Inv n fr h → J n fr h) → (∀ e fr h, Ψ e fr h → Φ e fr h) → ∀ n fr h, Kp ws fr0 fr → Inv n fr h →
      Ends (evalCode (lim C) c body (fr, h)) fun e fr' h' => (e = .normal ∧ ∃ m, m < n ∧ J m fr' h') ∨ (e ≠ .normal ∧ Φ e fr' h'))
    (n : Nat) (h : AH) (hi : Inv n fr0 h) : Ends (lp (evalCode (lim C) c body) (fr0, h)) fun e fr' h' => Kp ws fr0 fr' ∧ Ψ e fr' h' :=
  Ends_lpk hw fr0 Inv (H Inv Ψ (fun _ _ _ h => h) (fun _ _ _ h => h)) n h hi

/-- At a pure function's end, by what holds of its result. -/
def EFIN (rs : List RRes) (Φ : AV → Prop) : Ex → Fr → AH → Prop
  | .exit _, _, _ => False
  | _, fr, h => ∃ r, fin rs fr h = some r ∧ Φ r
@[simp] theorem EFIN_n (rs : List RRes) (Φ : AV → Prop) (fr : Fr) (h : AH) : EFIN rs Φ .normal fr h = (∃ r, fin rs fr h = some r ∧ Φ r) := _root_.id rfl
@[simp] theorem EFIN_r (rs : List RRes) (Φ : AV → Prop) (fr : Fr) (h : AH) : EFIN rs Φ .ret fr h = (∃ r, fin rs fr h = some r ∧ Φ r) := _root_.id rfl

theorem pc_ends_ex0 {C : Cfg} {f : FuncId} {rf : RFunc} {args : List AV} {Φ : AV → Prop} (hs : C.spec f = none) (hc : C.code f = some rf) (hl : args.length ≤ rf.ntmps)
    (H : ∀ fr : Fr, fr.length = rf.ntmps → (∀ i, look fr i = args.getD i undefA) → Ends (evalCode (lim C) (C.ctx f) rf.body (fr, ⟨[], []⟩)) (EFIN rf.results Φ)) : ∃ r, pc C f args = some r ∧ Φ r := by
  obtain ⟨hl', hlook⟩ := look_start hl
  obtain ⟨e, fr', h', he, hp⟩ := (H _ hl' hlook).elim'
  have key : ∃ r, fin rf.results fr' h' = some r ∧ Φ r := by
    cases e with
    | exit i => exact hp.elim
    | normal => exact hp
    | ret => exact hp
  obtain ⟨r, hr, hΦ⟩ := key
  refine ⟨r, pc_run hs hc hl fun fr h1 h2 => ?_, hΦ⟩
  have hfr : fr = startFr rf args := by
    apply List.ext_getElem (h1.trans hl'.symm)
    intro i g1 g2
    have a := h2 i
    have b := hlook i
    simp only [look, List.getD, List.getElem?_eq_getElem g1, List.getElem?_eq_getElem g2, Option.getD_some] at a b
    exact a.trans b.symm
  subst hfr
  rw [he]
  cases e with
  | exit i => exact hp.elim
  | normal => exact hr
  | ret => exact hr
/-- The same, with what holds of the result behind a name, so that simp leaves it alone. -/
theorem pc_ends_ex {C : Cfg} {f : FuncId} {rf : RFunc} {args : List AV} {Φ : AV → Prop} (hs : C.spec f = none) (hc : C.code f = some rf) (hl : args.length ≤ rf.ntmps)
    (H : ∀ Ψ : AV → Prop, (∀ r, Φ r → Ψ r) → ∀ fr : Fr, fr.length = rf.ntmps → (∀ i, look fr i = args.getD i undefA) → Ends (evalCode (lim C) (C.ctx f) rf.body (fr, ⟨[], []⟩)) (EFIN rf.results Ψ)) : ∃ r, pc C f args = some r ∧ Φ r :=
  pc_ends_ex0 hs hc hl (H Φ fun _ h => h)

@[simp] theorem isTup_view (k n off len : Nat) : (AV.sl k n off len).isTup = false := _root_.id rfl
@[simp] theorem cells_view (k n off len : Nat) : (AV.sl k n off len).cells = [.sl k n off len] := _root_.id rfl
@[simp] theorem isTup_ptr (b off : Nat) : (AV.ptr b off).isTup = false := _root_.id rfl
@[simp] theorem cells_ptr (b off : Nat) : (AV.ptr b off).cells = [.ptr b off] := _root_.id rfl
@[simp] theorem isTup_vs (f : Bool) (sz : Nat) (xs : List AV) : (AV.vs f sz xs).isTup = false := _root_.id rfl
@[simp] theorem cells_vs (f : Bool) (sz : Nat) (xs : List AV) : (AV.vs f sz xs).cells = [.vs f sz xs] := _root_.id rfl
end Go.Abs

/- Contracts: is a number, a string in a list? -/
namespace Go.Abs.Q
attribute [local simp] look_set_ne look_set_eq fin tupled code_loop raw_slices_Index_int raw_slices_Contains_int raw_slices_Index_string raw_slices_Contains_string raw_ref15_find

theorem slc_drop (h : AH) (m : Bool × Bool) (sz : Nat) (hsz : 0 < sz) (xs : List AV) (k : Nat) (hk : k ≤ xs.length) :
    slcA h sz (sl m sz xs) (some (some (k : Int))) (some none) (some none) = some (sl (m.1, m.2 || !xs.isEmpty) sz (xs.drop k), h) := by
  rw [slcA_sl _ _ _ hsz]
  have e : ((xs.length : Int) - (k : Int)).toNat = xs.length - k := by omega
  simp only [Option.getD_some, Option.getD_none, decide_true, Bool.and_true, Int.toNat_natCast, e]
  rw [if_pos ⟨by omega, by omega, by omega⟩, List.take_of_length_le (by simp)]
theorem slc_take (h : AH) (m : Bool × Bool) (sz : Nat) (hsz : 0 < sz) (xs : List AV) (k : Nat) (hk : k ≤ xs.length) :
    slcA h sz (sl m sz xs) (some none) (some (some (k : Int))) (some none) = some (sl (m.1 && decide (k = xs.length), m.2 || !xs.isEmpty) sz (xs.take k), h) := by
  rw [slcA_sl _ _ _ hsz]
  have e : decide ((k : Int) = (xs.length : Int)) = decide (k = xs.length) := by
    rw [Bool.eq_iff_iff]
    simp only [decide_eq_true_eq]
    omega
  simp only [Option.getD_some, Option.getD_none, Int.sub_zero, Int.toNat_natCast, e, Int.toNat_zero, List.drop_zero]
  rw [if_pos ⟨by omega, by omega, by omega⟩]

/-- The place of the first one that is so, or -1. -/
def idxFrom {α : Type} (p : α → Bool) : Nat → List α → Int
  | _, [] => -1
  | i, a :: r => if p a = true then (i : Int) else idxFrom p (i + 1) r
def idx {α : Type} (p : α → Bool) (l : List α) : Int := idxFrom p 0 l

theorem idxFrom_ge {α : Type} (p : α → Bool) : ∀ (l : List α) (i : Nat), (0 ≤ idxFrom p i l) ↔ l.any p = true
  | [], i => by simp [idxFrom]
  | a :: l, i => by
    simp only [idxFrom, List.any_cons, Bool.or_eq_true]
    by_cases h : p a = true
    · simp [h]
    · rw [if_neg h, idxFrom_ge p l (i + 1)]
      simp [h]

theorem loop_Index_int (m : Bool × Bool) (l : List Int) (x : Int) (hlen : l.length ≤ 1099511627776) (fr : Fr) (h : AH) (hl : fr.length = 19)
    (h0 : look fr 0 = sl m 1 (l.map (AV.int .i64))) (h1 : look fr 1 = .int .i64 x) (h7 : look fr 7 = .int .i64 l.length) (h8 : look fr 8 = .int .i64 0) :
    Ends (lp (evalCode (lim Q) (ctxF n_slices_Index_int) x_slices_Index_int_0) (fr, h)) fun e fr' h' => Kp x_slices_Index_int_0.wr fr fr' ∧ (e = .exit 0 ∧ idx (fun a => decide (x = a)) l = -1 ∨ e = .ret ∧ look fr' 4 = .int .i64 (idx (fun a => decide (x = a)) l)) := by
  refine Ends_lpk rfl fr (fun n fr h => ∃ i, i + n = l.length ∧ look fr 8 = .int .i64 (i : Nat) ∧ idxFrom (fun a => decide (x = a)) i (l.drop i) = idx (fun a => decide (x = a)) l) ?_ l.length h ⟨0, by omega, h8, rfl⟩
  rintro n fr1 h1' K ⟨i, hi, k8, hr⟩
  have hl1 : fr1.length = 19 := K.1.trans hl
  have k0 := (K.2 0 (by decide)).trans h0
  have k1 := (K.2 1 (by decide)).trans h1
  have k7 := (K.2 7 (by decide)).trans h7
  by_cases hlt : i < l.length
  · have hx := nth_map (f := AV.int .i64) (List.getElem?_eq_getElem hlt)
    have hw : IntKind.i64.wrap ((i : Int) + 1) = (i : Int) + 1 := wrap_id (by omega) (by omega)
    rw [List.drop_eq_getElem_cons hlt] at hr
    simp only [idxFrom] at hr
    generalize l[i] = a at *
    by_cases hc : x = a
    · rw [if_pos (by simpa using hc)] at hr
      simp [x_slices_Index_int_0, hl1, k0, k1, k7, k8, hlt, hx, hw, hc]
      rw [← hc]; exact hr
    · rw [if_neg (by simpa using hc)] at hr
      simp [x_slices_Index_int_0, hl1, k0, k1, k7, k8, hlt, hx, hw, hc]
      exact ⟨n - 1, by omega, i + 1, by omega, by simp, hr⟩
  · rw [List.drop_eq_nil_of_le (by omega)] at hr
    simp [x_slices_Index_int_0, hl1, k7, k8, hlt]
    exact hr.symm

theorem pc_IndexInt (m : Bool × Bool) (l : List Int) (x : Int) (hlen : l.length ≤ 1099511627776) : pc Q n_slices_Index_int [intsV m l, .int .i64 x] = some (.int .i64 (idx (fun a => decide (x = a)) l)) := by
  refine pcQ res_slices_Index_int rfl (by simp [x_slices_Index_int]) fun fr hl ha => ?_
  have h0 := ha 0
  have h1 := ha 1
  clear ha
  simp [x_slices_Index_int, intsV] at hl h0 h1
  simp [x_slices_Index_int, hl, h0]
  refine (loop_Index_int m l x hlen _ _ (by simp [hl]) (by simp [hl, h0]) (by simp [hl, h1]) (by simp [hl]) (by simp [hl])).mono ?_
  rintro e fr' h' ⟨K, ⟨rfl, he⟩ | ⟨rfl, h4⟩⟩
  · have hl' : fr'.length = 19 := K.1.trans (by simp [hl])
    simp [hl', he]
  · simp [h4]

theorem pc_ContainsInt (m : Bool × Bool) (l : List Int) (x : Int) (hlen : l.length ≤ 1099511627776) : pc Q n_slices_Contains_int [intsV m l, .int .i64 x] = some (.bool (l.contains x)) := by
  have hI := pc_IndexInt m l x hlen
  have he : decide (0 ≤ idx (fun a => decide (x = a)) l) = l.contains x := by
    rw [Bool.eq_iff_iff, decide_eq_true_iff, idx, idxFrom_ge]
    simp
  refine pcQ res_slices_Contains_int rfl (by simp [x_slices_Contains_int]) fun fr hl ha => ?_
  have h0 := ha 0
  have h1 := ha 1
  clear ha
  simp [x_slices_Contains_int, intsV] at hl h0 h1 hI
  simp [x_slices_Contains_int, hl, h0, h1, hI]
  simpa using he
end Go.Abs.Q

/- Augmenting paths, with no program in sight: what a search changes, and that it fails only where there is no assignment. -/
namespace Go.Abs.Q

/-- A search for a partner of i, from b on; t: what has been tried; k: by which a place is taken. -/
inductive Run (F : Nat → Nat → Bool) (n : Nat) : Nat → Nat → List Bool → List Int → Bool → List Bool → List Int → Prop
  | stop {i b : Nat} {t : List Bool} {k : List Int} : n ≤ b → Run F n i b t k false t k
  | skip {i b : Nat} {t t' : List Bool} {k k' : List Int} {r : Bool} : b < n → (t[b]? = some true ∨ F b i = false) → Run F n i (b + 1) t k r t' k' → Run F n i b t k r t' k'
  | free {i b : Nat} {t : List Bool} {k : List Int} {z : Int} : b < n → t[b]? = some false → F b i = true → k[b]? = some z → z < 0 → Run F n i b t k true (t.set b true) (k.set b (i : Int))
  | move {i b j : Nat} {t t' : List Bool} {k k' : List Int} : b < n → t[b]? = some false → F b i = true → k[b]? = some (j : Int) → Run F n j 0 (t.set b true) k true t' k' → Run F n i b t k true t' (k'.set b (i : Int))
  | fail {i b j : Nat} {t t1 t' : List Bool} {k k1 k' : List Int} {r : Bool} : b < n → t[b]? = some false → F b i = true → k[b]? = some (j : Int) → Run F n j 0 (t.set b true) k false t1 k1 → Run F n i (b + 1) t1 k1 r t' k' → Run F n i b t k r t' k'

section
variable {F : Nat → Nat → Bool} {n : Nat}

theorem Run.lens {i b : Nat} {t t' : List Bool} {k k' : List Int} {r : Bool} (h : Run F n i b t k r t' k') : t'.length = t.length ∧ k'.length = k.length := by
  induction h with
  | stop => exact ⟨rfl, rfl⟩
  | skip _ _ _ ih => exact ih
  | free => simp
  | move _ _ _ _ _ ih => simpa using ih
  | fail _ _ _ _ _ _ ih1 ih2 => simp at ih1; exact ⟨by omega, by omega⟩

theorem set_true {t : List Bool} {b b' : Nat} (h : t[b']? = some true) : (t.set b true)[b']? = some true := by
  rw [List.getElem?_set]
  split
  · rename_i e
    subst e
    rw [if_pos (List.getElem?_eq_some_iff.1 h).1]
  · exact h

theorem set_self {t : List Bool} {b : Nat} {x : Bool} (h : t[b]? = some x) : (t.set b true)[b]? = some true := by
  rw [List.getElem?_set, if_pos rfl, if_pos (List.getElem?_eq_some_iff.1 h).1]

theorem Run.grow {i b : Nat} {t t' : List Bool} {k k' : List Int} {r : Bool} (h : Run F n i b t k r t' k') : ∀ b' : Nat, t[b']? = some true → t'[b']? = some true := by
  induction h with
  | stop => exact fun _ h => h
  | skip _ _ _ ih => exact ih
  | free => exact fun _ h => set_true h
  | move _ _ _ _ _ ih => exact fun b' h => ih b' (set_true h)
  | fail _ _ _ _ _ _ ih1 ih2 => exact fun b' h => ih2 b' (ih1 b' (set_true h))

theorem Run.keep {i b : Nat} {t t' : List Bool} {k k' : List Int} {r : Bool} (h : Run F n i b t k r t' k') : ∀ b' : Nat, t[b']? = some true → k'[b']? = k[b']? := by
  induction h with
  | stop => exact fun _ _ => rfl
  | skip _ _ _ ih => exact ih
  | @free i b t k z _ hb _ _ _ =>
    intro b' h
    have hne : b ≠ b' := fun e => by subst e; rw [hb] at h; cases h
    exact List.getElem?_set_ne hne
  | @move i b j t t' k k' _ hb _ _ _ ih =>
    intro b' h
    have hne : b ≠ b' := fun e => by subst e; rw [hb] at h; cases h
    rw [List.getElem?_set_ne hne]
    exact ih b' (set_true h)
  | @fail i b j t t1 t' k k1 k' r _ hb _ _ h1 _ ih1 ih2 => exact fun b' h => (ih2 b' (h1.grow b' (set_true h))).trans (ih1 b' (set_true h))

theorem Run.same {i b : Nat} {t t' : List Bool} {k k' : List Int} {r : Bool} (h : Run F n i b t k r t' k') : r = false → k' = k := by
  induction h with
  | stop => exact fun _ => rfl
  | skip _ _ _ ih => exact ih
  | free => exact fun h => by cases h
  | move => exact fun h => by cases h
  | fail _ _ _ _ _ _ ih1 ih2 => exact fun h => (ih2 h).trans (ih1 rfl)

theorem count_set' {k : List Int} {b : Nat} {z : Int} (h : k[b]? = some z) (x y : Int) : (k.set b x).count y + (if z = y then 1 else 0) = k.count y + (if x = y then 1 else 0) := by
  induction k generalizing b with
  | nil => simp at h
  | cons a k ih =>
    cases b with
    | zero =>
      simp at h
      subst h
      simp only [List.set_cons_zero, List.count_cons, beq_iff_eq]
      omega
    | succ b =>
      have := ih (b := b) (by simpa using h)
      simp only [List.set_cons_succ, List.count_cons, beq_iff_eq]
      omega

theorem Run.count {i b : Nat} {t t' : List Bool} {k k' : List Int} {r : Bool} (h : Run F n i b t k r t' k') : r = true → ∀ j : Nat, k'.count (j : Int) = k.count (j : Int) + (if i = j then 1 else 0) := by
  induction h with
  | stop => exact fun h => by cases h
  | skip _ _ _ ih => exact ih
  | @free i b t k z _ hb _ hk hz =>
    intro _ j
    have := count_set' hk (i : Int) (j : Int)
    have hz' : z ≠ (j : Int) := by omega
    have e : ((i : Int) = (j : Int)) = (i = j) := propext ⟨fun h => by omega, fun h => by omega⟩
    rw [if_neg hz'] at this
    simp only [e] at this
    omega
  | @move i b j t t' k k' _ hb _ hk hr ih =>
    intro _ q
    have h1 := ih rfl q
    have h2 : k'[b]? = some (j : Int) := (hr.keep b (set_self hb)).trans hk
    have h3 := count_set' h2 (i : Int) (q : Int)
    have e : ((i : Int) = (q : Int)) = (i = q) := propext ⟨fun h => by omega, fun h => by omega⟩
    have e' : ((j : Int) = (q : Int)) = (j = q) := propext ⟨fun h => by omega, fun h => by omega⟩
    simp only [e, e'] at h3
    omega
  | @fail i b j t t1 t' k k1 k' r _ hb _ hk h1 _ ih1 ih2 =>
    intro hr q
    rw [ih2 hr q, h1.same rfl]

/-- Each place is free, or taken by a number below m that fits. -/
def Fit (F : Nat → Nat → Bool) (m : Nat) (k : List Int) : Prop := ∀ b z, k[b]? = some z → z < 0 ∨ ∃ j : Nat, z = (j : Int) ∧ j < m ∧ F b j = true

theorem Fit.set {m : Nat} {k : List Int} (h : Fit F m k) {b i : Nat} (hi : i < m) (hF : F b i = true) : Fit F m (k.set b (i : Int)) := by
  intro b' z hz
  rw [List.getElem?_set] at hz
  split at hz
  · rename_i e
    subst e
    split at hz
    · cases hz
      exact .inr ⟨i, rfl, hi, hF⟩
    · cases hz
  · exact h b' z hz

theorem Run.fit {m i b : Nat} {t t' : List Bool} {k k' : List Int} {r : Bool} (h : Run F n i b t k r t' k') : i < m → Fit F m k → Fit F m k' := by
  induction h with
  | stop => exact fun _ h => h
  | skip _ _ _ ih => exact ih
  | free _ _ hF _ _ => exact fun hi h => h.set hi hF
  | move _ _ hF hk _ ih =>
    intro hi h
    have hj := h _ _ hk
    rcases hj with hj | ⟨j', e, hj, _⟩
    · omega
    · have := Int.ofNat.inj e
      subst this
      exact (ih hj h).set hi hF
  | fail _ _ _ hk h1 _ _ ih2 =>
    intro hi h
    rw [h1.same rfl] at ih2
    exact ih2 hi h

/-- A search that fails: all that fits is tried, and taken by those of which the same holds. -/
theorem Run.closed {i b : Nat} {t t' : List Bool} {k k' : List Int} {r : Bool} (h : Run F n i b t k r t' k') : r = false →
    (∀ b' : Nat, b ≤ b' → b' < n → F b' i = true → t'[b']? = some true) ∧
    ∀ b' : Nat, t'[b']? = some true → t[b']? = some true ∨ ∃ j : Nat, k[b']? = some (j : Int) ∧ ∀ b'' : Nat, b'' < n → F b'' j = true → t'[b'']? = some true := by
  induction h with
  | stop h => exact fun _ => ⟨fun b' h1 h2 _ => by omega, fun b' h => .inl h⟩
  | @skip i b t t' k k' r hb hs hr ih =>
    intro h
    obtain ⟨h1, h2⟩ := ih h
    refine ⟨fun b' g1 g2 g3 => ?_, h2⟩
    by_cases e : b = b'
    · subst e
      rcases hs with hs | hs
      · exact hr.grow b hs
      · rw [hs] at g3; cases g3
    · exact h1 b' (by omega) g2 g3
  | free => exact fun h => by cases h
  | move => exact fun h => by cases h
  | @fail i b j t t1 t' k k1 k' r hb ht hF hk hr1 hr2 ih1 ih2 =>
    intro h
    obtain ⟨p1, p2⟩ := ih1 rfl
    obtain ⟨q1, q2⟩ := ih2 h
    rw [hr1.same rfl] at q2
    refine ⟨fun b' g1 g2 g3 => ?_, fun b' hb' => ?_⟩
    · by_cases e : b = b'
      · subst e
        exact hr2.grow b (hr1.grow b (set_self ht))
      · exact q1 b' (by omega) g2 g3
    · rcases q2 b' hb' with hq | hq
      · rcases p2 b' hq with hp | ⟨j', e1, e2⟩
        · by_cases e : b = b'
          · subst e
            exact .inr ⟨j, hk, fun b'' g1 g2 => hr2.grow b'' (p1 b'' (by omega) g1 g2)⟩
          · rw [List.getElem?_set_ne e] at hp
            exact .inl hp
        · exact .inr ⟨j', e1, fun b'' g1 g2 => hr2.grow b'' (e2 b'' g1 g2)⟩
      · exact .inr hq

/-- The first i have partners. -/
structure Good (F : Nat → Nat → Bool) (n i : Nat) (k : List Int) : Prop where
  len : k.length = n
  fit : Fit F i k
  one : ∀ j : Nat, j < i → k.count (j : Int) = 1

theorem Good.start : Good F n 0 (List.replicate n (-1)) := by
  refine ⟨by simp, fun b z h => ?_, fun j hj => by omega⟩
  rw [List.getElem?_replicate] at h
  split at h
  · cases h; exact .inl (by omega)
  · cases h

theorem Good.step {i : Nat} {t t' : List Bool} {k k' : List Int} (g : Good F n i k) (h : Run F n i 0 t k true t' k') : Good F n (i + 1) k' := by
  refine ⟨h.lens.2.trans g.len, h.fit (by omega) fun b z hz => ?_, fun j hj => ?_⟩
  · rcases g.fit b z hz with h1 | ⟨j, e, h1, h2⟩
    · exact .inl h1
    · exact .inr ⟨j, e, by omega, h2⟩
  · rw [h.count rfl j]
    by_cases e : i = j
    · subst e
      have : k.count (i : Int) = 0 := by
        rw [List.count_eq_zero]
        intro hm
        obtain ⟨b, hb⟩ := List.mem_iff_getElem?.1 hm
        rcases g.fit b _ hb with h1 | ⟨j, e, h1, h2⟩
        · omega
        · omega
      rw [this, if_pos rfl]
    · rw [if_neg e, g.one j (by omega)]

theorem count_two {k : List Int} {z : Int} : ∀ {b b' : Nat}, b < b' → k[b]? = some z → k[b']? = some z → 2 ≤ k.count z := by
  induction k with
  | nil => intro b b' _ h; simp at h
  | cons a k ih =>
    intro b b' hlt h h'
    cases b' with
    | zero => omega
    | succ b' =>
      simp only [List.count_cons, beq_iff_eq]
      cases b with
      | zero =>
        simp at h h'
        subst h
        have : 0 < k.count a := List.count_pos_iff.2 (List.mem_of_getElem? h')
        rw [if_pos rfl]
        omega
      | succ b =>
        have := ih (b := b) (b' := b') (by omega) (by simpa using h) (by simpa using h')
        omega

theorem count_one {k : List Int} {z : Int} (h : k.count z = 1) {b b' : Nat} (h1 : k[b]? = some z) (h2 : k[b']? = some z) : b = b' := by
  rcases Nat.lt_trichotomy b b' with hlt | e | hlt
  · have := count_two hlt h1 h2; omega
  · exact e
  · have := count_two hlt h2 h1; omega

theorem nodup_le {α : Type} [DecidableEq α] : ∀ {l r : List α}, l.Nodup → (∀ x ∈ l, x ∈ r) → l.length ≤ r.length
  | [], _, _, _ => by simp
  | a :: l, r, hn, hs => by
    rw [List.nodup_cons] at hn
    have := nodup_le (l := l) (r := r.erase a) hn.2 fun x hx => by
      have hne : x ≠ a := fun e => hn.1 (e ▸ hx)
      exact (List.mem_erase_of_ne hne).2 (hs x (by simp [hx]))
    have h2 := List.length_erase_of_mem (hs a (by simp))
    have h3 := List.length_pos_of_mem (hs a (by simp))
    simp only [List.length_cons]
    omega

theorem nodup_map {α β : Type} {f : α → β} : ∀ {l : List α}, l.Nodup → (∀ x ∈ l, ∀ y ∈ l, f x = f y → x = y) → (l.map f).Nodup
  | [], _, _ => by simp
  | a :: l, hn, hi => by
    rw [List.nodup_cons] at hn
    rw [List.map_cons, List.nodup_cons]
    refine ⟨fun hm => ?_, nodup_map hn.2 fun x hx y hy => hi x (by simp [hx]) y (by simp [hy])⟩
    obtain ⟨x, hx, e⟩ := List.mem_map.1 hm
    have := hi x (by simp [hx]) a (by simp) e
    exact hn.1 (this ▸ hx)

/-- The first i have different partners. -/
def Matched (F : Nat → Nat → Bool) (n i : Nat) (g : Nat → Nat) : Prop := (∀ j, j < i → g j < n ∧ F (g j) j = true) ∧ ∀ j j', j < i → j' < i → g j = g j' → j = j'

theorem Good.fail {i : Nat} {t' : List Bool} {k k' : List Int} (g : Good F n i k) (h : Run F n i 0 (List.replicate n false) k false t' k') (p : Nat → Nat) : ¬Matched F n (i + 1) p := by
  rintro ⟨m1, m2⟩
  obtain ⟨c1, c2⟩ := h.closed rfl
  have c2' : ∀ b' : Nat, t'[b']? = some true → ∃ j : Nat, k[b']? = some (j : Int) ∧ ∀ b'' : Nat, b'' < n → F b'' j = true → t'[b'']? = some true := by
    intro b' hb'
    rcases c2 b' hb' with h1 | h1
    · rw [List.getElem?_replicate] at h1
      split at h1 <;> cases h1
    · exact h1
  let T := (List.range n).filter fun b => t'[b]? == some true
  have hT : ∀ b, b ∈ T ↔ b < n ∧ t'[b]? = some true := fun b => by simp [T]
  let q : Nat → Nat := fun b => ((k[b]?).getD 0).toNat
  have hq : ∀ b ∈ T, ∃ j : Nat, k[b]? = some (j : Int) ∧ q b = j ∧ j < i ∧ ∀ b'', b'' < n → F b'' j = true → b'' ∈ T := by
    intro b hb
    obtain ⟨j, e, hj⟩ := c2' b ((hT b).1 hb).2
    refine ⟨j, e, by simp [q, e], ?_, fun b'' h1 h2 => (hT b'').2 ⟨h1, hj b'' h1 h2⟩⟩
    rcases g.fit b _ e with h1 | ⟨j', e', h1, _⟩
    · omega
    · omega
  have hTn : T.Nodup := List.Pairwise.filter _ List.nodup_range
  have hL : (i :: T.map q).Nodup := by
    rw [List.nodup_cons]
    refine ⟨fun hm => ?_, nodup_map hTn fun x hx y hy e => ?_⟩
    · obtain ⟨b, hb, e⟩ := List.mem_map.1 hm
      obtain ⟨j, _, e', hj, _⟩ := hq b hb
      omega
    · obtain ⟨j, e1, e2, hj, _⟩ := hq x hx
      obtain ⟨j', e1', e2', hj', _⟩ := hq y hy
      have : j = j' := by omega
      subst this
      exact count_one (g.one j hj) e1 e1'
  have hlt : ∀ j ∈ i :: T.map q, j < i + 1 := by
    intro j hj
    rcases List.mem_cons.1 hj with rfl | hj
    · omega
    · obtain ⟨b, hb, rfl⟩ := List.mem_map.1 hj
      obtain ⟨j, _, e', hj, _⟩ := hq b hb
      omega
  have hM : ((i :: T.map q).map p).Nodup := nodup_map hL fun x hx y hy e => m2 x y (hlt x hx) (hlt y hy) e
  have hle := nodup_le (r := T) hM fun x hx => by
    obtain ⟨j, hj, rfl⟩ := List.mem_map.1 hx
    obtain ⟨g1, g2⟩ := m1 j (hlt j hj)
    rcases List.mem_cons.1 hj with rfl | hj
    · exact (hT _).2 ⟨g1, c1 _ (by omega) g1 g2⟩
    · obtain ⟨b, hb, rfl⟩ := List.mem_map.1 hj
      obtain ⟨j, _, e', hj, hF⟩ := hq b hb
      rw [e'] at g1 g2 ⊢
      exact hF _ g1 g2
  simp at hle
  omega

theorem Good.place {i : Nat} {k : List Int} (g : Good F n i k) {j : Nat} (hj : j < i) : ∃ b, k[b]? = some (j : Int) ∧ b < n ∧ F b j = true := by
  have h1 := g.one j hj
  have h2 : (j : Int) ∈ k := List.count_pos_iff.1 (by omega)
  obtain ⟨b, hb⟩ := List.mem_iff_getElem?.1 h2
  refine ⟨b, hb, ?_, ?_⟩
  · have := (List.getElem?_eq_some_iff.1 hb).1
    have := g.len
    omega
  · rcases g.fit b _ hb with h1 | ⟨j', e', h1, h2⟩
    · omega
    · have := Int.ofNat.inj e'
      subst this
      exact h2
end
end Go.Abs.Q

/- Right assignments, with no program in sight. -/
namespace Go.Abs.Q

/-- Begins for claims, in order; done: the Begins that are given. -/
def rightFrom (l : List Mo) (done : List Int) : List Int → List Int → Bool
  | [], [] => true
  | c :: cs, b :: bs => fitsB l b c && !done.contains b && rightFrom l (done ++ [b]) cs bs
  | _, _ => false
def rightB (l : List Mo) (cs bs : List Int) : Bool := rightFrom l [] cs bs
theorem rightFrom_len {l : List Mo} : ∀ {cs bs done : List Int}, rightFrom l done cs bs = true → cs.length = bs.length
  | [], [], _, _ => rfl
  | [], _ :: _, _, h => by simp [rightFrom] at h
  | _ :: _, [], _, h => by simp [rightFrom] at h
  | c :: cs, b :: bs, done, h => by
    simp only [rightFrom, Bool.and_eq_true] at h
    simp [rightFrom_len h.2]

theorem right_iff {l : List Mo} : ∀ {cs bs done : List Int}, rightFrom l done cs bs = true ↔ cs.length = bs.length ∧ (∀ (i : Nat) (c b : Int), cs[i]? = some c → bs[i]? = some b → fitsB l b c = true) ∧ bs.Nodup ∧ ∀ b ∈ bs, b ∉ done
  | [], [], _ => by simp [rightFrom]
  | [], _ :: _, _ => by simp [rightFrom]
  | _ :: _, [], _ => by simp [rightFrom]
  | c :: cs, b :: bs, done => by
    simp only [rightFrom, Bool.and_eq_true, right_iff (cs := cs) (bs := bs) (done := done ++ [b])]
    constructor
    · rintro ⟨⟨h1, h2⟩, h3, h4, h5, h6⟩
      refine ⟨by simp [h3], fun i c' b' hc hb => ?_, ?_, ?_⟩
      · cases i with
        | zero => simp at hc hb; subst hc hb; exact h1
        | succ i => exact h4 i c' b' (by simpa using hc) (by simpa using hb)
      · rw [List.nodup_cons]
        exact ⟨fun hm => h6 b hm (by simp), h5⟩
      · intro x hx
        rcases List.mem_cons.1 hx with rfl | hx
        · simpa using h2
        · exact fun hm => h6 x hx (by simp [hm])
    · rintro ⟨h1, h2, h3, h4⟩
      rw [List.nodup_cons] at h3
      refine ⟨⟨h2 0 c b rfl rfl, by simpa using h4 b (by simp)⟩, by simpa using h1, fun i c' b' hc hb => h2 (i + 1) c' b' (by simpa using hc) (by simpa using hb), h3.2, fun x hx hm => ?_⟩
      rcases List.mem_append.1 hm with hm | hm
      · exact h4 x (by simp [hx]) hm
      · simp at hm
        subst hm
        exact h3.1 hx

theorem nodup_inj {l : List Int} : l.Nodup → ∀ {i j : Nat} {a : Int}, l[i]? = some a → l[j]? = some a → i = j := by
  induction l with
  | nil => intro _ i j a h; simp at h
  | cons x l ih =>
    intro hn i j a hi hj
    rw [List.nodup_cons] at hn
    cases i with
    | zero =>
      cases j with
      | zero => rfl
      | succ j =>
        simp at hi hj
        subst hi
        exact absurd (List.mem_of_getElem? hj) hn.1
    | succ i =>
      cases j with
      | zero =>
        simp at hi hj
        subst hj
        exact absurd (List.mem_of_getElem? hi) hn.1
      | succ j => rw [ih hn.2 (i := i) (j := j) (by simpa using hi) (by simpa using hj)]
theorem nodup_of {l : List Int} : (∀ (i j : Nat) (a : Int), l[i]? = some a → l[j]? = some a → i = j) → l.Nodup := by
  induction l with
  | nil => intro _; simp
  | cons x l ih =>
    intro h
    rw [List.nodup_cons]
    refine ⟨fun hm => ?_, ih fun i j a hi hj => by have := h (i + 1) (j + 1) a (by simpa using hi) (by simpa using hj); omega⟩
    obtain ⟨i, hi⟩ := List.mem_iff_getElem?.1 hm
    have := h 0 (i + 1) x rfl (by simpa using hi)
    omega

/-- Is there a right assignment? -/
def Poss (l : List Mo) (cs : List Int) : Prop := ∃ bs, rightB l cs bs = true

theorem rightB_iff {l : List Mo} {cs bs : List Int} : rightB l cs bs = true ↔ cs.length = bs.length ∧ (∀ (i : Nat) (c b : Int), cs[i]? = some c → bs[i]? = some b → fitsB l b c = true) ∧ bs.Nodup := by
  unfold rightB
  rw [right_iff]
  simp

/-- Does the moment at b fit the claim at place i? -/
def FF (l : List Mo) (cs : List Int) (b i : Nat) : Bool := match cs[i]? with | some c => fitsB l (b : Int) c | none => false

theorem fitsB_bnd {l : List Mo} {b c : Int} (h : fitsB l b c = true) : 0 ≤ b ∧ b < l.length ∧ 0 ≤ c ∧ c < l.length ∧ kindB l c 5 = true := by
  unfold fitsB at h
  cases hx : atI l b with
  | none => rw [hx] at h; simp at h
  | some x =>
    cases hy : atI l c with
    | none => rw [hx, hy] at h; simp at h
    | some y =>
      rw [hx, hy] at h
      simp at h
      obtain ⟨g1, g2, _⟩ := atI_some hx
      obtain ⟨k1, k2, _⟩ := atI_some hy
      exact ⟨g1, g2, k1, k2, by simp [kindB, hy, h.1.1.2]⟩

/-- An assignment, as a function. -/
theorem matched_of {l : List Mo} {cs bs : List Int} (h : rightB l cs bs = true) : Matched (FF l cs) l.length cs.length fun j => ((bs[j]?).getD 0).toNat := by
  obtain ⟨h1, h2, h3⟩ := rightB_iff.1 h
  have key : ∀ j, j < cs.length → ∃ b : Int, bs[j]? = some b ∧ 0 ≤ b ∧ b < l.length ∧ FF l cs b.toNat j = true := by
    intro j hj
    have e1 := List.getElem?_eq_getElem hj
    have e2 := List.getElem?_eq_getElem (show j < bs.length by omega)
    have hf := h2 j _ _ e1 e2
    have hb := fitsB_bnd hf
    refine ⟨_, e2, hb.1, hb.2.1, ?_⟩
    simp only [FF, e1, Int.toNat_of_nonneg hb.1]
    exact hf
  refine ⟨fun j hj => ?_, fun j j' hj hj' e => ?_⟩
  · obtain ⟨b, e, g1, g2, g3⟩ := key j hj
    simp only [e, Option.getD_some]
    exact ⟨by omega, g3⟩
  · obtain ⟨b, e1, g1, g2, _⟩ := key j hj
    obtain ⟨b', e1', g1', g2', _⟩ := key j' hj'
    simp only [e1, e1', Option.getD_some] at e
    have hbb : b = b' := by omega
    subst hbb
    exact nodup_inj h3 e1 e1'

theorem Matched.le {F : Nat → Nat → Bool} {n i i' : Nat} {g : Nat → Nat} (h : Matched F n i g) (hi : i' ≤ i) : Matched F n i' g :=
  ⟨fun j hj => h.1 j (by omega), fun j j' hj hj' => h.2 j j' (by omega) (by omega)⟩

/-- A search that ends well gives a right assignment. -/
theorem right_of_good {l : List Mo} {cs : List Int} {k : List Int} (g : Good (FF l cs) l.length cs.length k) {out : List Int} (hl : out.length = cs.length)
    (ho : ∀ (b i : Nat), k[b]? = some (i : Int) → out[i]? = some (b : Int)) : rightB l cs out = true := by
  have key : ∀ j, j < cs.length → ∃ b : Nat, out[j]? = some (b : Int) ∧ k[b]? = some (j : Int) ∧ FF l cs b j = true := by
    intro j hj
    obtain ⟨b, e, _, hF⟩ := g.place hj
    exact ⟨b, ho b j e, e, hF⟩
  refine rightB_iff.2 ⟨hl.symm, fun i c b hc hb => ?_, ?_⟩
  · obtain ⟨b', e, _, hF⟩ := key i (List.getElem?_eq_some_iff.1 hc).1
    rw [e] at hb
    cases hb
    simpa [FF, hc] using hF
  · refine nodup_of fun i j a hi hj => ?_
    have hi' := (List.getElem?_eq_some_iff.1 hi).1
    have hj' := (List.getElem?_eq_some_iff.1 hj).1
    obtain ⟨b, e1, e2, _⟩ := key i (by omega)
    obtain ⟨b', e1', e2', _⟩ := key j (by omega)
    rw [hi] at e1
    rw [hj] at e1'
    cases e1
    have e3 : (b : Int) = (b' : Int) := by simpa using e1'
    have : b = b' := by omega
    subst this
    rw [e2] at e2'
    have e4 : (i : Int) = (j : Int) := by simpa using e2'
    omega
end Go.Abs.Q

/- Contracts: is an assignment right? -/
namespace Go.Abs.Q
attribute [local simp] look_set_ne look_set_eq fin tupled code_loop raw_goal_fits raw_ref27_Fits raw_slices_Contains_int raw_goal_CheckInject raw_ref27_CheckInject

theorem loop_CheckInject (m mc mb : Bool × Bool) (l : List Mo) (hf : fine l) (cs bs : List Int) (hlen : cs.length ≤ 1099511627776) (hbs : cs.length = bs.length) (fr : Fr) (h : AH) (hl : fr.length = 40)
    (h0 : look fr 0 = sl m 6 (l.map moV)) (h2 : look fr 2 = sl mb 1 (bs.map (AV.int .i64))) (h14 : look fr 14 = sl mc 1 (cs.map (AV.int .i64))) (h15 : look fr 15 = .int .i64 cs.length) (h16 : look fr 16 = .int .i64 0) :
    Ends (lp (evalCode (lim Q) (ctxF n_goal_CheckInject) x_goal_CheckInject_0) (fr, h)) fun e fr' h' => Kp x_goal_CheckInject_0.wr fr fr' ∧ (e = .exit 0 ∧ rightB l cs bs = true ∨ e = .ret ∧ look fr' 6 = .bool false ∧ rightB l cs bs = false) := by
  refine Ends_lpk rfl fr (fun n fr h => ∃ i, i + n = cs.length ∧ look fr 16 = .int .i64 (i : Nat) ∧ rightFrom l (bs.take i) (cs.drop i) (bs.drop i) = rightB l cs bs) ?_ cs.length h ⟨0, by omega, h16, rfl⟩
  rintro n fr1 h1' K ⟨i, hi, k16, hr⟩
  have hl1 : fr1.length = 40 := K.1.trans hl
  have k0 := (K.2 0 (by decide)).trans h0
  have k2 := (K.2 2 (by decide)).trans h2
  have k14 := (K.2 14 (by decide)).trans h14
  have k15 := (K.2 15 (by decide)).trans h15
  by_cases hlt : i < cs.length
  · have hlt' : i < bs.length := by omega
    have hx := nth_map (f := AV.int .i64) (List.getElem?_eq_getElem hlt)
    have hx' := nth_map (f := AV.int .i64) (List.getElem?_eq_getElem hlt')
    have hw : IntKind.i64.wrap ((i : Int) + 1) = (i : Int) + 1 := wrap_id (by omega) (by omega)
    have hF := pc_fits m l hf
    have hs : ∀ h, slcA h 1 (sl mb 1 (bs.map (AV.int .i64))) (some none) (some (some (i : Int))) (some none) = some (sl (mb.1 && decide ((i : Int) = (bs.length : Int)), mb.2 || !bs.isEmpty) 1 ((bs.take i).map (AV.int .i64)), h) := by
      intro h
      rw [slcA_sl _ _ _ (by omega)]
      have : (i : Int) ≤ (bs.length : Int) := by omega
      simp [this, List.map_take]
    have hC := pc_ContainsInt (mb.1 && decide ((i : Int) = (bs.length : Int)), mb.2 || !bs.isEmpty) (bs.take i) bs[i] (by simp; omega)
    rw [List.drop_eq_getElem_cons hlt, List.drop_eq_getElem_cons hlt'] at hr
    simp only [rightFrom] at hr
    rw [← List.take_succ_eq_append_getElem hlt'] at hr
    generalize cs[i] = c at *
    generalize bs[i] = b at *
    have hF' := hF b c
    simp only [mosV] at hF'
    simp only [intsV, List.map_take] at hC
    cases hfb : fitsB l b c with
    | false =>
      rw [hfb] at hF' hr
      simp [x_goal_CheckInject_0, hl1, k0, k2, k14, k15, k16, hlt, hx, hx', hw, hF']
      simpa using hr.symm
    | true =>
      rw [hfb] at hF' hr
      cases hcb : (bs.take i).contains b with
      | true =>
        rw [hcb] at hC hr
        simp [x_goal_CheckInject_0, hl1, k0, k2, k14, k15, k16, hlt, hx, hx', hw, hF', boundA, hs, hC]
        simpa using hr.symm
      | false =>
        rw [hcb] at hC hr
        simp [x_goal_CheckInject_0, hl1, k0, k2, k14, k15, k16, hlt, hx, hx', hw, hF', boundA, hs, hC]
        exact ⟨n - 1, by omega, i + 1, by omega, by simp, by simpa using hr⟩
  · rw [List.drop_eq_nil_of_le (by omega), List.drop_eq_nil_of_le (by omega)] at hr
    simp [x_goal_CheckInject_0, hl1, k15, k16, hlt]
    exact hr.symm

theorem pc_CheckInject (m mc mb : Bool × Bool) (l : List Mo) (hf : fine l) (cs bs : List Int) (hlen : cs.length ≤ 1099511627776) : pc Q n_goal_CheckInject [mosV m l, intsV mc cs, intsV mb bs] = some (.bool (rightB l cs bs)) := by
  refine pcQ res_goal_CheckInject rfl (by simp [x_goal_CheckInject]) fun fr hl ha => ?_
  have h0 := ha 0
  have h1 := ha 1
  have h2 := ha 2
  clear ha
  simp [x_goal_CheckInject, intsV, mosV] at hl h0 h1 h2
  by_cases hbs : cs.length = bs.length
  · have hbs' : (cs.length : Int) = (bs.length : Int) := by omega
    simp [x_goal_CheckInject, hl, h1, h2, hbs]
    refine (loop_CheckInject m mc mb l hf cs bs hlen hbs _ _ (by simp [hl]) (by simp [hl, h0]) (by simp [hl, h2]) (by simp [hl, h1]) (by simp [hl, hbs]) (by simp [hl])).mono ?_
    rintro e fr' h' ⟨K, ⟨rfl, he⟩ | ⟨rfl, h4, he⟩⟩
    · have hl' : fr'.length = 40 := K.1.trans (by simp [hl])
      simp [hl', he]
    · simp [h4, he]
  · have hbs' : ¬(cs.length : Int) = (bs.length : Int) := by omega
    have hf : rightB l cs bs = false := by
      cases hq : rightB l cs bs with
      | false => rfl
      | true => exact absurd (rightFrom_len hq) hbs
    simp [x_goal_CheckInject, hl, h1, h2, hbs', hf]

theorem rloop_CheckInject_in (mb : Bool × Bool) (bs : List Int) (hlen : bs.length ≤ 1099511627776) (i : Nat) (hi0 : i < bs.length) (b : Int) (hb : bs[i]? = some b) (fr : Fr) (h : AH) (hl : fr.length = 45)
    (h2 : look fr 2 = sl mb 1 (bs.map (AV.int .i64))) (h7 : look fr 7 = .int .i64 (i : Nat)) (h8 : look fr 8 = .int .i64 0) :
    Ends (lp (evalCode (lim Q) (ctxF n_ref27_CheckInject) x_ref27_CheckInject_0) (fr, h)) fun e fr' h' => Kp x_ref27_CheckInject_0.wr fr fr' ∧ (e = .exit 2 ∧ (bs.take i).contains b = false ∨ e = .ret ∧ look fr' 6 = .bool false ∧ (bs.take i).contains b = true) := by
  refine Ends_lpk rfl fr (fun n fr h => ∃ j, j + n = i ∧ look fr 8 = .int .i64 (j : Nat) ∧ ((bs.take i).drop j).contains b = (bs.take i).contains b) ?_ i h ⟨0, by omega, h8, rfl⟩
  rintro n fr1 h1' K ⟨j, hj, k8, hr⟩
  have hl1 : fr1.length = 45 := K.1.trans hl
  have k2 := (K.2 2 (by decide)).trans h2
  have k7 := (K.2 7 (by decide)).trans h7
  have hxb := nth_map (f := AV.int .i64) hb
  by_cases hlt : j < i
  · have hlt' : j < bs.length := by omega
    have hx := nth_map (f := AV.int .i64) (List.getElem?_eq_getElem hlt')
    have hw : IntKind.i64.wrap ((j : Int) + 1) = (j : Int) + 1 := wrap_id (by omega) (by omega)
    have hd : (bs.take i).drop j = bs[j] :: (bs.take i).drop (j + 1) := by
      rw [List.drop_eq_getElem_cons (by simp; omega)]
      simp
    rw [hd, List.contains_cons] at hr
    generalize bs[j] = a at *
    by_cases hc : a = b
    · have hr' : (bs.take i).contains b = true := by rw [← hr]; simp [hc]
      simp [x_ref27_CheckInject_0, hl1, k2, k7, k8, hlt, hx, hxb, hw, hc]
      simpa using hr'
    · have hr' : ((bs.take i).drop (j + 1)).contains b = (bs.take i).contains b := by
        have hne : (b == a) = false := by simp; exact fun e => hc e.symm
        rw [← hr, hne, Bool.false_or]
      simp [x_ref27_CheckInject_0, hl1, k2, k7, k8, hlt, hx, hxb, hw, hc]
      exact ⟨n - 1, by omega, j + 1, by omega, by simp, by simpa using hr'⟩
  · rw [List.drop_eq_nil_of_le (by simp; omega)] at hr
    simp [x_ref27_CheckInject_0, hl1, k7, k8, hlt]
    simpa using hr.symm

theorem rloop_CheckInject (m mc mb : Bool × Bool) (l : List Mo) (hf : fine l) (cs bs : List Int) (hlen : cs.length ≤ 1099511627776) (hbs : cs.length = bs.length) (fr : Fr) (h : AH) (hl : fr.length = 45)
    (h0 : look fr 0 = sl m 6 (l.map moV)) (h1 : look fr 1 = sl mc 1 (cs.map (AV.int .i64))) (h2 : look fr 2 = sl mb 1 (bs.map (AV.int .i64))) (h7 : look fr 7 = .int .i64 0) :
    Ends (lp (evalCode (lim Q) (ctxF n_ref27_CheckInject) x_ref27_CheckInject_1) (fr, h)) fun e fr' h' => Kp x_ref27_CheckInject_1.wr fr fr' ∧ (e = .exit 0 ∧ rightB l cs bs = true ∨ e = .ret ∧ look fr' 6 = .bool false ∧ rightB l cs bs = false) := by
  refine Ends_lpk rfl fr (fun n fr h => ∃ i, i + n = cs.length ∧ look fr 7 = .int .i64 (i : Nat) ∧ rightFrom l (bs.take i) (cs.drop i) (bs.drop i) = rightB l cs bs) ?_ cs.length h ⟨0, by omega, h7, rfl⟩
  rintro n fr1 h1' K ⟨i, hi, k7, hr⟩
  have hl1 : fr1.length = 45 := K.1.trans hl
  have k0 := (K.2 0 (by decide)).trans h0
  have k1 := (K.2 1 (by decide)).trans h1
  have k2 := (K.2 2 (by decide)).trans h2
  by_cases hlt : i < cs.length
  · have hlt' : i < bs.length := by omega
    have hx := nth_map (f := AV.int .i64) (List.getElem?_eq_getElem hlt)
    have hb := List.getElem?_eq_getElem hlt'
    have hx' := nth_map (f := AV.int .i64) hb
    have hw : IntKind.i64.wrap ((i : Int) + 1) = (i : Int) + 1 := wrap_id (by omega) (by omega)
    have hF := pc_refFits m l hf
    rw [List.drop_eq_getElem_cons hlt, List.drop_eq_getElem_cons hlt'] at hr
    simp only [rightFrom] at hr
    rw [← List.take_succ_eq_append_getElem hlt'] at hr
    generalize cs[i] = c at *
    generalize bs[i] = b at *
    have hF' := hF b c
    simp only [mosV] at hF'
    cases hfb : fitsB l b c with
    | false =>
      rw [hfb] at hF' hr
      simp [x_ref27_CheckInject_1, hl1, k0, k1, k2, k7, hlt, hx, hx', hw, hF']
      simpa using hr.symm
    | true =>
      rw [hfb] at hF' hr
      simp [x_ref27_CheckInject_1, hl1, k0, k1, k2, k7, hlt, hx, hx', hw, hF']
      refine (rloop_CheckInject_in mb bs (by omega) i hlt' b hb _ _ (by simp [hl1]) (by simp [hl1, k2]) (by simp [hl1, k7]) (by simp [hl1])).mono ?_
      rintro e fr' h' ⟨K', ⟨rfl, he⟩ | ⟨rfl, h6, he⟩⟩
      · have hl' : fr'.length = 45 := K'.1.trans (by simp [hl1])
        have q7 : look fr' 7 = .int .i64 (i : Nat) := (K'.2 7 (by decide)).trans (by simp [hl1, k7])
        rw [he] at hr
        simp [hl', q7, hw]
        exact ⟨n - 1, by omega, i + 1, by omega, by simp, by simpa using hr⟩
      · rw [he] at hr
        simp [h6]
        simpa using hr.symm
  · rw [List.drop_eq_nil_of_le (by omega), List.drop_eq_nil_of_le (by omega)] at hr
    simp [x_ref27_CheckInject_1, hl1, k1, k7, hlt]
    exact hr.symm

theorem pc_refCheckInject (m mc mb : Bool × Bool) (l : List Mo) (hf : fine l) (cs bs : List Int) (hlen : cs.length ≤ 1099511627776) : pc Q n_ref27_CheckInject [mosV m l, intsV mc cs, intsV mb bs] = some (.bool (rightB l cs bs)) := by
  refine pcQ res_ref27_CheckInject rfl (by simp [x_ref27_CheckInject]) fun fr hl ha => ?_
  have h0 := ha 0
  have h1 := ha 1
  have h2 := ha 2
  clear ha
  simp [x_ref27_CheckInject, intsV, mosV] at hl h0 h1 h2
  by_cases hbs : cs.length = bs.length
  · have hbs' : (cs.length : Int) = (bs.length : Int) := by omega
    simp [x_ref27_CheckInject, hl, h1, h2, hbs]
    refine (rloop_CheckInject m mc mb l hf cs bs hlen hbs _ _ (by simp [hl]) (by simp [hl, h0]) (by simp [hl, h1]) (by simp [hl, h2]) (by simp [hl])).mono ?_
    rintro e fr' h' ⟨K, ⟨rfl, he⟩ | ⟨rfl, h4, he⟩⟩
    · have hl' : fr'.length = 45 := K.1.trans (by simp [hl])
      simp [hl', he]
    · simp [h4, he]
  · have hbs' : ¬(cs.length : Int) = (bs.length : Int) := by omega
    have hf : rightB l cs bs = false := by
      cases hq : rightB l cs bs with
      | false => rfl
      | true => exact absurd (rightFrom_len hq) hbs
    simp [x_ref27_CheckInject, hl, h1, h2, hbs', hf]
end Go.Abs.Q

/- Contracts: the search for a Begin. -/
namespace Go.Abs.Q
attribute [local simp] look_set_ne look_set_eq fin tupled code_loop raw_goal_fits raw_ref27_Fits raw_goal_assigner_assign raw_ref27_assign

/-- A heap with the boxes bx and F rows, two of them k and t. -/
structure HP (bx : List (List AV)) (a q F : Nat) (k : List Int) (t : List Bool) (h : AH) : Prop where
  boxes : h.boxes = bx
  num : h.fams.length = F
  hk : h.fams[a]? = some ⟨k.map (AV.int .i64), 1, true⟩
  ht : h.fams[q]? = some ⟨t.map AV.bool, 1, true⟩

/-- How many places are untried. -/
def untried (t : List Bool) : Nat := t.count false
theorem untried_set {t : List Bool} {b : Nat} (h : t[b]? = some false) : untried (t.set b true) + 1 = untried t := by
  unfold untried
  induction t generalizing b with
  | nil => simp at h
  | cons x t ih =>
    cases b with
    | zero => simp at h; subst h; simp
    | succ b =>
      have := ih (b := b) (by simpa using h)
      simp only [List.set_cons_succ, List.count_cons]
      omega
theorem untried_le : ∀ {t t' : List Bool}, t'.length = t.length → (∀ b : Nat, t[b]? = some true → t'[b]? = some true) → untried t' ≤ untried t
  | [], [], _, _ => Nat.le_refl _
  | x :: t, [], h, _ => by simp at h
  | [], y :: t', h, _ => by simp at h
  | x :: t, y :: t', h, k => by
    have h1 := untried_le (t := t) (t' := t') (by simpa using h) fun b hb => by simpa using k (b + 1) (by simpa using hb)
    have h2 := k 0
    simp at h2
    unfold untried at h1 ⊢
    simp only [List.count_cons]
    cases x <;> cases y <;> simp at h2 ⊢ <;> omega

@[simp] theorem reform_bool (b : Bool) (cs : List AV) : (AV.bool b).reform cs = cs.head? := _root_.id rfl
@[simp] theorem reform_int (kd : IntKind) (n : Int) (cs : List AV) : (AV.int kd n).reform cs = cs.head? := _root_.id rfl

/-- Each place is free, or taken by one of the claims. -/
def Below' (mx : Nat) (k : List Int) : Prop := ∀ (b : Nat) (z : Int), k[b]? = some z → z < 0 ∨ ∃ j : Nat, z = (j : Int) ∧ j < mx
theorem Run.belw {F : Nat → Nat → Bool} {n mx i b : Nat} {t t' : List Bool} {k k' : List Int} {r : Bool} (h : Run F n i b t k r t' k') (hi : i < mx) (hk : Below' mx k) : Below' mx k' := by
  have key : ∀ {k : List Int} {b i : Nat}, i < mx → Below' mx k → Below' mx (k.set b (i : Int)) := by
    intro k b i hi h b' z hz
    rw [List.getElem?_set] at hz
    split at hz
    · split at hz
      · cases hz; exact .inr ⟨i, rfl, hi⟩
      · cases hz
    · exact h b' z hz
  induction h with
  | stop => exact hk
  | skip _ _ _ ih => exact ih hi hk
  | free => exact key hi hk
  | move _ _ _ hk' _ ih =>
    rcases hk _ _ hk' with h1 | ⟨j', e, h1⟩
    · omega
    · have := Int.ofNat.inj e
      subst this
      exact key hi (ih h1 hk)
  | fail _ _ _ _ h1 _ _ ih2 =>
    have := h1.same rfl
    subst this
    exact ih2 hi hk

variable (m mc : Bool × Bool) (l : List Mo) (hf : fine l) (hl40 : l.length ≤ 1099511627776) (cs : List Int)

/-- What a search gives. -/
def Found (f : FuncId) (args : Nat → List AV) (bx : List (List AV)) (a q F : Nat) (i : Nat) (t : List Bool) (k : List Int) : Prop :=
  ∀ h, HP bx a q F k t h → ∃ r t' k' h', rc Q f (args i) h = some (.bool r, h') ∧ Run (FF l cs) l.length i 0 t k r t' k' ∧ HP bx a q F k' t' h'

section
variable (p a q F : Nat) (bx : List (List AV)) (haq : a ≠ q) (hbx : bx[p]? = some [sl m 6 (l.map moV), sl mc 1 (cs.map (AV.int .i64)), .sl a l.length 0 l.length])
include hf hl40 haq hbx

theorem loop_assign (N : Nat) (IH : ∀ t, untried t < N → ∀ i k, t.length = l.length → k.length = l.length → i < cs.length → Below' cs.length k → Found l cs n_goal_assigner_assign (fun i => [.ptr p 0, .int .i64 (i : Nat), .sl q l.length 0 l.length]) bx a q F i t k)
    (t0 : List Bool) (hN : untried t0 ≤ N) (i : Nat) (k0 : List Int) (ht0 : t0.length = l.length) (hk0 : k0.length = l.length) (hi : i < cs.length) (hB : Below' cs.length k0)
    (fr : Fr) (h : AH) (hh : HP bx a q F k0 t0 h) (hl : fr.length = 67) (h0 : look fr 0 = .ptr p 0) (h1 : look fr 1 = .int .i64 (i : Nat)) (h2 : look fr 2 = .sl q l.length 0 l.length) (h12 : look fr 12 = .int .i64 l.length) (h13 : look fr 13 = .int .i64 0) :
    Ends (lp (evalCode (lim Q) (ctxF n_goal_assigner_assign) x_goal_assigner_assign_0) (fr, h)) fun e fr' h' => Kp x_goal_assigner_assign_0.wr fr fr' ∧
      ∃ r t' k', Run (FF l cs) l.length i 0 t0 k0 r t' k' ∧ HP bx a q F k' t' h' ∧ (e = .exit 0 ∧ r = false ∨ e = .ret ∧ look fr' 6 = .bool true ∧ r = true) := by
  refine Ends_lpw rfl fr (fun n fr h => ∃ b t k, b + n = l.length ∧ look fr 13 = .int .i64 (b : Nat) ∧ HP bx a q F k t h ∧ t.length = l.length ∧ k.length = l.length ∧ Below' cs.length k ∧ untried t ≤ untried t0 ∧
    ∀ r t' k', Run (FF l cs) l.length i b t k r t' k' → Run (FF l cs) l.length i 0 t0 k0 r t' k') ?_ l.length h ⟨0, t0, k0, by omega, h13, hh, ht0, hk0, hB, Nat.le_refl _, fun _ _ _ h => h⟩
  rintro J Φ hJ hΦ n fr1 ⟨bx1, fm⟩ K ⟨b, t, k, hn, k13, ⟨rfl, hF, hk, ht⟩, hlt, hlk, hBk, hu, hr⟩
  dsimp only at hbx hF hk ht
  have hl1 : fr1.length = 67 := K.1.trans hl
  have k0 := (K.2 0 (by decide)).trans h0
  have k1 := (K.2 1 (by decide)).trans h1
  have k2 := (K.2 2 (by decide)).trans h2
  have k12 := (K.2 12 (by decide)).trans h12
  have hx := nth_map (f := AV.int .i64) (List.getElem?_eq_getElem hi)
  have hcs := List.getElem?_eq_getElem hi
  have hqa : ¬q = a := fun e => haq e.symm
  have haq' : ¬a = q := haq
  by_cases hb : b < l.length
  · have hw : IntKind.i64.wrap ((b : Int) + 1) = (b : Int) + 1 := wrap_id (by omega) (by omega)
    have htb := List.getElem?_eq_getElem (show b < t.length by omega)
    have hkb := List.getElem?_eq_getElem (show b < k.length by omega)
    have hFt := pc_fits m l hf (b : Int) cs[i]
    simp only [mosV] at hFt
    have hFF : FF l cs b i = fitsB l (b : Int) cs[i] := by simp [FF, hcs]
    generalize cs[i] = c at *
    obtain ⟨tb, htv⟩ : ∃ x, t[b]'(by omega) = x := ⟨_, rfl⟩
    obtain ⟨z, hzv⟩ : ∃ x, k[b]'(by omega) = x := ⟨_, rfl⟩
    rw [htv] at htb
    rw [hzv] at hkb
    have hqn : q < fm.length := (List.getElem?_eq_some_iff.1 ht).1
    have han : a < fm.length := (List.getElem?_eq_some_iff.1 hk).1
    have hqv : fm[q] = ⟨t.map AV.bool, 1, true⟩ := (List.getElem?_eq_some_iff.1 ht).2
    have hav : fm[a] = ⟨k.map (AV.int .i64), 1, true⟩ := (List.getElem?_eq_some_iff.1 hk).2
    cases tb with
    | true =>
      simp [x_goal_assigner_assign_0, hl1, k0, k1, k2, k12, k13, hb, hlt, ht, htv, hw]
      exact ⟨n - 1, by omega, hJ _ _ _ ⟨b + 1, t, k, by omega, by simp [hl1], ⟨rfl, hF, hk, ht⟩, hlt, hlk, hBk, hu, fun r t' k' g => hr r t' k' (.skip hb (.inl htb) g)⟩⟩
    | false =>
      cases hfb : fitsB l (b : Int) c with
      | false =>
        rw [hfb] at hFt
        simp [x_goal_assigner_assign_0, hl1, k0, k1, k2, k12, k13, hb, hlt, ht, htv, hw, hbx, hi, hx, hFt]
        exact ⟨n - 1, by omega, hJ _ _ _ ⟨b + 1, t, k, by omega, by simp [hl1], ⟨rfl, hF, hk, ht⟩, hlt, hlk, hBk, hu, fun r t' k' g => hr r t' k' (.skip hb (.inr (by rw [hFF, hfb])) g)⟩⟩
      | true =>
        rw [hfb] at hFt hFF
        by_cases hz : z < 0
        · simp [x_goal_assigner_assign_0, hl1, k0, k1, k2, k12, k13, hb, hlt, hlk, hqv, hav, htv, hzv, hw, hbx, hi, hx, hFt, hqa, haq', hqn, han, hz]
          refine hΦ _ _ _ ⟨true, t.set b true, k.set b (i : Int), hr _ _ _ (.free hb htb hFF hkb hz), ⟨rfl, by simp [hF], ?_, ?_⟩, .inr ⟨rfl, by simp [hl1], rfl⟩⟩
          · simp [han, hqa, haq', List.map_set]
          · simp [hqn, hqa, haq', List.map_set]
        · obtain ⟨j, rfl, hj⟩ : ∃ j : Nat, z = (j : Int) ∧ j < cs.length := by
            rcases hBk b z hkb with h1 | h1
            · omega
            · exact h1
          obtain ⟨r, t', k', ⟨bx2, fm2⟩, hrc, hrun, ⟨rfl, hF2, hk2, ht2⟩⟩ := IH (t.set b true) (by have := untried_set htb; omega) j k (by simp [hlt]) hlk hj hBk ⟨bx1, fm.set q ⟨(t.set b true).map AV.bool, 1, true⟩⟩
            ⟨rfl, by simp [hF], by simp [hk, hqa, haq'], by simp [hqn]⟩
          dsimp only at hF2 hk2 ht2
          simp only [List.map_set] at hrc
          have hlt2 := hrun.lens.1
          have hlk2 := hrun.lens.2
          simp only [List.length_set] at hlt2
          have han2 : a < fm2.length := (List.getElem?_eq_some_iff.1 hk2).1
          have hav2 : fm2[a] = ⟨k'.map (AV.int .i64), 1, true⟩ := (List.getElem?_eq_some_iff.1 hk2).2
          have hkb2 : k'[b]? = some (j : Int) := (hrun.keep b (set_self htb)).trans hkb
          cases r with
          | false =>
            have hkk := hrun.same rfl
            subst hkk
            simp [x_goal_assigner_assign_0, hl1, k0, k1, k2, k12, k13, hb, hlt, hlk, hqv, hav, htv, hzv, hw, hbx, hi, hx, hFt, hqa, haq', hqn, han, hz, hrc]
            exact ⟨n - 1, by omega, hJ _ _ _ ⟨b + 1, t', k', by omega, by simp [hl1], ⟨rfl, hF2, hk2, ht2⟩, by omega, by omega, hBk, Nat.le_trans (untried_le (by omega) fun b' hb' => hrun.grow b' (set_true hb')) hu, fun r t2 k2 g => hr r t2 k2 (.fail hb htb hFF hkb hrun g)⟩⟩
          | true =>
            simp [x_goal_assigner_assign_0, hl1, k0, k1, k2, k12, k13, hb, hlt, hlk, hqv, hav, htv, hzv, hw, hbx, hi, hx, hFt, hqa, haq', hqn, han, hz, hrc, hav2, hlk2, han2]
            refine hΦ _ _ _ ⟨true, t', k'.set b (i : Int), hr _ _ _ (.move hb htb hFF hkb hrun), ⟨rfl, by simp [hF2], ?_, ?_⟩, .inr ⟨rfl, by simp [hl1], rfl⟩⟩
            · simp [han2, List.map_set]
            · simp [ht2, hqa, haq']
  · simp [x_goal_assigner_assign_0, hl1, k12, k13, hb]
    exact hΦ _ _ _ ⟨false, t, k, hr _ _ _ (.stop (by omega)), ⟨rfl, hF, hk, ht⟩, .inl ⟨rfl, rfl⟩⟩

theorem rc_assign : ∀ (N : Nat) (t : List Bool), untried t ≤ N → ∀ i k, t.length = l.length → k.length = l.length → i < cs.length → Below' cs.length k →
    Found l cs n_goal_assigner_assign (fun i => [.ptr p 0, .int .i64 (i : Nat), .sl q l.length 0 l.length]) bx a q F i t k := by
  intro N
  induction N using Nat.strongRecOn with
  | _ N ih =>
    intro t hN i k htl hkl hi hB h hh
    have IH : ∀ t, untried t < N → ∀ i k, t.length = l.length → k.length = l.length → i < cs.length → Below' cs.length k → Found l cs n_goal_assigner_assign (fun i => [.ptr p 0, .int .i64 (i : Nat), .sl q l.length 0 l.length]) bx a q F i t k :=
      fun t ht => ih (untried t) ht t (Nat.le_refl _)
    obtain ⟨v, h', hrc, r, t', k', h1, h2, h3⟩ := rcQ (f := n_goal_assigner_assign) (args := [.ptr p 0, .int .i64 (i : Nat), .sl q l.length 0 l.length]) (h := h)
      (Φ := fun v h' => ∃ r t' k', Run (FF l cs) l.length i 0 t k r t' k' ∧ HP bx a q F k' t' h' ∧ v = .bool r) res_goal_assigner_assign (by simp [x_goal_assigner_assign]) fun fr hl ha => by
      have h0 := ha 0
      have h1 := ha 1
      have h2 := ha 2
      clear ha
      simp [x_goal_assigner_assign] at hl h0 h1 h2
      have hbx' := hbx
      rw [← hh.boxes] at hbx'
      simp [x_goal_assigner_assign, hl, h0, hbx']
      refine (loop_assign m mc l hf hl40 cs p a q F bx haq hbx N IH t hN i k htl hkl hi hB _ _ hh (by simp [hl]) (by simp [hl, h0]) (by simp [hl, h1]) (by simp [hl, h2]) (by simp [hl]) (by simp [hl])).mono ?_
      rintro e fr' h' ⟨K, r, t', k', g1, g2, ⟨rfl, rfl⟩ | ⟨rfl, h6, rfl⟩⟩
      · have hl' : fr'.length = 67 := K.1.trans (by simp [hl])
        simp [hl']
        exact ⟨t', k', g1, g2⟩
      · simp [h6]
        exact ⟨t', k', g1, g2⟩
    exact ⟨r, t', k', h', by rw [hrc, h3], h1, h2⟩
end
end Go.Abs.Q

/- Contracts: the assignment of Begins to claims. -/
namespace Go.Abs.Q
attribute [local simp] look_set_ne look_set_eq fin tupled code_loop raw_goal_kind raw_goal_assigner_assign raw_goal_Inject

variable (m mc : Bool × Bool) (l : List Mo) (hf : fine l) (hl40 : l.length ≤ 1099511627776) (cs : List Int) (hc40 : cs.length ≤ 1099511627776)

/-- The assigner's fields. -/
def asg : List AV := [sl m 6 (l.map moV), sl mc 1 (cs.map (AV.int .i64)), .sl 0 l.length 0 l.length]

include hl40 in
theorem loop_Inject2 (fr : Fr) (hl : fr.length = 77) (h6 : look fr 6 = .ptr 0 0) (h24 : look fr 24 = .int .i64 l.length) (h25 : look fr 25 = .int .i64 0) :
    Ends (lp (evalCode (lim Q) (ctxF n_goal_Inject) x_goal_Inject_2) (fr, ⟨[asg m mc l cs], [⟨List.replicate l.length (.int .i64 0), 1, true⟩]⟩)) fun e fr' h' => Kp x_goal_Inject_2.wr fr fr' ∧ (e = .exit 0 ∧ h' = ⟨[asg m mc l cs], [⟨(List.replicate l.length (-1)).map (AV.int .i64), 1, true⟩]⟩) := by
  refine Ends_lpw rfl fr (fun n fr h => ∃ (b : Nat) (xs : List Int), b + n = l.length ∧ look fr 25 = .int .i64 (b : Nat) ∧ xs.length = l.length ∧ (∀ b', b' < b → xs[b']? = some (-1)) ∧ h = ⟨[asg m mc l cs], [⟨xs.map (AV.int .i64), 1, true⟩]⟩) ?_ l.length _ ⟨0, List.replicate l.length 0, by omega, h25, by simp, fun b' h => by omega, by simp⟩
  rintro J Φ hJ hΦ n fr1 h1' K ⟨b, xs, hn, k25, hxl, hxs, rfl⟩
  have hl1 : fr1.length = 77 := K.1.trans hl
  have k6 := (K.2 6 (by decide)).trans h6
  have k24 := (K.2 24 (by decide)).trans h24
  by_cases hb : b < l.length
  · have hw : IntKind.i64.wrap ((b : Int) + 1) = (b : Int) + 1 := wrap_id (by omega) (by omega)
    simp [x_goal_Inject_2, hl1, k6, k24, k25, hb, hw, asg, hxl]
    refine ⟨n - 1, by omega, hJ _ _ _ ⟨b + 1, xs.set b (-1), by omega, by simp [hl1], by simp [hxl], fun b' hb' => ?_, by simp [List.map_set, asg]⟩⟩
    rw [List.getElem?_set]
    split
    · simp [show b < xs.length by omega]
    · exact hxs b' (by omega)
  · have he : xs = List.replicate l.length (-1) := by
      apply List.ext_getElem? 
      intro j
      by_cases hj : j < l.length
      · rw [hxs j (by omega), List.getElem?_replicate, if_pos hj]
      · rw [List.getElem?_eq_none (by omega), List.getElem?_eq_none (by simp; omega)]
    subst he
    simp [x_goal_Inject_2, hl1, k24, k25, hb]
    exact hΦ _ _ _ ⟨rfl, by simp⟩

include hf hl40 hc40 in
theorem loop_Inject1 (fr : Fr) (h : AH) (hl : fr.length = 77) (hbx : h.boxes = [asg m mc l cs]) (hk : h.fams[0]? = some ⟨(List.replicate l.length (-1)).map (AV.int .i64), 1, true⟩)
    (h0 : look fr 0 = sl m 6 (l.map moV)) (h6 : look fr 6 = .ptr 0 0) (h35 : look fr 35 = sl mc 1 (cs.map (AV.int .i64))) (h36 : look fr 36 = .int .i64 cs.length) (h37 : look fr 37 = .int .i64 0) :
    Ends (lp (evalCode (lim Q) (ctxF n_goal_Inject) x_goal_Inject_1) (fr, h)) fun e fr' h' => Kp x_goal_Inject_1.wr fr fr' ∧
      (e = .exit 2 ∧ (∃ k, h'.boxes = [asg m mc l cs] ∧ h'.fams[0]? = some ⟨k.map (AV.int .i64), 1, true⟩ ∧ Good (FF l cs) l.length cs.length k) ∨ e = .ret ∧ look fr' 4 = .vs true 0 [] ∧ look fr' 5 = .bool false ∧ ¬Poss l cs) := by
  refine Ends_lpw rfl fr (fun n fr h => ∃ (i : Nat) (k : List Int), i + n = cs.length ∧ look fr 37 = .int .i64 (i : Nat) ∧ h.boxes = [asg m mc l cs] ∧ h.fams[0]? = some ⟨k.map (AV.int .i64), 1, true⟩ ∧ Good (FF l cs) l.length i k) ?_ cs.length h ⟨0, _, by omega, h37, hbx, hk, Good.start⟩
  clear hbx hk
  rintro J Φ hJ hΦ n fr1 ⟨bx, fm⟩ K ⟨i, k, hn, k37, hbx, hk, hg⟩
  dsimp only at hbx hk
  subst hbx
  have hl1 : fr1.length = 77 := K.1.trans hl
  have k0 := (K.2 0 (by decide)).trans h0
  have k6 := (K.2 6 (by decide)).trans h6
  have k35 := (K.2 35 (by decide)).trans h35
  have k36 := (K.2 36 (by decide)).trans h36
  by_cases hi : i < cs.length
  · have hw : IntKind.i64.wrap ((i : Int) + 1) = (i : Int) + 1 := wrap_id (by omega) (by omega)
    have hci := List.getElem?_eq_getElem hi
    have hx := nth_map (f := AV.int .i64) hci
    have hK := pc_kind m l cs[i] 5
    simp only [mosV] at hK
    cases hkd : kindB l cs[i] 5 with
    | false =>
      rw [hkd] at hK
      have hno : ¬Poss l cs := by
        rintro ⟨bs, hbs⟩
        obtain ⟨g1, g2, _⟩ := rightB_iff.1 hbs
        have := (fitsB_bnd (g2 i _ _ hci (List.getElem?_eq_getElem (by omega)))).2.2.2.2
        rw [hkd] at this
        cases this
      generalize cs[i] = c at *
      simp [x_goal_Inject_1, hl1, k0, k6, k35, k36, k37, hi, hw, hx, hK]
      exact hΦ _ _ _ (.inr ⟨rfl, by simp [hl1], by simp [hl1], hno⟩)
    | true =>
      rw [hkd] at hK
      have h0q : 0 ≠ fm.length := by
        have := (List.getElem?_eq_some_iff.1 hk).1
        omega
      have hroom : l.length ≤ roomA ∧ l.length ≤ maxLen := by simp only [roomA, maxLen]; omega
      obtain ⟨r, t', k', ⟨bx2, fm2⟩, hrc, hrun, ⟨hb2, hF2, hk2, ht2⟩⟩ := rc_assign m mc l hf hl40 cs 0 0 fm.length (fm.length + 1) [asg m mc l cs] h0q rfl _ (List.replicate l.length false) (Nat.le_refl _) i k (by simp) hg.len hi
        (fun b z hz => by
          rcases hg.fit b z hz with h1 | ⟨j, e, h1, _⟩
          · exact .inl h1
          · exact .inr ⟨j, e, by omega⟩)
        ⟨[asg m mc l cs], fm ++ [⟨List.replicate l.length (.bool false), 1, true⟩]⟩ ⟨rfl, by simp, by rw [← hk]; exact List.getElem?_append_left (by omega), by simp⟩
      dsimp only at hb2 hF2 hk2 ht2
      subst hb2
      generalize cs[i] = c at *
      cases r with
      | false =>
        have hno : ¬Poss l cs := by
          rintro ⟨bs, hbs⟩
          exact hg.fail hrun _ ((matched_of hbs).le (by omega))
        simp [x_goal_Inject_1, hl1, k0, k6, k35, k36, k37, hi, hw, hx, hK, hroom, hrc]
        exact hΦ _ _ _ (.inr ⟨rfl, by simp [hl1], by simp [hl1], hno⟩)
      | true =>
        simp [x_goal_Inject_1, hl1, k0, k6, k35, k36, k37, hi, hw, hx, hK, hroom, hrc]
        exact ⟨n - 1, by omega, hJ _ _ _ ⟨i + 1, k', by omega, by simp [hl1], rfl, hk2, hg.step hrun⟩⟩
  · have : i = cs.length := by omega
    subst this
    simp [x_goal_Inject_1, hl1, k36, k37]
    exact hΦ _ _ _ (.inl ⟨rfl, k, rfl, hk, hg⟩)

include hl40 in
theorem loop_Inject0 (k : List Int) (hg : Good (FF l cs) l.length cs.length k) (q : Nat) (hq : q ≠ 0) (fr : Fr) (h : AH) (hl : fr.length = 77) (hk : h.fams[0]? = some ⟨k.map (AV.int .i64), 1, true⟩) (hqf : h.fams[q]? = some ⟨List.replicate cs.length (.int .i64 0), 1, true⟩)
    (h10 : look fr 10 = .sl q cs.length 0 cs.length) (h62 : look fr 62 = .sl 0 l.length 0 l.length) (h63 : look fr 63 = .int .i64 l.length) (h64 : look fr 64 = .int .i64 0) :
    Ends (lp (evalCode (lim Q) (ctxF n_goal_Inject) x_goal_Inject_0) (fr, h)) fun e fr' h' => Kp x_goal_Inject_0.wr fr fr' ∧ e = .exit 4 ∧ ∃ out : List Int, h'.fams[q]? = some ⟨out.map (AV.int .i64), 1, true⟩ ∧ rightB l cs out = true ∧ out.length = cs.length := by
  refine Ends_lpw rfl fr (fun n fr h => ∃ (b : Nat) (out : List Int), b + n = l.length ∧ look fr 64 = .int .i64 (b : Nat) ∧ h.fams[0]? = some ⟨k.map (AV.int .i64), 1, true⟩ ∧ h.fams[q]? = some ⟨out.map (AV.int .i64), 1, true⟩ ∧ out.length = cs.length ∧ ∀ (b' i : Nat), b' < b → k[b']? = some (i : Int) → out[i]? = some (b' : Int)) ?_ l.length h
    ⟨0, List.replicate cs.length 0, by omega, h64, hk, by simpa using hqf, by simp, fun b' i hb => by omega⟩
  clear hk hqf
  rintro J Φ hJ hΦ n fr1 ⟨bx, fm⟩ K ⟨b, out, hn, k64, hk, hqf, hol, ho⟩
  dsimp only at hk hqf
  have hl1 : fr1.length = 77 := K.1.trans hl
  have k10 := (K.2 10 (by decide)).trans h10
  have k62 := (K.2 62 (by decide)).trans h62
  have k63 := (K.2 63 (by decide)).trans h63
  have hkl := hg.len
  have hq' : ¬q = 0 := hq
  have hqn : q < fm.length := (List.getElem?_eq_some_iff.1 hqf).1
  by_cases hb : b < l.length
  · have hw : IntKind.i64.wrap ((b : Int) + 1) = (b : Int) + 1 := wrap_id (by omega) (by omega)
    have hkb := List.getElem?_eq_getElem (show b < k.length by omega)
    obtain ⟨z, hzv⟩ : ∃ x, k[b]'(by omega) = x := ⟨_, rfl⟩
    rw [hzv] at hkb
    rcases hg.fit b z hkb with hz | ⟨i, rfl, hi, hF⟩
    · have hz' : ¬(0 ≤ z) := by omega
      simp [x_goal_Inject_0, hl1, k10, k62, k63, k64, hb, hw, hk, hkl, hzv, hz']
      refine ⟨n - 1, by omega, hJ _ _ _ ⟨b + 1, out, by omega, by simp [hl1], hk, hqf, hol, fun b' i hb' e => ?_⟩⟩
      by_cases he : b' = b
      · subst he
        rw [hkb] at e
        cases e
        omega
      · exact ho b' i (by omega) e
    · simp [x_goal_Inject_0, hl1, k10, k62, k63, k64, hb, hw, hk, hkl, hzv, hqf, hi, hol]
      refine ⟨n - 1, by omega, hJ _ _ _ ⟨b + 1, out.set i (b : Int), by omega, by simp [hl1], ?_, ?_, by simp [hol], fun b' i' hb' e => ?_⟩⟩
      · simp [hq', hk]
      · simp [hqn, List.map_set]
      · rw [List.getElem?_set]
        by_cases he : b' = b
        · subst he
          rw [hkb] at e
          have e3 : (i : Int) = (i' : Int) := by simpa using e
          have : i = i' := by omega
          subst this
          simp [hol, hi]
        · have hne : i ≠ i' := by
            intro hii
            subst hii
            exact he (count_one (hg.one i hi) e hkb)
          rw [if_neg hne]
          exact ho b' i' (by omega) e
  · simp [x_goal_Inject_0, hl1, k63, k64, hb]
    exact hΦ _ _ _ ⟨rfl, out, hqf, right_of_good hg hol fun b' i e => ho b' i (by have := (List.getElem?_eq_some_iff.1 e).1; omega) e, hol⟩

def injV (m : Bool × Bool) (out : List Int) (ok : Bool) : AV := .tup [intsV m out, .bool ok]

include hf hl40 hc40 in
theorem pc_Inject : (pc Q n_goal_Inject [mosV m l, intsV mc cs] = some (injV (true, false) [] false) ∧ ¬Poss l cs) ∨ ∃ out, pc Q n_goal_Inject [mosV m l, intsV mc cs] = some (injV (false, true) out true) ∧ rightB l cs out = true := by
  suffices h : ∃ r, pc Q n_goal_Inject [mosV m l, intsV mc cs] = some r ∧ ((r = injV (true, false) [] false ∧ ¬Poss l cs) ∨ ∃ out, r = injV (false, true) out true ∧ rightB l cs out = true) by
    obtain ⟨r, h1, ⟨rfl, h2⟩ | ⟨out, rfl, h2⟩⟩ := h
    · exact .inl ⟨h1, h2⟩
    · exact .inr ⟨out, h1, h2⟩
  refine pc_ends_ex (C := Q) rfl res_goal_Inject (by simp [x_goal_Inject]) fun Ψ hΨ fr hl ha => ?_
  have h0 := ha 0
  have h1 := ha 1
  clear ha
  have hroom : l.length * 8 ≤ roomA ∧ l.length ≤ maxLen := by simp only [roomA, maxLen]; omega
  have hroomc : cs.length * 8 ≤ roomA ∧ cs.length ≤ maxLen := by simp only [roomA, maxLen]; omega
  have hroom' : (l.length : Int) * 8 ≤ roomA := by omega
  have hroomc' : (cs.length : Int) * 8 ≤ roomA := by omega
  simp [x_goal_Inject, mosV, intsV] at hl h0 h1
  simp [x_goal_Inject, hl, h0, h1, hroom, hroom', buildParts, fillParts]
  refine (loop_Inject2 m mc l hl40 cs _ (by simp [hl]) (by simp [hl]) (by simp [hl]) (by simp [hl])).mono ?_
  rintro e fr1 h' ⟨K, rfl, rfl⟩
  have hl1 : fr1.length = 77 := K.1.trans (by simp [hl])
  have k0 : look fr1 0 = sl m 6 (l.map moV) := (K.2 0 (by decide)).trans (by simp [hl, h0])
  have k1 : look fr1 1 = sl mc 1 (cs.map (AV.int .i64)) := (K.2 1 (by decide)).trans (by simp [hl, h1])
  have k6 : look fr1 6 = .ptr 0 0 := (K.2 6 (by decide)).trans (by simp [hl])
  clear K h0 h1
  simp [hl1, k1]
  refine (loop_Inject1 m mc l hf hl40 cs hc40 _ _ (by simp [hl1]) rfl (by simp) (by simp [hl1, k0]) (by simp [hl1, k6]) (by simp [hl1]) (by simp [hl1]) (by simp [hl1])).mono ?_
  rintro e fr2 ⟨bx, fm⟩ ⟨K, ⟨rfl, k, hbx, hk, hg⟩ | ⟨rfl, h4, h5, hno⟩⟩
  · dsimp only at hbx hk
    subst hbx
    have hl2 : fr2.length = 77 := K.1.trans (by simp [hl1])
    have q1 : look fr2 1 = sl mc 1 (cs.map (AV.int .i64)) := (K.2 1 (by decide)).trans (by simp [hl1, k1])
    have q6 : look fr2 6 = .ptr 0 0 := (K.2 6 (by decide)).trans (by simp [hl1, k6])
    clear K
    have hne : fm.length ≠ 0 := by
      have := (List.getElem?_eq_some_iff.1 hk).1
      omega
    simp [hl2, q1, q6, hroomc, hroomc', asg]
    refine (loop_Inject0 l hl40 cs k hg fm.length hne _ _ (by simp [hl2]) (by rw [← hk]; exact List.getElem?_append_left (by omega)) (by simp) (by simp [hl2]) (by simp [hl2]) (by simp [hl2]) (by simp [hl2])).mono ?_
    rintro e fr3 h3 ⟨K, rfl, out, ho, hr, hol⟩
    have hl3 : fr3.length = 77 := K.1.trans (by simp [hl2])
    have p10 : look fr3 10 = .sl fm.length cs.length 0 cs.length := (K.2 10 (by decide)).trans (by simp [hl2])
    simp [hl3, p10, ho, hol]
    have htk : List.take cs.length (out.map (AV.int .i64)) = out.map (AV.int .i64) := List.take_of_length_le (by simp; omega)
    rw [htk]
    exact hΨ _ (.inr ⟨out, rfl, hr⟩)
  · simp [h4, h5]
    exact hΨ _ (.inl ⟨rfl, hno⟩)
end Go.Abs.Q

/- Contracts: the reference's search for a Begin. -/
namespace Go.Abs.Q
attribute [local simp] look_set_ne look_set_eq fin tupled code_loop raw_ref27_Fits raw_ref27_assign

variable (m mc : Bool × Bool) (l : List Mo) (hf : fine l) (hl40 : l.length ≤ 1099511627776) (cs : List Int)

section
variable (a q F : Nat) (bx : List (List AV)) (haq : a ≠ q)
include hf hl40 haq

theorem rloop_assign (N : Nat) (IH : ∀ t, untried t < N → ∀ i k, t.length = l.length → k.length = l.length → i < cs.length → Below' cs.length k → Found l cs n_ref27_assign (fun i => [sl m 6 (l.map moV), sl mc 1 (cs.map (AV.int .i64)), .int .i64 (i : Nat), .sl a l.length 0 l.length, .sl q l.length 0 l.length]) bx a q F i t k)
    (t0 : List Bool) (hN : untried t0 ≤ N) (i : Nat) (k0 : List Int) (ht0 : t0.length = l.length) (hk0 : k0.length = l.length) (hi : i < cs.length) (hB : Below' cs.length k0)
    (fr : Fr) (h : AH) (hh : HP bx a q F k0 t0 h) (hl : fr.length = 55) (h0 : look fr 0 = sl m 6 (l.map moV)) (h1 : look fr 1 = sl mc 1 (cs.map (AV.int .i64))) (h2 : look fr 2 = .int .i64 (i : Nat)) (h3 : look fr 3 = .sl a l.length 0 l.length) (h4 : look fr 4 = .sl q l.length 0 l.length) (h11 : look fr 11 = .int .i64 0) :
    Ends (lp (evalCode (lim Q) (ctxF n_ref27_assign) x_ref27_assign_0) (fr, h)) fun e fr' h' => Kp x_ref27_assign_0.wr fr fr' ∧
      ∃ r t' k', Run (FF l cs) l.length i 0 t0 k0 r t' k' ∧ HP bx a q F k' t' h' ∧ (e = .exit 0 ∧ r = false ∨ e = .ret ∧ look fr' 10 = .bool true ∧ r = true) := by
  refine Ends_lpw rfl fr (fun n fr h => ∃ b t k, b + n = l.length ∧ look fr 11 = .int .i64 (b : Nat) ∧ HP bx a q F k t h ∧ t.length = l.length ∧ k.length = l.length ∧ Below' cs.length k ∧ untried t ≤ untried t0 ∧
    ∀ r t' k', Run (FF l cs) l.length i b t k r t' k' → Run (FF l cs) l.length i 0 t0 k0 r t' k') ?_ l.length h ⟨0, t0, k0, by omega, h11, hh, ht0, hk0, hB, Nat.le_refl _, fun _ _ _ h => h⟩
  rintro J Φ hJ hΦ n fr1 ⟨bx1, fm⟩ K ⟨b, t, k, hn, k11, ⟨rfl, hF, hk, ht⟩, hlt, hlk, hBk, hu, hr⟩
  dsimp only at hF hk ht
  have hl1 : fr1.length = 55 := K.1.trans hl
  have k0 := (K.2 0 (by decide)).trans h0
  have k1 := (K.2 1 (by decide)).trans h1
  have k2 := (K.2 2 (by decide)).trans h2
  have k3 := (K.2 3 (by decide)).trans h3
  have k4 := (K.2 4 (by decide)).trans h4
  have hx := nth_map (f := AV.int .i64) (List.getElem?_eq_getElem hi)
  have hcs := List.getElem?_eq_getElem hi
  have hqa : ¬q = a := fun e => haq e.symm
  have haq' : ¬a = q := haq
  by_cases hb : b < l.length
  · have hw : IntKind.i64.wrap ((b : Int) + 1) = (b : Int) + 1 := wrap_id (by omega) (by omega)
    have htb := List.getElem?_eq_getElem (show b < t.length by omega)
    have hkb := List.getElem?_eq_getElem (show b < k.length by omega)
    have hFt := pc_refFits m l hf (b : Int) cs[i]
    simp only [mosV] at hFt
    have hFF : FF l cs b i = fitsB l (b : Int) cs[i] := by simp [FF, hcs]
    generalize cs[i] = c at *
    obtain ⟨tb, htv⟩ : ∃ x, t[b]'(by omega) = x := ⟨_, rfl⟩
    obtain ⟨z, hzv⟩ : ∃ x, k[b]'(by omega) = x := ⟨_, rfl⟩
    rw [htv] at htb
    rw [hzv] at hkb
    have hqn : q < fm.length := (List.getElem?_eq_some_iff.1 ht).1
    have han : a < fm.length := (List.getElem?_eq_some_iff.1 hk).1
    have hqv : fm[q] = ⟨t.map AV.bool, 1, true⟩ := (List.getElem?_eq_some_iff.1 ht).2
    have hav : fm[a] = ⟨k.map (AV.int .i64), 1, true⟩ := (List.getElem?_eq_some_iff.1 hk).2
    cases tb with
    | true =>
      simp [x_ref27_assign_0, hl1, k0, k1, k2, k3, k4, k11, hb, hlt, ht, htv, hw]
      exact ⟨n - 1, by omega, hJ _ _ _ ⟨b + 1, t, k, by omega, by simp [hl1], ⟨rfl, hF, hk, ht⟩, hlt, hlk, hBk, hu, fun r t' k' g => hr r t' k' (.skip hb (.inl htb) g)⟩⟩
    | false =>
      cases hfb : fitsB l (b : Int) c with
      | false =>
        rw [hfb] at hFt
        simp [x_ref27_assign_0, hl1, k0, k1, k2, k3, k4, k11, hb, hlt, ht, htv, hw, hi, hx, hFt]
        exact ⟨n - 1, by omega, hJ _ _ _ ⟨b + 1, t, k, by omega, by simp [hl1], ⟨rfl, hF, hk, ht⟩, hlt, hlk, hBk, hu, fun r t' k' g => hr r t' k' (.skip hb (.inr (by rw [hFF, hfb])) g)⟩⟩
      | true =>
        rw [hfb] at hFt hFF
        by_cases hz : z < 0
        · simp [x_ref27_assign_0, hl1, k0, k1, k2, k3, k4, k11, hb, hlt, hlk, hqv, hav, htv, hzv, hw, hi, hx, hFt, hqa, haq', hqn, han, hz]
          refine hΦ _ _ _ ⟨true, t.set b true, k.set b (i : Int), hr _ _ _ (.free hb htb hFF hkb hz), ⟨rfl, by simp [hF], ?_, ?_⟩, .inr ⟨rfl, by simp [hl1], rfl⟩⟩
          · simp [han, hqa, haq', List.map_set]
          · simp [hqn, hqa, haq', List.map_set]
        · obtain ⟨j, rfl, hj⟩ : ∃ j : Nat, z = (j : Int) ∧ j < cs.length := by
            rcases hBk b z hkb with h1 | h1
            · omega
            · exact h1
          obtain ⟨r, t', k', ⟨bx2, fm2⟩, hrc, hrun, ⟨rfl, hF2, hk2, ht2⟩⟩ := IH (t.set b true) (by have := untried_set htb; omega) j k (by simp [hlt]) hlk hj hBk ⟨bx1, fm.set q ⟨(t.set b true).map AV.bool, 1, true⟩⟩
            ⟨rfl, by simp [hF], by simp [hk, hqa, haq'], by simp [hqn]⟩
          dsimp only at hF2 hk2 ht2
          simp only [List.map_set] at hrc
          have hlt2 := hrun.lens.1
          have hlk2 := hrun.lens.2
          simp only [List.length_set] at hlt2
          have han2 : a < fm2.length := (List.getElem?_eq_some_iff.1 hk2).1
          have hav2 : fm2[a] = ⟨k'.map (AV.int .i64), 1, true⟩ := (List.getElem?_eq_some_iff.1 hk2).2
          have hkb2 : k'[b]? = some (j : Int) := (hrun.keep b (set_self htb)).trans hkb
          cases r with
          | false =>
            have hkk := hrun.same rfl
            subst hkk
            simp [x_ref27_assign_0, hl1, k0, k1, k2, k3, k4, k11, hb, hlt, hlk, hqv, hav, htv, hzv, hw, hi, hx, hFt, hqa, haq', hqn, han, hz, hrc]
            exact ⟨n - 1, by omega, hJ _ _ _ ⟨b + 1, t', k', by omega, by simp [hl1], ⟨rfl, hF2, hk2, ht2⟩, by omega, by omega, hBk, Nat.le_trans (untried_le (by omega) fun b' hb' => hrun.grow b' (set_true hb')) hu, fun r t2 k2 g => hr r t2 k2 (.fail hb htb hFF hkb hrun g)⟩⟩
          | true =>
            simp [x_ref27_assign_0, hl1, k0, k1, k2, k3, k4, k11, hb, hlt, hlk, hqv, hav, htv, hzv, hw, hi, hx, hFt, hqa, haq', hqn, han, hz, hrc, hav2, hlk2, han2]
            refine hΦ _ _ _ ⟨true, t', k'.set b (i : Int), hr _ _ _ (.move hb htb hFF hkb hrun), ⟨rfl, by simp [hF2], ?_, ?_⟩, .inr ⟨rfl, by simp [hl1], rfl⟩⟩
            · simp [han2, List.map_set]
            · simp [ht2, hqa, haq']
  · simp [x_ref27_assign_0, hl1, k0, k11, hb]
    exact hΦ _ _ _ ⟨false, t, k, hr _ _ _ (.stop (by omega)), ⟨rfl, hF, hk, ht⟩, .inl ⟨rfl, rfl⟩⟩

theorem rc_rassign : ∀ (N : Nat) (t : List Bool), untried t ≤ N → ∀ i k, t.length = l.length → k.length = l.length → i < cs.length → Below' cs.length k →
    Found l cs n_ref27_assign (fun i => [sl m 6 (l.map moV), sl mc 1 (cs.map (AV.int .i64)), .int .i64 (i : Nat), .sl a l.length 0 l.length, .sl q l.length 0 l.length]) bx a q F i t k := by
  intro N
  induction N using Nat.strongRecOn with
  | _ N ih =>
    intro t hN i k htl hkl hi hB h hh
    have IH : ∀ t, untried t < N → ∀ i k, t.length = l.length → k.length = l.length → i < cs.length → Below' cs.length k → Found l cs n_ref27_assign (fun i => [sl m 6 (l.map moV), sl mc 1 (cs.map (AV.int .i64)), .int .i64 (i : Nat), .sl a l.length 0 l.length, .sl q l.length 0 l.length]) bx a q F i t k :=
      fun t ht => ih (untried t) ht t (Nat.le_refl _)
    obtain ⟨v, h', hrc, r, t', k', h1, h2, h3⟩ := rcQ (f := n_ref27_assign) (args := [sl m 6 (l.map moV), sl mc 1 (cs.map (AV.int .i64)), .int .i64 (i : Nat), .sl a l.length 0 l.length, .sl q l.length 0 l.length]) (h := h)
      (Φ := fun v h' => ∃ r t' k', Run (FF l cs) l.length i 0 t k r t' k' ∧ HP bx a q F k' t' h' ∧ v = .bool r) res_ref27_assign (by simp [x_ref27_assign]) fun fr hl ha => by
      have h0 := ha 0
      have h1 := ha 1
      have h2 := ha 2
      have h3 := ha 3
      have h4 := ha 4
      clear ha
      simp [x_ref27_assign] at hl h0 h1 h2 h3 h4
      simp [x_ref27_assign, hl]
      refine (rloop_assign m mc l hf hl40 cs a q F bx haq N IH t hN i k htl hkl hi hB _ _ hh (by simp [hl]) (by simp [hl, h0]) (by simp [hl, h1]) (by simp [hl, h2]) (by simp [hl, h3]) (by simp [hl, h4]) (by simp [hl])).mono ?_
      rintro e fr' h' ⟨K, r, t', k', g1, g2, ⟨rfl, rfl⟩ | ⟨rfl, h6, rfl⟩⟩
      · have hl' : fr'.length = 55 := K.1.trans (by simp [hl])
        simp [hl']
        exact ⟨t', k', g1, g2⟩
      · simp [h6]
        exact ⟨t', k', g1, g2⟩
    exact ⟨r, t', k', h', by rw [hrc, h3], h1, h2⟩
end
end Go.Abs.Q

/- Contracts: is there an assignment, by the reference? -/
namespace Go.Abs.Q
attribute [local simp] look_set_ne look_set_eq fin tupled code_loop raw_ref27_kind raw_ref27_assign raw_ref27_Possible

variable (m mc : Bool × Bool) (l : List Mo) (hf : fine l) (hl40 : l.length ≤ 1099511627776) (cs : List Int) (hc40 : cs.length ≤ 1099511627776)

include hl40 in
theorem loop_Possible1 (fr : Fr) (hl : fr.length = 44) (h5 : look fr 5 = .sl 0 l.length 0 l.length) (h6 : look fr 6 = .int .i64 0) :
    Ends (lp (evalCode (lim Q) (ctxF n_ref27_Possible) x_ref27_Possible_1) (fr, ⟨[], [⟨List.replicate l.length (.int .i64 0), 1, true⟩]⟩)) fun e fr' h' => Kp x_ref27_Possible_1.wr fr fr' ∧ (e = .exit 0 ∧ h' = ⟨[], [⟨(List.replicate l.length (-1)).map (AV.int .i64), 1, true⟩]⟩) := by
  refine Ends_lpw rfl fr (fun n fr h => ∃ (b : Nat) (xs : List Int), b + n = l.length ∧ look fr 6 = .int .i64 (b : Nat) ∧ xs.length = l.length ∧ (∀ b', b' < b → xs[b']? = some (-1)) ∧ h = ⟨[], [⟨xs.map (AV.int .i64), 1, true⟩]⟩) ?_ l.length _ ⟨0, List.replicate l.length 0, by omega, h6, by simp, fun b' h => by omega, by simp⟩
  rintro J Φ hJ hΦ n fr1 h1' K ⟨b, xs, hn, k6, hxl, hxs, rfl⟩
  have hl1 : fr1.length = 44 := K.1.trans hl
  have k5 := (K.2 5 (by decide)).trans h5
  by_cases hb : b < l.length
  · have hw : IntKind.i64.wrap ((b : Int) + 1) = (b : Int) + 1 := wrap_id (by omega) (by omega)
    simp [x_ref27_Possible_1, hl1, k5, k6, hb, hw, hxl]
    refine ⟨n - 1, by omega, hJ _ _ _ ⟨b + 1, xs.set b (-1), by omega, by simp [hl1], by simp [hxl], fun b' hb' => ?_, by simp [List.map_set]⟩⟩
    rw [List.getElem?_set]
    split
    · simp [show b < xs.length by omega]
    · exact hxs b' (by omega)
  · have he : xs = List.replicate l.length (-1) := by
      apply List.ext_getElem?
      intro j
      by_cases hj : j < l.length
      · rw [hxs j (by omega), List.getElem?_replicate, if_pos hj]
      · rw [List.getElem?_eq_none (by omega), List.getElem?_eq_none (by simp; omega)]
    subst he
    simp [x_ref27_Possible_1, hl1, k5, k6, hb]
    exact hΦ _ _ _ ⟨rfl, by simp⟩

include hf hl40 hc40 in
theorem loop_Possible0 (fr : Fr) (h : AH) (hl : fr.length = 44) (hbx : h.boxes = []) (hk : h.fams[0]? = some ⟨(List.replicate l.length (-1)).map (AV.int .i64), 1, true⟩)
    (h0 : look fr 0 = sl m 6 (l.map moV)) (h1 : look fr 1 = sl mc 1 (cs.map (AV.int .i64))) (h5 : look fr 5 = .sl 0 l.length 0 l.length) (h7 : look fr 7 = .int .i64 0) :
    Ends (lp (evalCode (lim Q) (ctxF n_ref27_Possible) x_ref27_Possible_0) (fr, h)) fun e fr' h' => Kp x_ref27_Possible_0.wr fr fr' ∧
      (e = .exit 2 ∧ (∃ k, Good (FF l cs) l.length cs.length k) ∨ e = .ret ∧ look fr' 4 = .bool false ∧ ¬Poss l cs) := by
  refine Ends_lpw rfl fr (fun n fr h => ∃ (i : Nat) (k : List Int), i + n = cs.length ∧ look fr 7 = .int .i64 (i : Nat) ∧ h.boxes = [] ∧ h.fams[0]? = some ⟨k.map (AV.int .i64), 1, true⟩ ∧ Good (FF l cs) l.length i k) ?_ cs.length h ⟨0, _, by omega, h7, hbx, hk, Good.start⟩
  clear hbx hk
  rintro J Φ hJ hΦ n fr1 ⟨bx, fm⟩ K ⟨i, k, hn, k7, hbx, hk, hg⟩
  dsimp only at hbx hk
  subst hbx
  have hl1 : fr1.length = 44 := K.1.trans hl
  have k0 := (K.2 0 (by decide)).trans h0
  have k1 := (K.2 1 (by decide)).trans h1
  have k5 := (K.2 5 (by decide)).trans h5
  by_cases hi : i < cs.length
  · have hw : IntKind.i64.wrap ((i : Int) + 1) = (i : Int) + 1 := wrap_id (by omega) (by omega)
    have hci := List.getElem?_eq_getElem hi
    have hx := nth_map (f := AV.int .i64) hci
    have hK := pc_refkind m l cs[i] 5
    simp only [mosV] at hK
    cases hkd : kindB l cs[i] 5 with
    | false =>
      rw [hkd] at hK
      have hno : ¬Poss l cs := by
        rintro ⟨bs, hbs⟩
        obtain ⟨g1, g2, _⟩ := rightB_iff.1 hbs
        have := (fitsB_bnd (g2 i _ _ hci (List.getElem?_eq_getElem (by omega)))).2.2.2.2
        rw [hkd] at this
        cases this
      generalize cs[i] = c at *
      simp [x_ref27_Possible_0, hl1, k0, k1, k5, k7, hi, hw, hx, hK]
      exact hΦ _ _ _ (.inr ⟨rfl, by simp [hl1], hno⟩)
    | true =>
      rw [hkd] at hK
      have h0q : 0 ≠ fm.length := by
        have := (List.getElem?_eq_some_iff.1 hk).1
        omega
      have hroom : l.length ≤ roomA ∧ l.length ≤ maxLen := by simp only [roomA, maxLen]; omega
      obtain ⟨r, t', k', ⟨bx2, fm2⟩, hrc, hrun, ⟨hb2, hF2, hk2, ht2⟩⟩ := rc_rassign m mc l hf hl40 cs 0 fm.length (fm.length + 1) [] h0q _ (List.replicate l.length false) (Nat.le_refl _) i k (by simp) hg.len hi
        (fun b z hz => by
          rcases hg.fit b z hz with h1 | ⟨j, e, h1, _⟩
          · exact .inl h1
          · exact .inr ⟨j, e, by omega⟩)
        ⟨[], fm ++ [⟨List.replicate l.length (.bool false), 1, true⟩]⟩ ⟨rfl, by simp, by rw [← hk]; exact List.getElem?_append_left (by omega), by simp⟩
      dsimp only at hb2 hF2 hk2 ht2
      subst hb2
      generalize cs[i] = c at *
      cases r with
      | false =>
        have hno : ¬Poss l cs := by
          rintro ⟨bs, hbs⟩
          exact hg.fail hrun _ ((matched_of hbs).le (by omega))
        simp [x_ref27_Possible_0, hl1, k0, k1, k5, k7, hi, hw, hx, hK, hroom, hrc]
        exact hΦ _ _ _ (.inr ⟨rfl, by simp [hl1], hno⟩)
      | true =>
        simp [x_ref27_Possible_0, hl1, k0, k1, k5, k7, hi, hw, hx, hK, hroom, hrc]
        exact ⟨n - 1, by omega, hJ _ _ _ ⟨i + 1, k', by omega, by simp [hl1], rfl, hk2, hg.step hrun⟩⟩
  · have : i = cs.length := by omega
    subst this
    simp [x_ref27_Possible_0, hl1, k1, k7]
    exact hΦ _ _ _ (.inl ⟨rfl, k, hg⟩)

theorem poss_of_good {l : List Mo} {cs : List Int} {k : List Int} (g : Good (FF l cs) l.length cs.length k) : Poss l cs := by
  have : ∀ n, n ≤ cs.length → ∃ out : List Int, out.length = n ∧ ∀ j, j < n → ∃ b : Nat, out[j]? = some (b : Int) ∧ k[b]? = some (j : Int) := by
    intro n
    induction n with
    | zero => exact fun _ => ⟨[], rfl, fun j hj => by omega⟩
    | succ n ih =>
      intro hn
      obtain ⟨out, h1, h2⟩ := ih (by omega)
      obtain ⟨b, hb, _⟩ := g.place (j := n) (by omega)
      refine ⟨out ++ [(b : Int)], by simp [h1], fun j hj => ?_⟩
      by_cases e : j = n
      · subst e
        exact ⟨b, by rw [List.getElem?_append_right (by omega)]; simp [h1], hb⟩
      · obtain ⟨b', h3, h4⟩ := h2 j (by omega)
        exact ⟨b', by rw [List.getElem?_append_left (by omega)]; exact h3, h4⟩
  obtain ⟨out, h1, h2⟩ := this cs.length (Nat.le_refl _)
  refine ⟨out, right_of_good g h1 fun b i hb => ?_⟩
  have hi : i < cs.length := by
    rcases g.fit b _ hb with h | ⟨j, e, h, _⟩
    · omega
    · omega
  obtain ⟨b', h3, h4⟩ := h2 i hi
  rw [count_one (g.one i hi) hb h4]
  exact h3

include hf hl40 hc40 in
theorem pc_Possible : ∃ ok, pc Q n_ref27_Possible [mosV m l, intsV mc cs] = some (.bool ok) ∧ (ok = true ↔ Poss l cs) := by
  suffices h : ∃ r, pc Q n_ref27_Possible [mosV m l, intsV mc cs] = some r ∧ ∃ ok, r = .bool ok ∧ (ok = true ↔ Poss l cs) by
    obtain ⟨r, h1, ok, rfl, h2⟩ := h
    exact ⟨ok, h1, h2⟩
  refine pc_ends_ex (C := Q) rfl res_ref27_Possible (by simp [x_ref27_Possible]) fun Ψ hΨ fr hl ha => ?_
  have h0 := ha 0
  have h1 := ha 1
  clear ha
  have hroom : l.length * 8 ≤ roomA ∧ l.length ≤ maxLen := by simp only [roomA, maxLen]; omega
  have hroom' : (l.length : Int) * 8 ≤ roomA := by omega
  simp [x_ref27_Possible, mosV, intsV] at hl h0 h1
  simp [x_ref27_Possible, hl, h0, hroom, hroom']
  refine (loop_Possible1 l hl40 _ (by simp [hl]) (by simp [hl]) (by simp [hl])).mono ?_
  rintro e fr1 h' ⟨K, rfl, rfl⟩
  have hl1 : fr1.length = 44 := K.1.trans (by simp [hl])
  have k0 : look fr1 0 = sl m 6 (l.map moV) := (K.2 0 (by decide)).trans (by simp [hl, h0])
  have k1 : look fr1 1 = sl mc 1 (cs.map (AV.int .i64)) := (K.2 1 (by decide)).trans (by simp [hl, h1])
  have k5 : look fr1 5 = .sl 0 l.length 0 l.length := (K.2 5 (by decide)).trans (by simp [hl])
  clear K h0 h1
  simp [hl1]
  refine (loop_Possible0 m mc l hf hl40 cs hc40 _ _ (by simp [hl1]) rfl (by simp) (by simp [hl1, k0]) (by simp [hl1, k1]) (by simp [hl1, k5]) (by simp [hl1])).mono ?_
  rintro e fr2 h2 ⟨K, ⟨rfl, k, hg⟩ | ⟨rfl, h4, hno⟩⟩
  · have hl2 : fr2.length = 44 := K.1.trans (by simp [hl1])
    simp [hl2]
    exact hΨ _ ⟨true, rfl, by simp [poss_of_good hg]⟩
  · simp [h4]
    exact hΨ _ ⟨false, rfl, by simp [hno]⟩
end Go.Abs.Q

/- Contracts: the examples of the chapter. -/
namespace Go.Abs.Q
open Go.Proofs
theorem awake_orc : (orc Q 20).pure n_law27_awake [] = some (.bool true) := by kernel_rfl
theorem pc_awake : pc Q n_law27_awake [] = some (.bool true) := orc_pc Q awake_orc
end Go.Abs.Q

/- Contract: the law GoalAgree returns true. -/
namespace Go.Abs.Q
attribute [local simp] look_set_ne look_set_eq fin tupled code_loop raw_law27_awake raw_ref27_Few raw_goal_Agree raw_ref27_Agree

theorem agreeFrom_tup (l : List Mo) (c : Int) : ∀ n i, ∃ (a : Int) (b : Bool), agreeFrom l c n i = .tup [.int .i64 a, .bool b]
  | 0, _ => ⟨0, false, rfl⟩
  | n + 1, i => by
    simp only [agreeFrom]
    split
    · exact ⟨_, _, rfl⟩
    · exact agreeFrom_tup l c n (i + 1)

@[simp] theorem scalar_tup2 (a b : AV) : (AV.tup [a, b]).scalar = (a.scalar0 && b.scalar0) := by simp [AV.scalar]
@[simp] theorem scalar0_int (k : IntKind) (n : Int) : (AV.int k n).scalar0 = true := _root_.id rfl
@[simp] theorem scalar0_bool (b : Bool) : (AV.bool b).scalar0 = true := _root_.id rfl

theorem pc_GoalAgree (m : Bool × Bool) (l : List Mo) (hb : totM l ≤ 1099511627776) (hlen : l.length ≤ 1099511627776) (c : Int) : pc Q n_law27_GoalAgree [mosV m l, .int .i64 c] = some (.bool true) := by
  have hF := pc_FewM m l hb
  have hA := pc_Agree m l (totM_fine hb) hlen c
  have hR := pc_refAgree m l (totM_fine hb) hlen c
  obtain ⟨a, b, hv⟩ := agreeFrom_tup l c l.length 0
  rw [agreeV, hv] at hA hR
  refine pcQ res_law27_GoalAgree rfl (by simp [x_law27_GoalAgree]) fun fr hl ha => ?_
  have h0 := ha 0
  have h1 := ha 1
  clear ha
  simp [x_law27_GoalAgree, mosV] at hl h0 h1 hF hA hR
  cases hf : fewM l with
  | false =>
    rw [hf] at hF
    simp [x_law27_GoalAgree, hl, h0, pc_awake, hF]
  | true =>
    rw [hf] at hF
    simp [x_law27_GoalAgree, hl, h0, h1, pc_awake, hF, hA, hR]
end Go.Abs.Q

/- Contracts: the laws GoalInject and GoalAssigned return true. -/
namespace Go.Abs.Q
attribute [local simp] look_set_ne look_set_eq fin tupled code_loop raw_law27_awake raw_ref27_Few raw_goal_Agree raw_goal_Inject raw_ref27_Possible raw_ref27_CheckInject raw_goal_CheckInject

theorem agree_of_fit {l : List Mo} {b c : Int} (h : fitsB l b c = true) : ∃ a, agreeV l c = .tup [.int .i64 a, .bool true] := by
  have hb := fitsB_bnd h
  have key : ∀ n i, i + n = l.length → (i : Int) ≤ b → ∃ a, agreeFrom l c n i = .tup [.int .i64 a, .bool true] := by
    intro n
    induction n with
    | zero => intro i hi hle; omega
    | succ n ih =>
      intro i hi hle
      simp only [agreeFrom]
      split
      · exact ⟨_, rfl⟩
      · rename_i hn
        have : (i : Int) ≠ b := fun e => hn (by rw [e]; exact h)
        exact ih (i + 1) (by omega) (by omega)
  exact key l.length 0 (by omega) hb.1

theorem loop_GoalInject (m mc : Bool × Bool) (l : List Mo) (hf : fine l) (hl40 : l.length ≤ 1099511627776) (cs : List Int) (hc40 : cs.length ≤ 1099511627776) (hp : Poss l cs) (fr : Fr) (h : AH) (hl : fr.length = 77)
    (h0 : look fr 0 = sl m 6 (l.map moV)) (h52 : look fr 52 = sl mc 1 (cs.map (AV.int .i64))) (h53 : look fr 53 = .int .i64 cs.length) (h54 : look fr 54 = .int .i64 0) :
    Ends (lp (evalCode (lim Q) (ctxF n_law27_GoalInject) x_law27_GoalInject_0) (fr, h)) fun e fr' h' => Kp x_law27_GoalInject_0.wr fr fr' ∧ e = .exit 0 := by
  refine Ends_lpk rfl fr (fun n fr h => ∃ (i : Nat), i + n = cs.length ∧ look fr 54 = .int .i64 (i : Nat)) ?_ cs.length h ⟨0, by omega, h54⟩
  rintro n fr1 h1' K ⟨i, hn, k54⟩
  have hl1 : fr1.length = 77 := K.1.trans hl
  have k0 := (K.2 0 (by decide)).trans h0
  have k52 := (K.2 52 (by decide)).trans h52
  have k53 := (K.2 53 (by decide)).trans h53
  by_cases hi : i < cs.length
  · have hw : IntKind.i64.wrap ((i : Int) + 1) = (i : Int) + 1 := wrap_id (by omega) (by omega)
    have hx := nth_map (f := AV.int .i64) (List.getElem?_eq_getElem hi)
    obtain ⟨bs, hbs⟩ := hp
    obtain ⟨g1, g2, _⟩ := rightB_iff.1 hbs
    obtain ⟨a, ha⟩ := agree_of_fit (g2 i _ _ (List.getElem?_eq_getElem hi) (List.getElem?_eq_getElem (by omega)))
    have hA := pc_Agree m l hf hl40 cs[i]
    rw [ha] at hA
    simp only [mosV] at hA
    generalize cs[i] = c at *
    simp [x_law27_GoalInject_0, hl1, k0, k52, k53, k54, hi, hw, hx, hA]
    exact ⟨n - 1, by omega, i + 1, by omega, by simp⟩
  · simp [x_law27_GoalInject_0, hl1, k53, k54, hi]

theorem pc_GoalInject (m mc : Bool × Bool) (l : List Mo) (hb : totM l ≤ 1099511627776) (hl40 : l.length ≤ 1099511627776) (cs : List Int) (hc40 : cs.length ≤ 1099511627776) : pc Q n_law27_GoalInject [mosV m l, intsV mc cs] = some (.bool true) := by
  have hF := pc_FewM m l hb
  have hfine := totM_fine hb
  obtain ⟨ok, hP, hok⟩ := pc_Possible m mc l hfine hl40 cs hc40
  refine pcQ res_law27_GoalInject rfl (by simp [x_law27_GoalInject]) fun fr hl ha => ?_
  have h0 := ha 0
  have h1 := ha 1
  clear ha
  simp [x_law27_GoalInject, mosV, intsV] at hl h0 h1 hF
  cases hf : fewM l with
  | false =>
    rw [hf] at hF
    simp [x_law27_GoalInject, hl, h0, pc_awake, hF]
  | true =>
    rw [hf] at hF
    by_cases h30 : (30 : Int) < cs.length
    · simp [x_law27_GoalInject, hl, h0, h1, pc_awake, hF, h30]
    · rcases pc_Inject m mc l hfine hl40 cs hc40 with ⟨hI, hno⟩ | ⟨out, hI, hr⟩
      · have : ok = false := by
          cases ok with
          | false => rfl
          | true => exact absurd (hok.1 rfl) hno
        subst this
        simp only [mosV, intsV, injV] at hI hP
        simp [x_law27_GoalInject, hl, h0, h1, pc_awake, hF, h30, hI, hP]
      · have : ok = true := hok.2 ⟨out, hr⟩
        subst this
        have hlen := (rightB_iff.1 hr).1
        have hC := pc_CheckInject m mc (false, true) l hfine cs out hc40
        have hC' := pc_refCheckInject m mc (false, true) l hfine cs out hc40
        rw [hr] at hC hC'
        simp only [mosV, intsV, injV] at hI hP hC hC'
        simp [x_law27_GoalInject, hl, h0, h1, pc_awake, hF, h30, hI, hP]
        refine (loop_GoalInject m mc l hfine hl40 cs hc40 ⟨out, hr⟩ _ _ (by simp [hl]) (by simp [hl, h0]) (by simp [hl]) (by simp [hl]) (by simp [hl])).mono ?_
        rintro e fr' h' ⟨K, rfl⟩
        have hl' : fr'.length = 77 := K.1.trans (by simp [hl])
        have k0 : look fr' 0 = sl m 6 (l.map moV) := (K.2 0 (by decide)).trans (by simp [hl, h0])
        have k1 : look fr' 1 = sl mc 1 (cs.map (AV.int .i64)) := (K.2 1 (by decide)).trans (by simp [hl, h1])
        have k5 : look fr' 5 = sl (false, true) 1 (out.map (AV.int .i64)) := (K.2 5 (by decide)).trans (by simp [hl])
        simp [hl', k0, k1, k5, hC, hC']

theorem pc_GoalAssigned (m mc mb : Bool × Bool) (l : List Mo) (hb : totM l ≤ 1099511627776) (hl40 : l.length ≤ 1099511627776) (cs bs : List Int) (hc40 : cs.length ≤ 1099511627776) :
    pc Q n_law27_GoalAssigned [mosV m l, .agg [intsV mc cs, intsV mb bs]] = some (.bool true) := by
  have hF := pc_FewM m l hb
  have hfine := totM_fine hb
  refine pcQ res_law27_GoalAssigned rfl (by simp [x_law27_GoalAssigned]) fun fr hl ha => ?_
  have h0 := ha 0
  have h1 := ha 1
  clear ha
  simp [x_law27_GoalAssigned, mosV, intsV] at hl h0 h1 hF
  cases hf : fewM l with
  | false =>
    rw [hf] at hF
    simp [x_law27_GoalAssigned, hl, h0, h1, pc_awake, hF]
  | true =>
    rw [hf] at hF
    by_cases h30 : (30 : Int) < cs.length
    · simp [x_law27_GoalAssigned, hl, h0, h1, pc_awake, hF, h30]
    · by_cases h40 : (40 : Int) < bs.length
      · simp [x_law27_GoalAssigned, hl, h0, h1, pc_awake, hF, h30, h40]
      · have hC := pc_CheckInject m mc mb l hfine cs bs hc40
        have hC' := pc_refCheckInject m mc mb l hfine cs bs hc40
        rcases pc_Inject m mc l hfine hl40 cs hc40 with ⟨hI, hno⟩ | ⟨out, hI, hr⟩
        · have hr : rightB l cs bs = false := by
            cases hq : rightB l cs bs with
            | false => rfl
            | true => exact absurd ⟨bs, hq⟩ hno
          rw [hr] at hC hC'
          simp only [mosV, intsV, injV] at hI hC hC'
          simp [x_law27_GoalAssigned, hl, h0, h1, pc_awake, hF, h30, h40, hI, hC, hC']
        · simp only [mosV, intsV, injV] at hI hC hC'
          cases hq : rightB l cs bs with
          | false =>
            rw [hq] at hC hC'
            simp [x_law27_GoalAssigned, hl, h0, h1, pc_awake, hF, h30, h40, hI, hC, hC']
          | true =>
            rw [hq] at hC hC'
            simp [x_law27_GoalAssigned, hl, h0, h1, pc_awake, hF, h30, h40, hI, hC, hC']
end Go.Abs.Q

/- Contract: the law GoalFewer returns true. -/
namespace Go.Abs.Q
attribute [local simp] look_set_ne look_set_eq fin tupled code_loop raw_law27_awake raw_ref27_Few raw_goal_Inject

theorem Poss.tail {l : List Mo} {c : Int} {cs : List Int} (h : Poss l (c :: cs)) : Poss l cs := by
  obtain ⟨bs, hb⟩ := h
  obtain ⟨h1, h2, h3⟩ := rightB_iff.1 hb
  cases bs with
  | nil => simp at h1
  | cons b bs =>
    rw [List.nodup_cons] at h3
    exact ⟨bs, rightB_iff.2 ⟨by simpa using h1, fun i c' b' hc hb => h2 (i + 1) c' b' (by simpa using hc) (by simpa using hb), h3.2⟩⟩

theorem Poss.init {l : List Mo} {cs : List Int} (h : Poss l cs) (n : Nat) : Poss l (cs.take n) := by
  obtain ⟨bs, hb⟩ := h
  obtain ⟨h1, h2, h3⟩ := rightB_iff.1 hb
  refine ⟨bs.take n, rightB_iff.2 ⟨by simp [h1], fun i c' b' hc hb => ?_, List.Pairwise.sublist (List.take_sublist _ _) h3⟩⟩
  rw [List.getElem?_take] at hc hb
  by_cases hi : i < n
  · rw [if_pos hi] at hc hb
    exact h2 i c' b' hc hb
  · rw [if_neg hi] at hc
    cases hc

theorem atI_cons {l : List Mo} {x : Mo} {i : Int} (h : 0 ≤ i) : atI (x :: l) (i + 1) = atI l i := by
  unfold atI
  rw [if_pos h, if_pos (by omega)]
  have : (i + 1).toNat = i.toNat + 1 := by omega
  rw [this, List.getElem?_cons_succ]

theorem Poss.front {l : List Mo} {cs : List Int} (h : Poss l cs) (x : Mo) : Poss (x :: l) (cs.map (· + 1)) := by
  obtain ⟨bs, hb⟩ := h
  obtain ⟨h1, h2, h3⟩ := rightB_iff.1 hb
  refine ⟨bs.map (· + 1), rightB_iff.2 ⟨by simp [h1], fun i c' b' hc hb => ?_, nodup_map h3 fun x _ y _ e => by omega⟩⟩
  simp only [List.getElem?_map, Option.map_eq_some_iff] at hc hb
  obtain ⟨c, hc, rfl⟩ := hc
  obtain ⟨b, hb, rfl⟩ := hb
  have hf := h2 i c b hc hb
  have hbd := fitsB_bnd hf
  unfold fitsB at hf ⊢
  rw [atI_cons hbd.1, atI_cons hbd.2.2.1]
  have : decide (b + 1 < c + 1) = decide (b < c) := by
    rw [Bool.eq_iff_iff]; simp
  rw [this]
  exact hf

/-- A list of numbers that grows. -/
def GroI (bx : List (List AV)) (acc : List Int) (v : AV) (h : AH) : Prop := (acc = [] ∧ v = .vs true 0 [] ∧ h = ⟨bx, []⟩) ∨ (acc ≠ [] ∧ v = .sl 0 acc.length 0 acc.length ∧ h = ⟨bx, [⟨acc.map (AV.int .i64), 1, false⟩]⟩)
theorem GroI_app {bx : List (List AV)} {acc : List Int} {v : AV} {h : AH} (hg : GroI bx acc v h) (x : Int) (hb : acc.length + 1 ≤ 1099511627776) :
    ∃ v' h', appendA (ctxF n_law27_GoalFewer) h 1 8 v (sl (true, true) 1 [.int .i64 x]) = some (v', h') ∧ GroI bx (acc ++ [x]) v' h' := by
  rcases hg with ⟨rfl, rfl, rfl⟩ | ⟨hne, rfl, rfl⟩
  · have hr : (1 : Nat) * 8 ≤ roomA ∧ (1 : Nat) ≤ maxLen := by simp only [roomA, maxLen]; omega
    refine ⟨_, _, ?_, .inr ⟨by simp, rfl, rfl⟩⟩
    rw [app_nil, sl_elems, Option.bind_some, if_neg (by simp), if_pos (by simpa using hr)]
    simp [mutF]
  · have hr : (acc.length + 1) * 8 ≤ roomA ∧ acc.length + 1 ≤ maxLen := by
      simp only [roomA, maxLen]
      omega
    refine ⟨_, _, ?_, .inr ⟨by simp [hne], rfl, rfl⟩⟩
    rw [app_view, sl_elems]
    simp [hr]

theorem loop_GoalFewer (mc : Bool × Bool) (bx : List (List AV)) (cs : List Int) (hc40 : cs.length ≤ 1099511627776) (hin : ∀ c ∈ cs, 0 ≤ c ∧ c ≤ 1099511627776) (fr : Fr) (hl : fr.length = 96)
    (h9 : look fr 9 = .vs true 0 []) (h51 : look fr 51 = sl mc 1 (cs.map (AV.int .i64))) (h52 : look fr 52 = .int .i64 cs.length) (h53 : look fr 53 = .int .i64 0) :
    Ends (lp (evalCode (lim Q) (ctxF n_law27_GoalFewer) x_law27_GoalFewer_0) (fr, ⟨bx, []⟩)) fun e fr' h' => Kp x_law27_GoalFewer_0.wr fr fr' ∧ e = .exit 0 ∧ GroI bx (cs.map (· + 1)) (look fr' 9) h' := by
  refine Ends_lpw rfl fr (fun n fr h => ∃ (i : Nat), i + n = cs.length ∧ look fr 53 = .int .i64 (i : Nat) ∧ GroI bx ((cs.take i).map (· + 1)) (look fr 9) h) ?_ cs.length _ ⟨0, by omega, h53, .inl ⟨by simp, h9, rfl⟩⟩
  rintro J Φ hJ hΦ n fr1 h1' K ⟨i, hn, k53, hg⟩
  have hl1 : fr1.length = 96 := K.1.trans hl
  have k51 := (K.2 51 (by decide)).trans h51
  have k52 := (K.2 52 (by decide)).trans h52
  by_cases hi : i < cs.length
  · have hw : IntKind.i64.wrap ((i : Int) + 1) = (i : Int) + 1 := wrap_id (by omega) (by omega)
    have hx := nth_map (f := AV.int .i64) (List.getElem?_eq_getElem hi)
    have hc := hin _ (List.getElem_mem hi)
    obtain ⟨v', h', happ, hg'⟩ := GroI_app hg (cs[i] + 1) (by simp; omega)
    have hnext : (cs.take i).map (· + 1) ++ [cs[i] + 1] = (cs.take (i + 1)).map (· + 1) := by rw [List.take_succ_eq_append_getElem hi, List.map_append]; rfl
    rw [hnext] at hg'
    generalize cs[i] = c at *
    have hw' : IntKind.i64.wrap (c + 1) = c + 1 := wrap_id (by omega) (by omega)
    simp [x_law27_GoalFewer_0, hl1, k51, k52, k53, hi, hw, hw', hx, sliceParts, happ]
    exact ⟨n - 1, by omega, hJ _ _ _ ⟨i + 1, by omega, by simp [hl1], by simpa [hl1] using hg'⟩⟩
  · rw [List.take_of_length_le (by omega)] at hg
    simp [x_law27_GoalFewer_0, hl1, k52, k53, hi]
    exact hΦ _ _ _ ⟨rfl, by simpa [hl1] using hg⟩

theorem pc_GoalFewer (m mc : Bool × Bool) (l : List Mo) (hb : totM l ≤ 1099511627776) (hl40 : l.length + 1 ≤ 1099511627776) (cs : List Int) (hc40 : cs.length ≤ 1099511627776) (x : Mo) (hx40 : Tm.sizes x.terms ≤ 1099511627776) :
    pc Q n_law27_GoalFewer [mosV m l, intsV mc cs, moV x] = some (.bool true) := by
  have hF := pc_FewM m l hb
  have hfine := totM_fine hb
  have hFx := pc_FewM (true, true) [x] (by simp [totM]; omega)
  refine pcQ res_law27_GoalFewer rfl (by simp [x_law27_GoalFewer]) fun fr hl ha => ?_
  have h0 := ha 0
  have h1 := ha 1
  have h2 := ha 2
  clear ha
  simp only [mosV, List.map_cons, List.map_nil] at hF hFx
  simp [x_law27_GoalFewer, mosV, intsV, moV] at hl h0 h1 h2
  simp only [moV] at hFx
  cases hf : fewM l with
  | false =>
    rw [hf] at hF
    simp [x_law27_GoalFewer, hl, h0, h1, h2, pc_awake, hF]
  | true =>
  rw [hf] at hF
  cases hf2 : fewM [x] with
  | false =>
    rw [hf2] at hFx
    simp [x_law27_GoalFewer, hl, h0, h1, h2, pc_awake, hF, sliceParts, hFx]
  | true =>
  rw [hf2] at hFx
  cases cs with
  | nil => simp [x_law27_GoalFewer, hl, h0, h1, h2, pc_awake, hF, sliceParts, hFx]
  | cons c0 cs' =>
  generalize hcs : c0 :: cs' = cs at *
  have hne : ¬cs = [] := by subst hcs; simp
  have hpos : 0 < cs.length := by subst hcs; simp
  by_cases h30 : (30 : Int) < cs.length
  · simp [x_law27_GoalFewer, hl, h0, h1, h2, pc_awake, hF, sliceParts, hFx, hne, h30]
  rcases pc_Inject m mc l hfine (by omega) cs hc40 with ⟨hI, hno⟩ | ⟨out, hI, hr⟩
  · simp only [mosV, intsV, injV] at hI
    simp [x_law27_GoalFewer, hl, h0, h1, h2, pc_awake, hF, sliceParts, hFx, hne, h30, hI]
  have hp : Poss l cs := ⟨out, hr⟩
  have hin : ∀ c ∈ cs, 0 ≤ c ∧ c ≤ 1099511627776 := by
    intro c hc
    obtain ⟨i, hi⟩ := List.mem_iff_getElem?.1 hc
    obtain ⟨g1, g2, _⟩ := rightB_iff.1 hr
    have hi' := (List.getElem?_eq_some_iff.1 hi).1
    have := fitsB_bnd (g2 i _ _ hi (List.getElem?_eq_getElem (by omega)))
    omega
  have hlpos : l ≠ [] := by
    intro e
    obtain ⟨g1, g2, _⟩ := rightB_iff.1 hr
    have := fitsB_bnd (g2 0 c0 _ (by subst hcs; rfl) (List.getElem?_eq_getElem (show 0 < out.length by omega)))
    subst e
    simp at this
    omega
  have hT : Poss l (cs.drop 1) := by subst hcs; exact hp.tail
  have hT' : Poss l (cs.take (cs.length - 1)) := hp.init _
  have hT3 : Poss ({ x with kind := 4 } :: l) (cs.map (· + 1)) := hp.front _
  have inj : ∀ (m mc : Bool × Bool) (l : List Mo), fine l → l.length ≤ 1099511627776 → ∀ cs : List Int, cs.length ≤ 1099511627776 → Poss l cs → ∃ out, pc Q n_goal_Inject [mosV m l, intsV mc cs] = some (injV (false, true) out true) := by
    intro m mc l h1 h2 cs h3 h4
    rcases pc_Inject m mc l h1 h2 cs h3 with ⟨_, hno⟩ | ⟨out, hI, _⟩
    · exact absurd h4 hno
    · exact ⟨out, hI⟩
  have hfx : fine ({ x with kind := 4 } :: l) := by
    intro y hy
    rcases List.mem_cons.1 hy with rfl | hy
    · exact hx40
    · exact hfine y hy
  obtain ⟨o3, hI3⟩ := inj (false, true) (false, true) _ hfx (by simp; omega) _ (by simp; omega) hT3
  obtain ⟨m1, hs1⟩ : ∃ m1, ∀ h, slcA h 1 (sl mc 1 (cs.map (AV.int .i64))) (some (some 1)) (some none) (some none) = some (sl m1 1 ((cs.drop 1).map (AV.int .i64)), h) :=
    ⟨(mc.1, mc.2 || !(cs.map (AV.int .i64)).isEmpty), fun h => by rw [List.map_drop]; exact slc_drop h mc 1 (by omega) _ 1 (by simp; omega)⟩
  obtain ⟨m2, hs2⟩ : ∃ m2, ∀ h, slcA h 1 (sl mc 1 (cs.map (AV.int .i64))) (some none) (some (some ((cs.length : Int) - 1))) (some none) = some (sl m2 1 ((cs.take (cs.length - 1)).map (AV.int .i64)), h) := by
    refine ⟨(mc.1 && decide (cs.length - 1 = (cs.map (AV.int .i64)).length), mc.2 || !(cs.map (AV.int .i64)).isEmpty), fun h => ?_⟩
    rw [List.map_take, show (cs.length : Int) - 1 = ((cs.length - 1 : Nat) : Int) by omega]
    exact slc_take h mc 1 (by omega) _ _ (by simp)
  obtain ⟨o1, hI1⟩ := inj m m1 l hfine (by omega) _ (by simp; omega) hT
  obtain ⟨o2, hI2⟩ := inj m m2 l hfine (by omega) _ (by simp; omega) hT'
  have hwl : IntKind.i64.wrap ((cs.length : Int) - 1) = (cs.length : Int) - 1 := wrap_id (by omega) (by omega)
  have hroom : (1 + l.length) * 80 ≤ roomA ∧ 1 + l.length ≤ maxLen := by simp only [roomA, maxLen]; omega
  simp only [mosV, intsV, injV, List.map_cons, List.map_take, List.map_drop, List.map_map, List.drop_one, List.map_tail] at hI hI1 hI2 hI3
  simp only [moV] at hI3
  simp [x_law27_GoalFewer, hl, h0, h1, h2, pc_awake, hF, sliceParts, hFx, hne, h30, hI]
  refine (loop_GoalFewer mc _ cs hc40 hin _ (by simp [hl]) (by simp [hl]) (by simp [hl]) (by simp [hl]) (by simp [hl])).mono ?_
  rintro e fr1 h' ⟨K, rfl, ⟨he, _, _⟩ | ⟨_, k9, rfl⟩⟩
  · subst hcs; simp at he
  have hl1 : fr1.length = 96 := K.1.trans (by simp [hl])
  have k0 : look fr1 0 = sl m 6 (l.map moV) := (K.2 0 (by decide)).trans (by simp [hl, h0])
  have k1 : look fr1 1 = sl mc 1 (cs.map (AV.int .i64)) := (K.2 1 (by decide)).trans (by simp [hl, h1])
  have k5 : look fr1 5 = .ptr 0 0 := (K.2 5 (by decide)).trans (by simp [hl])
  have htk : List.take cs.length (cs.map (AV.int .i64 ∘ (· + 1))) = cs.map (AV.int .i64 ∘ (· + 1)) := List.take_of_length_le (by simp)
  simp [hl1, k0, k1, k5, k9, boundA, hs1, hs2, hwl, hI1, hI2, sliceParts, app_sl, hroom, hlpos]
  have e1 : l.length + 1 = 1 + l.length := by omega
  have e2 : ∀ a : AV, List.take (1 + l.length) (a :: l.map moV) = a :: l.map moV := fun a => List.take_of_length_le (by simp; omega)
  simp [hl1, e1, e2, htk, tame, tame1, mutF, hI3]
end Go.Abs.Q

/- The settings are the program's: the contract that is taken of the string comparison holds. -/
namespace Go.Proofs

set_option maxHeartbeats 1000000 in
set_option maxRecDepth 100000 in
theorem Try.cmpString (a b : ByteArray) (w : World) :
    Calls Try.prog 60 #[.string a, .string b] w fun e w' => e = .returned (.int .i64 (Lib.compareBytes a.data.toList b.data.toList)) ∧ w' = w := by
  go_enter Try.func60, Try.ntmps60
  go_wp2
  rw [run_callFunc_extern Try.func66 (by kernel_rfl) (by kernel_rfl) (by kernel_rfl) (e := Extern.BytealgCompare.compare) (by kernel_rfl), Lib.run_compareString]
  simp only [Result.andThen]
  rw [Oper.upon_value]
  go_wp2
  go_ret
  exact ⟨rfl, rfl⟩
end Go.Proofs

namespace Go.Abs.Q
open Go.Proofs
open Go.RowKit (Below)

theorem compare_eq : ∀ (a b : List UInt8), Lib.compareBytes a b = if Op.bytesLess a b then -1 else if a = b then 0 else 1
  | [], [] => by simp [Lib.compareBytes, Op.bytesLess]
  | [], _ :: _ => by simp [Lib.compareBytes, Op.bytesLess]
  | _ :: _, [] => by simp [Lib.compareBytes, Op.bytesLess]
  | x :: a, y :: b => by
    simp only [Lib.compareBytes, Op.bytesLess, compare_eq a b]
    by_cases h : x < y
    · simp [h]
    · by_cases h' : y < x
      · have hne : x ≠ y := fun e => h (e ▸ h')
        simp [h, h', hne]
      · have he : x = y := by
          apply UInt8.le_antisymm
          · exact UInt8.not_lt.1 h'
          · exact UInt8.not_lt.1 h
        subst he
        simp [h]

theorem cmpBytes_eq (a b : ByteArray) : cmpBytes a b = Lib.compareBytes a.data.toList b.data.toList := by
  rw [compare_eq, cmpBytes, Lib.toList_data, Lib.toList_data]

theorem mixed : Try.prog.follows .mixedOrders = true := by kernel_rfl

theorem QS : CfgS Try.prog Q := by
  refine ⟨fun f rf h => h, fun f s hs args r hr => ?_, mixed⟩
  have hs' : specF f = some s := hs
  unfold specF at hs'
  split at hs'
  · rename_i hf
    subst hf
    cases hs'
    unfold specCmp at hr
    split at hr
    · rename_i a b
      cases hr
      refine ⟨by kernel_rfl, fun w ok0 vs _ hv => ?_⟩
      have hvs : vs = #[.string a, .string b] := by
        simp only [PVs, PV] at hv
        obtain ⟨u, us, h1, rfl, u', us', rfl, rfl, rfl⟩ := hv
        cases vs
        simp_all
      subst hvs
      refine (Try.cmpString a b w).mono fun e w' ⟨he, hw⟩ => ?_
      subst hw
      exact ⟨_, he, Below.refl _ _, by simp [PV, cmpBytes_eq]⟩
    · cases hr
  · cases hs'
end Go.Abs.Q

namespace Go.Proofs.Ytpkegmgepnhfnaa.goalFewer
open Go.ChangeShapes Go.WideShapes Go.ChangeAt Go.RowKit Go.Abs Go.Abs.Q
set_option linter.unusedVariables false

theorem CV_head {w : World} {y : AV} {c : Value} (h : CV w [y] [c]) : PV w (okW w) y c := by
  obtain ⟨h1, _⟩ := h
  simp only [PVs] at h1
  obtain ⟨u, us, he, h2, _⟩ := h1
  cases he
  exact h2
theorem CV_agg {w : World} {cs : List AV} {us : Array Value} (h : CV w cs us.toList) : PV w (okW w) (.agg cs) (.agg us) := by
  simp only [PV]
  exact ⟨us, rfl, h.2, h.1⟩

theorem own : ownKnob Try.prog.godebug = none := by kernel_rfl
theorem laidOut : laidOutB Try.prog = true := by kernel_rfl

theorem contract (H : Type) (enc : TypeId × Value → H) (W : World) (base : Nat) (args : Array Value) (ds gs : List (DataW H)) (before : List MemPlace)
    (hval : ∀ (j : Nat) t v, Try.f6.params[j]? = some t → args[j]? = some v → Value.okWide Try.prog W .any base t v)
    (hW : DataW.Whole enc Try.prog Try.f6.params.toList Rows.goalFewerSpec.vars false W args.toList ds gs before) (hk : Rows.uptoSmall H (ds ++ gs) = true) :
    Calls Try.prog 6 args W fun e W' => ∃ v, e = .returned v ∧ Rows.goalFewerSpec.post enc Try.prog Try.f6 false true false false W args v W' := by
  have hW' := hW
  obtain ⟨p, q, hA0, hV, rfl, hfz, hnd⟩ := hW
  have hA : DataW.TrodAll enc Try.prog W 0 (fun _ => true) true Try.f6.params.toList args.toList ds p := hA0
  rw [Try.params6] at hA hval
  obtain ⟨v0, vs0, d0, ds0, p0, q0, hargs, rfl, rfl, h0, r0⟩ := trodAll_cons hA
  obtain ⟨v1, vs1, d1, ds1, p1, q1, rfl, rfl, rfl, h1, r1⟩ := trodAll_cons r0
  obtain ⟨v2, vs2, d2, ds2, p2, q2, rfl, rfl, rfl, h2, r2⟩ := trodAll_cons r1
  obtain ⟨rfl, rfl, rfl⟩ := trodAll_nil r2
  obtain rfl : args = #[v0, v1, v2] := by cases args; simp_all
  obtain ⟨rfl, rfl⟩ := trodVars_none hV
  have hb : Rows.uptoBulkAll [d0, d1, d2] ≤ 1048576 := by simpa [Rows.uptoSmall] using hk
  obtain ⟨a0, ln, cp, rfl⟩ := okWide_slice Try.underlying22 (hval 0 22 v0 rfl rfl)
  obtain ⟨a1, ln1, cp1, rfl⟩ := okWide_slice Try.underlying28 (hval 1 28 v1 rfl rfl)
  obtain ⟨us, rfl, -⟩ := okWide_struct Try.underlying39 (hval 2 39 v2 rfl rfl)
  obtain ⟨f2, h2⟩ := h2
  obtain ⟨f0, h0⟩ := h0
  obtain ⟨f1, h1⟩ := h1
  obtain ⟨⟨bl, l⟩, -, b0, cv0⟩ := opens_mos (w := W) f0 enc _ _ h0
  cases f1 with
  | zero => simp [DataW.trod] at h1
  | succ f1 =>
  obtain ⟨⟨bc, cs⟩, -, b1, cv1⟩ := opens_slice (w := W) (enc := AV.int .i64) Try.underlying28 c3 (by omega) (opens_int (w := W) Try.underlying3 f1) enc _ _ h1
  obtain ⟨x, -, b2, cv2⟩ := opens_mo (w := W) f2 enc _ _ h2
  dsimp only at b0 b1 b2
  have b2' : x.agents.length + Tm.sizes x.terms + 1 ≤ Rows.uptoBulk d2 := b2
  simp only [Rows.uptoBulkAll] at hb
  have ht := totM_le l
  have hcs := sum_ge (f := fun _ : Int => 1) (fun _ => by omega) cs
  have hlen := sum_ge (f := moW) (fun x => by simp [moW]) l
  refine true_post QS laidOut Try.underlying4 rfl (fun t ht => ?_) rfl ⟨rfl, rfl, rfl⟩ hW' (by simp only [PVs]; exact ⟨_, _, rfl, CV_head cv0, _, _, rfl, CV_head cv1, _, _, rfl, CV_agg cv2, rfl⟩) (pc_GoalFewer (false, bl) (false, bc) l (by omega) (by omega) cs (by omega) x (by omega))
  rw [Try.params6] at ht
  rcases List.mem_cons.1 ht with rfl | ht
  · exact ⟨by kernel_rfl, of_decide_eq_true (by kernel_rfl)⟩
  · rcases List.mem_cons.1 ht with rfl | ht
    · exact ⟨by kernel_rfl, of_decide_eq_true (by kernel_rfl)⟩
    · rcases List.mem_cons.1 ht with rfl | ht
      · exact ⟨by kernel_rfl, of_decide_eq_true (by kernel_rfl)⟩
      · cases ht

set_option maxRecDepth 100000 in
theorem lifted (os : Os) (started : os.Started) (H : Type) (enc : TypeId × Value → H) (F : Stop.Interp) :
    ReturnsInHanded {} Try.checked os 6 .any ((Rows.OpenSpec.upto Rows.goalFewerSpec).pre6 enc Try.prog Try.f6 Rows.goalFewerUptoRow.domain false) (((Rows.OpenSpec.upto Rows.goalFewerSpec).at F).post enc Try.prog Try.f6 false true false false) := by
  refine returnsInHanded_of_cond (C := Try.checked) (s := Rows.OpenSpec.upto Rows.goalFewerSpec) (k := Rows.uptoSmall) rfl own started (by kernel_rfl) Try.func6
    (OpenSpec.witness (enc := enc) (C := Try.checked) (s := Rows.OpenSpec.upto Rows.goalFewerSpec) (k := Rows.uptoSmall) rfl false ⟨#[], #[.slice none 0 0, .slice none 0 0, .agg #[.int .i64 0, .int .i64 0, .int .i64 0, .slice none 0 0, .int .i64 0, .slice none 0 0]], []⟩ 8 (by kernel_rfl) (by kernel_rfl) (by kernel_rfl)
      (x := ([.nil, .nil, .agg [.lit (.int .i64 0), .lit (.int .i64 0), .lit (.int .i64 0), .nil, .lit (.int .i64 0), .nil]], [], [])) (by kernel_rfl) rfl (by kernel_rfl)) ?_
  intro W base args ds gs before hval hW _ hk _
  exact contract H enc W base args ds gs before hval hW hk

theorem over : Rows.goalFewerUptoRow.holds Try.pinned (Rows.OpenSpec.upto Rows.goalFewerSpec) :=
  OpenClaim.holds_of_cond 6 Try.f6 rfl rfl rfl rfl rfl rfl rfl ⟨rfl, rfl, rfl, rfl, rfl⟩ rfl rfl rfl rfl rfl (by kernel_rfl) Try.func6 (by kernel_rfl)
    (of_decide_eq_true (by kernel_rfl)) (by unfold Func.isWrapper; first | (rw [if_pos (by decide +kernel)]; kernel_rfl) | (rw [if_neg (by decide +kernel)]; exact ⟨rfl, rfl⟩))
    (fun os started H enc _ F => lifted os started H enc F)

theorem proved : Rows.GoalFewerUptoSaid :=
  over
#print axioms proved
end Go.Proofs.Ytpkegmgepnhfnaa.goalFewer
