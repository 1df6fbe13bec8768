/- The limit of the oracles: calls as partial functions, without fuel. -/
import Derived.Test.YtpkegmgepnhfnaaA21
namespace Go.Abs
open Go.RowKit (Below)

/-- O' answers whatever O answers. -/
structure Le (O O' : Orc) : Prop where
  pure : ∀ f args r, O.pure f args = some r → O'.pure f args = some r
  raw : ∀ f args h r, O.raw f args h = some r → O'.raw f args h = some r
  loop : ∀ (step step' : St → Option (Ex × St)) (s : St) (x : Ex × St), (∀ s x, step s = some x → step' s = some x) → O.loop step s = some x → O'.loop step' s = some x

theorem Le.trans {A B C : Orc} (h : Le A B) (k : Le B C) : Le A C :=
  ⟨fun f a r e => k.pure f a r (h.pure f a r e), fun f a g r e => k.raw f a g r (h.raw f a g r e), fun s s' t x hs e => k.loop s' s' t x (fun _ _ h => h) (h.loop s s' t x hs e)⟩

section
variable {O O' : Orc} {c : Ctx}

theorem callA_mono (hO : Le O O') {f : FuncId} {args : List AV} {h : AH} {x : AV × AH} (he : callA O c f args h = some x) : callA O' c f args h = some x := by
  unfold callA at he ⊢
  split
  · rename_i hr; rw [if_pos hr] at he; exact hO.raw _ _ _ _ he
  · rename_i hr
    rw [if_neg hr] at he
    cases has : frzAll h true args with
    | none => rw [has] at he; cases he
    | some as =>
      rw [has] at he
      dsimp only at he ⊢
      cases hp : O.pure f as with
      | none => rw [hp] at he; cases he
      | some r =>
        rw [hp] at he
        rw [hO.pure _ _ _ hp]
        exact he

theorem evalOp_mono (hO : Le O O') {r : ROp} {fr : Fr} {h : AH} {x : AV × AH} (he : evalOp O c r fr h = some x) : evalOp O' c r fr h = some x := by
  cases r
  case call f as => exact callA_mono hO he
  case callv y as =>
    simp only [evalOp] at he ⊢
    split at he
    · exact callA_mono hO he
    · cases he
  case len b x => cases b <;> exact he
  all_goals exact he

theorem evalOps_mono (hO : Le O O') : ∀ {ros : List RO} {fr : Fr} {h : AH} {x : Fr × AH}, evalOps O c ros fr h = some x → evalOps O' c ros fr h = some x
  | [], _, _, _, he => he
  | o :: ros, fr, h, x, he => by
    simp only [evalOps] at he ⊢
    cases hw : wantedA fr o.guard with
    | none => rw [hw] at he; cases he
    | some b =>
      rw [hw] at he
      cases b with
      | false => exact evalOps_mono hO he
      | true =>
        dsimp only at he ⊢
        cases hop : evalOp O c o.op fr h with
        | none => rw [hop] at he; cases he
        | some y =>
          rw [hop] at he
          rw [evalOp_mono hO hop]
          exact evalOps_mono hO he

theorem evalCode_mono (hO : Le O O') : ∀ (rc : RCode) (s : St) (x : Ex × St), evalCode O c rc s = some x → evalCode O' c rc s = some x := by
  intro rc
  induction rc with
  | skip => exact fun s x he => he
  | region d ros =>
    intro s x he
    simp only [evalCode] at he ⊢
    cases hs : evalOps O c ros s.1 s.2 with
    | none => rw [hs] at he; cases he
    | some y => rw [hs] at he; rw [evalOps_mono hO hs]; exact he
  | seq a b iha ihb =>
    intro s x he
    simp only [evalCode] at he ⊢
    cases hs : evalCode O c a s with
    | none => rw [hs] at he; cases he
    | some y =>
      rw [hs] at he
      rw [iha s y hs]
      obtain ⟨e, s'⟩ := y
      cases e with
      | normal => exact ihb _ _ he
      | exit id => exact he
      | ret => exact he
  | cond q a b iha ihb =>
    intro s x he
    simp only [evalCode] at he ⊢
    split at he
    · exact iha _ _ he
    · exact ihb _ _ he
    · cases he
  | block id a ih =>
    intro s x he
    simp only [evalCode] at he ⊢
    cases hs : evalCode O c a s with
    | none => rw [hs] at he; cases he
    | some y => rw [hs] at he; rw [ih s y hs]; exact he
  | loop a ih => intro s x he; exact hO.loop _ _ _ _ ih he
  | exit id => exact fun s x he => he
  | ret => exact fun s x he => he

theorem rawA_mono {C : Cfg} (hO : Le O O') {f : FuncId} {args : List AV} {h : AH} {x : AV × AH} (he : rawA C O f args h = some x) : rawA C O' f args h = some x := by
  unfold rawA at he ⊢
  split at he
  · unfold evalBody at he ⊢
    rename_i rf _
    cases hs : evalCode O (C.ctx f) rf.body (startFr rf args, h) with
    | none => rw [hs] at he; cases he
    | some y => rw [hs] at he; rw [evalCode_mono hO _ _ _ hs]; exact he
  · cases he

theorem pureA_mono {C : Cfg} (hO : Le O O') {f : FuncId} {args : List AV} {x : AV} (he : pureA C O f args = some x) : pureA C O' f args = some x := by
  unfold pureA at he ⊢
  split at he
  · exact he
  · cases hs : rawA C O f args AH.empty with
    | none => rw [hs] at he; cases he
    | some y => rw [hs] at he; rw [rawA_mono hO hs]; exact he
end

theorem iter_mono {step step' : St → Option (Ex × St)} (hs : ∀ s x, step s = some x → step' s = some x) : ∀ {n m : Nat}, n ≤ m → ∀ {s : St} {x : Ex × St}, iter step n s = some x → iter step' m s = some x
  | 0, _, _, s, x, he => by simp [iter] at he
  | n + 1, 0, h, s, x, he => by omega
  | n + 1, m + 1, h, s, x, he => by
    simp only [iter] at he ⊢
    cases h1 : step s with
    | none => rw [h1] at he; cases he
    | some y =>
      rw [h1] at he
      rw [hs s y h1]
      obtain ⟨e, s'⟩ := y
      cases e with
      | normal => exact iter_mono hs (by omega) he
      | exit id => exact he
      | ret => exact he

variable (C : Cfg)

theorem orc_step : ∀ n, Le (orc C n) (orc C (n + 1))
  | 0 => ⟨fun f a r h => (nomatch h), fun f a g r h => (nomatch h), fun s s' t x _ h => (nomatch h)⟩
  | n + 1 => ⟨fun f a r h => pureA_mono (orc_step n) h, fun f a g r h => rawA_mono (orc_step n) h, fun s s' t x hs h => iter_mono hs (by omega) h⟩

theorem orc_le : ∀ {n m : Nat}, n ≤ m → Le (orc C n) (orc C m)
  | n, 0, h => by
    have : n = 0 := by omega
    subst this
    exact ⟨fun _ _ _ h => h, fun _ _ _ _ h => h, fun s s' t x _ h => (nomatch h)⟩
  | n, m + 1, h => by
    by_cases hn : n = m + 1
    · subst hn
      exact ⟨fun _ _ _ h => h, fun _ _ _ _ h => h, fun s s' t x hs h => iter_mono hs (Nat.le_refl _) h⟩
    · exact (orc_le (by omega)).trans (orc_step C m)

open Classical in
/-- A call of a pure function. -/
noncomputable def pc (f : FuncId) (args : List AV) : Option AV := if h : ∃ n r, (orc C n).pure f args = some r then some h.choose_spec.choose else none
open Classical in
/-- A call of a function that shares the heap. -/
noncomputable def rc (f : FuncId) (args : List AV) (h : AH) : Option (AV × AH) := if h : ∃ n r, (orc C n).raw f args h = some r then some h.choose_spec.choose else none
open Classical in
/-- A loop. -/
noncomputable def lp (step : St → Option (Ex × St)) (s : St) : Option (Ex × St) := if h : ∃ n x, iter step n s = some x then some h.choose_spec.choose else none

noncomputable def lim : Orc := ⟨pc C, rc C, lp⟩

theorem pc_orc {f : FuncId} {args : List AV} {r : AV} (h : pc C f args = some r) : ∃ n, (orc C n).pure f args = some r := by
  unfold pc at h
  split at h
  · rename_i hx
    cases h
    exact ⟨hx.choose, hx.choose_spec.choose_spec⟩
  · cases h

theorem orc_pc {n : Nat} {f : FuncId} {args : List AV} {r : AV} (h : (orc C n).pure f args = some r) : pc C f args = some r := by
  have hx : ∃ n r, (orc C n).pure f args = some r := ⟨n, r, h⟩
  unfold pc
  rw [dif_pos hx]
  have h1 := (orc_le C (Nat.le_max_left n hx.choose)).pure f args r h
  have h2 := (orc_le C (Nat.le_max_right n hx.choose)).pure f args _ hx.choose_spec.choose_spec
  rw [h1] at h2
  exact h2.symm

theorem rc_orc {f : FuncId} {args : List AV} {h : AH} {r : AV × AH} (he : rc C f args h = some r) : ∃ n, (orc C n).raw f args h = some r := by
  unfold rc at he
  split at he
  · rename_i hx
    cases he
    exact ⟨hx.choose, hx.choose_spec.choose_spec⟩
  · cases he

theorem orc_rc {n : Nat} {f : FuncId} {args : List AV} {h : AH} {r : AV × AH} (he : (orc C n).raw f args h = some r) : rc C f args h = some r := by
  have hx : ∃ n r, (orc C n).raw f args h = some r := ⟨n, r, he⟩
  unfold rc
  rw [dif_pos hx]
  have h1 := (orc_le C (Nat.le_max_left n hx.choose)).raw f args h r he
  have h2 := (orc_le C (Nat.le_max_right n hx.choose)).raw f args h _ hx.choose_spec.choose_spec
  rw [h1] at h2
  exact h2.symm

theorem lp_iter {step : St → Option (Ex × St)} {s : St} {x : Ex × St} (h : lp step s = some x) : ∃ n, iter step n s = some x := by
  unfold lp at h
  split at h
  · rename_i hx
    cases h
    exact ⟨hx.choose, hx.choose_spec.choose_spec⟩
  · cases h

theorem iter_lp {step : St → Option (Ex × St)} {n : Nat} {s : St} {x : Ex × St} (h : iter step n s = some x) : lp step s = some x := by
  have hx : ∃ n x, iter step n s = some x := ⟨n, x, h⟩
  unfold lp
  rw [dif_pos hx]
  have h1 := iter_mono (fun _ _ h => h) (Nat.le_max_left n hx.choose) h
  have h2 := iter_mono (fun _ _ h => h) (Nat.le_max_right n hx.choose) hx.choose_spec.choose_spec
  rw [h1] at h2
  exact h2.symm

/-- A loop goes one round, and then on. -/
theorem lp_go {step : St → Option (Ex × St)} {s s' : St} {x : Ex × St} (h : step s = some (.normal, s')) (k : lp step s' = some x) : lp step s = some x := by
  obtain ⟨n, hn⟩ := lp_iter k
  exact iter_lp (n := n + 1) (by simp only [iter, h]; exact hn)
theorem lp_exit {step : St → Option (Ex × St)} {s s' : St} {id : Nat} (h : step s = some (.exit id, s')) : lp step s = some (.exit id, s') := iter_lp (n := 1) (by simp only [iter, h])
theorem lp_ret {step : St → Option (Ex × St)} {s s' : St} (h : step s = some (.ret, s')) : lp step s = some (.ret, s') := iter_lp (n := 1) (by simp only [iter, h])

theorem evalOp_lim {c : Ctx} {r : ROp} {fr : Fr} {h : AH} {x : AV × AH} (he : evalOp (lim C) c r fr h = some x) : ∃ n, evalOp (orc C n) c r fr h = some x := by
  have hcall : ∀ f args, callA (lim C) c f args h = some x → ∃ n, callA (orc C n) c f args h = some x := by
    intro f args he
    unfold callA at he ⊢
    split at he
    · rename_i hr
      obtain ⟨n, hn⟩ := rc_orc C he
      exact ⟨n, by rw [if_pos hr]; exact hn⟩
    · rename_i hr
      cases has : frzAll h true args with
      | none => rw [has] at he; cases he
      | some as =>
        rw [has] at he
        dsimp only at he ⊢
        cases hp : (lim C).pure f as with
        | none => rw [hp] at he; cases he
        | some r =>
          rw [hp] at he
          obtain ⟨n, hn⟩ := pc_orc C hp
          exact ⟨n, by rw [if_neg hr, hn]; exact he⟩
  cases r
  case call f as => exact hcall _ _ he
  case callv y as =>
    simp only [evalOp] at he ⊢
    split at he
    · exact hcall _ _ he
    · cases he
  case len b x => cases b <;> exact ⟨0, he⟩
  all_goals exact ⟨0, he⟩

theorem evalOps_lim {c : Ctx} : ∀ {ros : List RO} {fr : Fr} {h : AH} {x : Fr × AH}, evalOps (lim C) c ros fr h = some x → ∃ n, evalOps (orc C n) c ros fr h = some x
  | [], _, _, _, he => ⟨0, he⟩
  | o :: ros, fr, h, x, he => by
    simp only [evalOps] at he ⊢
    cases hw : wantedA fr o.guard with
    | none => rw [hw] at he; cases he
    | some b =>
      rw [hw] at he
      cases b with
      | false => exact evalOps_lim he
      | true =>
        dsimp only at he ⊢
        cases hop : evalOp (lim C) c o.op fr h with
        | none => rw [hop] at he; cases he
        | some y =>
          rw [hop] at he
          obtain ⟨n, hn⟩ := evalOp_lim C hop
          obtain ⟨m, hm⟩ := evalOps_lim he
          refine ⟨max n m, ?_⟩
          rw [evalOp_mono (orc_le C (Nat.le_max_left n m)) hn]
          exact evalOps_mono (orc_le C (Nat.le_max_right n m)) hm

theorem evalCode_lim {c : Ctx} : ∀ (rcode : RCode) (s : St) (x : Ex × St), evalCode (lim C) c rcode s = some x → ∃ n, evalCode (orc C n) c rcode s = some x := by
  intro rcode
  induction rcode with
  | skip => exact fun s x he => ⟨0, he⟩
  | region d ros =>
    intro s x he
    simp only [evalCode] at he ⊢
    cases hs : evalOps (lim C) c ros s.1 s.2 with
    | none => rw [hs] at he; cases he
    | some y =>
      rw [hs] at he
      obtain ⟨n, hn⟩ := evalOps_lim C hs
      exact ⟨n, by rw [hn]; exact he⟩
  | seq a b iha ihb =>
    intro s x he
    simp only [evalCode] at he ⊢
    cases hs : evalCode (lim C) c a s with
    | none => rw [hs] at he; cases he
    | some y =>
      rw [hs] at he
      obtain ⟨n, hn⟩ := iha s y hs
      obtain ⟨e, s'⟩ := y
      cases e with
      | normal =>
        obtain ⟨m, hm⟩ := ihb _ _ he
        refine ⟨max n m, ?_⟩
        rw [evalCode_mono (orc_le C (Nat.le_max_left n m)) _ _ _ hn]
        exact evalCode_mono (orc_le C (Nat.le_max_right n m)) _ _ _ hm
      | exit id => exact ⟨n, by rw [hn]; exact he⟩
      | ret => exact ⟨n, by rw [hn]; exact he⟩
  | cond q a b iha ihb =>
    intro s x he
    simp only [evalCode] at he ⊢
    split at he
    · exact iha _ _ he
    · exact ihb _ _ he
    · cases he
  | block id a ih =>
    intro s x he
    simp only [evalCode] at he ⊢
    cases hs : evalCode (lim C) c a s with
    | none => rw [hs] at he; cases he
    | some y =>
      rw [hs] at he
      obtain ⟨n, hn⟩ := ih s y hs
      exact ⟨n, by rw [hn]; exact he⟩
  | loop a ih =>
    intro s x he
    simp only [evalCode] at he ⊢
    obtain ⟨m, hm⟩ := lp_iter he
    have key : ∃ n, iter (evalCode (orc C n) c a) m s = some x := by
      clear he
      induction m generalizing s with
      | zero => simp [iter] at hm
      | succ m ihm =>
        simp only [iter] at hm ⊢
        cases h1 : evalCode (lim C) c a s with
        | none => rw [h1] at hm; cases hm
        | some y =>
          rw [h1] at hm
          obtain ⟨n, hn⟩ := ih s y h1
          obtain ⟨e, s'⟩ := y
          cases e with
          | normal =>
            obtain ⟨k, hk⟩ := ihm s' hm
            refine ⟨max n k, ?_⟩
            rw [evalCode_mono (orc_le C (Nat.le_max_left n k)) _ _ _ hn]
            exact iter_mono (evalCode_mono (orc_le C (Nat.le_max_right n k)) a) (Nat.le_refl _) hk
          | exit id => exact ⟨n, by rw [hn]; exact hm⟩
          | ret => exact ⟨n, by rw [hn]; exact hm⟩
    obtain ⟨n, hn⟩ := key
    refine ⟨max n m + 1, ?_⟩
    show iter _ (max n m + 1) s = some x
    exact iter_mono (evalCode_mono (orc_le C (by omega)) a) (by omega) hn
  | exit id => exact fun s x he => ⟨0, he⟩
  | ret => exact fun s x he => ⟨0, he⟩

theorem rawA_lim {f : FuncId} {args : List AV} {h : AH} {x : AV × AH} (he : rawA C (lim C) f args h = some x) : ∃ n, rawA C (orc C n) f args h = some x := by
  unfold rawA at he ⊢
  split at he
  · unfold evalBody at he ⊢
    rename_i rf _
    cases hs : evalCode (lim C) (C.ctx f) rf.body (startFr rf args, h) with
    | none => rw [hs] at he; cases he
    | some y =>
      rw [hs] at he
      obtain ⟨n, hn⟩ := evalCode_lim C _ _ _ hs
      exact ⟨n, by rw [hn]; exact he⟩
  · cases he

/-- The contract of a function that shares the heap, from its body. -/
theorem rc_of {f : FuncId} {args : List AV} {h : AH} {x : AV × AH} (he : rawA C (lim C) f args h = some x) : rc C f args h = some x := by
  obtain ⟨n, hn⟩ := rawA_lim C he
  exact orc_rc C (n := n + 1) hn

/-- The contract of a pure function, from its body. -/
theorem pc_of {f : FuncId} {args : List AV} {x : AV} (he : pureA C (lim C) f args = some x) : pc C f args = some x := by
  unfold pureA at he
  split at he
  · rename_i s hs
    refine orc_pc C (n := 1) ?_
    show pureA C _ f args = some x
    unfold pureA; simp only [hs]; exact he
  · rename_i hs
    cases hr : rawA C (lim C) f args AH.empty with
    | none => rw [hr] at he; cases he
    | some y =>
      rw [hr] at he
      obtain ⟨n, hn⟩ := rawA_lim C hr
      refine orc_pc C (n := n + 1) ?_
      show pureA C _ f args = some x
      unfold pureA; simp only [hs, hn]; exact he

/-- What a contract says of the program. -/
theorem pc_sound {P : Program} {C : Cfg} (hC : CfgS P C) {f : FuncId} {args : List AV} {r : AV} (h : pc C f args = some r) (w : World) (ok0 : Nat → Nat → Prop) (vs : Array Value) (hok : ∀ b o, ok0 b o → b < w.heap.size) (hv : PVs w ok0 args vs.toList) :
    Calls P f vs w fun e w' => ∃ u, e = .returned u ∧ Below w.heap.size w w' ∧ PV w' (fun b o => ok0 b o ∨ (w.heap.size ≤ b ∧ b < w'.heap.size)) r u := by
  obtain ⟨n, hn⟩ := pc_orc C h
  exact ((orc_sound hC n).1 f args r hn).2 w ok0 vs hok hv

#print axioms pc_sound
end Go.Abs
