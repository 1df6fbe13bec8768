/- Calls: of functions that are pure, of functions that share the heap. -/
import Derived.Test.YtpkegmgepnhfnaaA14
namespace Go.Abs
open Go.RowKit (Below)

/-- What a pure function gives, in whatever memory its arguments lie. -/
def PureS (P : Program) (O : Orc) : Prop :=
  ∀ (f : FuncId) (args : List AV) (r : AV), O.pure f args = some r → Program.enterable P f = true ∧
    ∀ (w : World) (ok0 : Nat → Nat → Prop) (vs : Array Value), (∀ b o, ok0 b o → b < w.heap.size) → PVs w ok0 args vs.toList →
      Calls P f vs w fun e w' => ∃ u, e = .returned u ∧ Below w.heap.size w w' ∧ PV w' (fun b o => ok0 b o ∨ (w.heap.size ≤ b ∧ b < w'.heap.size)) r u

/-- What a function that shares the heap does. -/
def RawS (P : Program) (O : Orc) : Prop :=
  ∀ (f : FuncId) (args : List AV) (h : AH) (r : AV) (h' : AH), O.raw f args h = some (r, h') → Program.enterable P f = true ∧
    ∀ (E : Env) (vs : Array Value), SR E → E.h = h → VRs E args vs.toList →
      Calls P f vs E.w fun e w' => ∃ u E', e = .returned u ∧ w' = E'.w ∧ Ext E E' ∧ SR E' ∧ E'.h = h' ∧ VR E' r u

mutual
theorem scalar1_PV {w w' : World} {ok ok' : Nat → Nat → Prop} : ∀ {x : AV} {v : Value}, x.scalar1 = true → PV w ok x v → PV w' ok' x v := by
  intro x v hs h
  cases x <;> simp only [AV.scalar1] at hs <;> first | (cases hs; done) | simpa [PV] using h
end

theorem scalars_PVs {w w' : World} {ok ok' : Nat → Nat → Prop} : ∀ {xs : List AV} {vs : List Value}, (∀ x ∈ xs, x.scalar1 = true) → PVs w ok xs vs → PVs w' ok' xs vs
  | [], vs, _, h => by simpa [PVs] using h
  | x :: xs, vs, hs, h => by
    simp only [PVs] at h ⊢
    obtain ⟨u, us, rfl, h1, h2⟩ := h
    exact ⟨u, us, rfl, scalar1_PV (hs x (by simp)) h1, scalars_PVs (fun y hy => hs y (by simp [hy])) h2⟩

theorem scalar0_PV {w w' : World} {ok ok' : Nat → Nat → Prop} {x : AV} {v : Value} (hs : x.scalar0 = true) (h : PV w ok x v) : PV w' ok' x v := by
  unfold AV.scalar0 at hs
  split at hs
  · rename_i cs
    simp only [PV] at h ⊢
    obtain ⟨us, rfl, h1, h2⟩ := h
    exact ⟨us, rfl, h1, scalars_PVs (by simpa using hs) h2⟩
  · exact scalar1_PV hs h

theorem scalars0_PVs {w w' : World} {ok ok' : Nat → Nat → Prop} : ∀ {xs : List AV} {vs : List Value}, (∀ x ∈ xs, x.scalar0 = true) → PVs w ok xs vs → PVs w' ok' xs vs
  | [], vs, _, h => by simpa [PVs] using h
  | x :: xs, vs, hs, h => by
    simp only [PVs] at h ⊢
    obtain ⟨u, us, rfl, h1, h2⟩ := h
    exact ⟨u, us, rfl, scalar0_PV (hs x (by simp)) h1, scalars0_PVs (fun y hy => hs y (by simp [hy])) h2⟩

theorem scalar_PV {w w' : World} {ok ok' : Nat → Nat → Prop} {x : AV} {v : Value} (hs : x.scalar = true) (h : PV w ok x v) : PV w' ok' x v := by
  unfold AV.scalar at hs
  split at hs
  · rename_i vs
    simp only [PV] at h ⊢
    obtain ⟨us, rfl, h2⟩ := h
    exact ⟨us, rfl, scalars0_PVs (by simpa using hs) h2⟩
  · exact scalar0_PV hs h

theorem frz1_tame {h : AH} {x : AV} (ht : tame1 h x = true) : frz1 h true x = frz1 h false x := by
  cases x <;> simp only [frz1]
  rename_i k n off len
  unfold tame1 at ht
  cases hf : h.fams[k]? with
  | none => rfl
  | some f =>
    simp only [hf] at ht ⊢
    simp [ht]

theorem frzL_tame {h : AH} : ∀ {xs : List AV}, xs.all (tame1 h) = true → frzL h true xs = frzL h false xs
  | [], _ => rfl
  | x :: xs, ht => by
    simp only [List.all_cons, Bool.and_eq_true] at ht
    simp only [frzL, frz1_tame ht.1, frzL_tame ht.2]

theorem frz_tame {h : AH} {x : AV} (ht : tame h x = true) : frz h true x = frz h false x := by
  unfold frz
  split
  · rename_i cs
    rw [frzL_tame (by simpa [tame] using ht)]
  · rename_i hx
    refine frz1_tame ?_
    unfold tame at ht
    split at ht
    · exact absurd rfl (hx _)
    · exact ht

theorem frzAll_tame {h : AH} : ∀ {xs : List AV}, xs.all (tame h) = true → frzAll h true xs = frzAll h false xs
  | [], _ => rfl
  | x :: xs, ht => by
    simp only [List.all_cons, Bool.and_eq_true] at ht
    simp only [frzAll, frz_tame ht.1, frzAll_tame ht.2]

section
variable {E : Env} {P : Program} {fr : Fr} {a : Act} {o : Oper} {O : Orc} {c : Ctx}

theorem call_sound (hP : PureS P O) (hR : RawS P O) (hS : SR E) {f : FuncId} {args : List AV} {vs : Array Value} {r : AV} {h' : AH} (hv : VRs E args vs.toList) (h : callA O c f args E.h = some (r, h')) :
    Program.enterable P f = true ∧ Calls P f vs E.w fun e w' => ∃ u E', e = .returned u ∧ w' = E'.w ∧ Ext E E' ∧ SR E' ∧ E'.h = h' ∧ VR E' r u := by
  unfold callA at h
  split at h
  · obtain ⟨h1, h2⟩ := hR f args E.h r h' h
    exact ⟨h1, h2 E vs hS rfl hv⟩
  · split at h
    · cases h
    · rename_i as has
      split at h
      · cases h
      · rename_i q hq
        split at h
        · rename_i hc
          cases h
          obtain ⟨h1, h2⟩ := hP f as r hq
          refine ⟨h1, ?_⟩
          by_cases hs : r.scalar = true
          · have hpv := frzAll_sound hS (am := true) (ok' := fun b _ => b < E.w.heap.size) ⟨fun b o ho => ok_lt hS ho, fun _ b _ _ hb => hb⟩ hv has
            refine (h2 E.w (fun b _ => b < E.w.heap.size) vs (fun _ _ hb => hb) hpv).mono fun e w' ⟨u, he, hb, hu⟩ => ?_
            exact ⟨u, { E with w := w' }, he, rfl, grow_ext hS hb, grow_SR hS hb, rfl, VR_of_PV _ _ (scalar_PV hs hu)⟩
          · have ht : args.all (tame E.h) = true := by simpa [hs] using hc
            rw [frzAll_tame ht] at has
            have hpv := frzAll_sound hS (am := false) (ok' := E.ok) ⟨fun _ _ h => h, fun h => by cases h⟩ hv has
            refine (h2 E.w E.ok vs (fun b o hb => ok_lt hS hb) hpv).mono fun e w' ⟨u, he, hb, hu⟩ => ?_
            have hx := grow_ext hS hb
            refine ⟨u, { E with w := w' }, he, rfl, hx, grow_SR hS hb, rfl, VR_of_PV _ _ (PV_mono (fun b o ho => ⟨?_, rfl⟩) _ _ hu)⟩
            rcases ho with ho | ho
            · exact (hx.cells b o ho).1
            · refine .inr ⟨Nat.le_trans hS.basele ho.1, ho.2, fun i hi => ?_, fun k g hk he => ?_⟩
              · have := (hS.nb_lt hi).2
                show E.nb i ≠ b
                omega
              · have := (hS.im_lt (List.getElem?_eq_some_iff.1 hk).1).2
                have he' : (E.im k).b = b := he
                omega
        · cases h

theorem enter_of {f : FuncId} (he : Program.enterable P f = true) (args : Array Value) (w : World) : (callFunc f args).run P w = .ok (.enter f args) w := by
  unfold Program.enterable at he
  unfold callFunc
  split at he
  · rename_i fn hfn
    simp only [Bool.and_eq_true, Bool.not_eq_true'] at he
    have hne : fn.name ≠ "runtime.NumGoroutine" := by simpa using he.2
    have h1 : fn.body ≠ none := by intro h; rw [h] at he; simp at he
    simp [hfn, hne, h1]
  · cases he

theorem map_form {α β : Type} {f : α → β} {x : Option α} {r : β} (h : x.map f = some r) : ∃ y, r = f y := by
  cases x with
  | none => cases h
  | some y => exact ⟨y, by simpa using h.symm⟩

def isCallOp : Op → Bool
  | .call { callee := .value _, args := _, argTypes := _ } => true
  | _ => false

theorem call_form {p : Op} {r : ROp} (hr : resOp P p = some r) (hp : isCallOp p = false) : r.isCall = false := by
  unfold resOp at hr
  repeat' (split at hr)
  all_goals first
    | (cases hr; done)
    | (cases hr; rfl)
    | (obtain ⟨y, rfl⟩ := map_form hr; rfl)
    | (exfalso; simp [isCallOp] at hp; done)

/-- Every operation: the abstract step is followed by the model's. -/
theorem op_wp (hP : PureS P O) (hR : RawS P O) (hS : SR E) (hf : FR E fr a.tmps) {r r0 : ROp} (hr : resOp P o.op = some r0) (hlax : r = r0 ∨ r = r0.lax) {v : AV} {h' : AH} (hev : evalOp O c r fr E.h = some (v, h'))
    {K : Act → World → Prop} {Q : Exit → Act → World → Prop} (hK : ∀ u E', Ext E E' → SR E' → E'.h = h' → VR E' v u → K (a.put o.dst u) E'.w) : o.wp P a E.w K Q := by
  by_cases hnc : r.isCall = false
  · obtain ⟨nx, u, E', h1, h2, h3, h4, h5, h6⟩ := op_does (c := c) hS hf hr hlax hev hnc
    unfold Oper.wp
    rw [h1]
    rcases h2 with rfl | ⟨rfl, rfl⟩
    · exact hK u E' h3 h4 h5 h6
    · exact hK undef E' h3 h4 h5 h6
  · have hcalls : ∀ (f : FuncId) (vs : Array Value) (args : List AV), VRs E args vs.toList → callA O c f args E.h = some (v, h') → (execOp a.eval o).run P E.w = (callFunc f vs).run P E.w → o.wp P a E.w K Q := by
      intro f vs args hv hc hx
      obtain ⟨h1, h2⟩ := call_sound hP hR hS hv hc
      unfold Oper.wp
      rw [hx, enter_of h1]
      refine Calls.mono h2 fun e w' ⟨u, E', he, hw, k1, k2, k3, k4⟩ => ?_
      subst he; subst hw
      exact hK u E' k1 k2 k3 k4
    by_cases hp : isCallOp o.op = false
    · have h1 := call_form hr hp
      rcases hlax with rfl | rfl
      · exact absurd h1 hnc
      · refine absurd ?_ hnc
        cases r0 <;> first | rfl | exact h1
    · cases hop : o.op <;> rw [hop] at hp hr <;> try (exact absurd rfl hp)
      rename_i q
      obtain ⟨callee, args, ats⟩ := q
      cases callee with
      | invoke x m => exact absurd rfl hp
      | builtin b => exact absurd rfl hp
      | value x =>
        cases x <;> simp only [resOp] at hr <;> try (cases hr; done)
        case tmp t =>
          simp only [Option.map_eq_some_iff] at hr
          obtain ⟨as, has, rfl⟩ := hr
          obtain rfl : r = .callv (.t t) as := by rcases hlax with h | h <;> exact h
          simp only [evalOp] at hev
          split at hev
          · rename_i f caps hg
            have hv := hf.val t
            have hg' : fr.getD t undefA = .fn f caps := hg
            rw [hg'] at hv
            simp only [VR] at hv
            obtain ⟨us, e1, e2⟩ := hv
            refine hcalls f (args.map a.eval ++ us) _ ?_ hev ?_
            · have := VRs_append (opds_sound hf has) e2
              simpa using this
            · simp [execOp, hop, resolve, Act.eval, e1, Deferred.ofValue, invoke]
          · cases hev
        case func f =>
          split at hr
          · simp only [Option.map_eq_some_iff] at hr
            obtain ⟨as, has, rfl⟩ := hr
            obtain rfl : r = .call f as := by rcases hlax with h | h <;> exact h
            simp only [evalOp] at hev
            refine hcalls f (args.map a.eval) _ (opds_sound hf has) hev ?_
            simp [execOp, hop, resolve, Act.eval, Deferred.ofValue, invoke]
          · cases hr

end
end Go.Abs
