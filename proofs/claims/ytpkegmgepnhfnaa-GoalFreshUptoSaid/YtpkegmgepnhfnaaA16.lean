/- A statement whose operations come in the order of the text. -/
import Derived.Test.YtpkegmgepnhfnaaA15
namespace Go.Abs
open Go.RowKit (Below)

/-- One operation, its guard looked at. -/
def stepA (O : Orc) (c : Ctx) (o : RO) (fr : Fr) (h : AH) : Option (AV × AH) :=
  match wantedA fr o.guard with
  | some true => evalOp O c o.op fr h
  | some false => some (undefA, h)
  | none => none

theorem evalOps_cons (O : Orc) (c : Ctx) (o : RO) (rest : List RO) (fr : Fr) (h : AH) :
    evalOps O c (o :: rest) fr h = (stepA O c o fr h).bind fun x => evalOps O c rest (put fr o.dst x.1) x.2 := by
  unfold stepA
  simp only [evalOps]
  split
  · rename_i hw
    simp only [hw]
    split
    · rename_i v h' he; simp [he]
    · rename_i he; simp [he]
  · rename_i hw; simp [hw]
  · rename_i hw; simp [hw]

/-- A resolved operation and the one that it stands for. -/
structure RORel (P : Program) (ops : List Oper) (o : Oper) (ro : RO) : Prop where
  dst : ro.dst = o.dst
  guard : resGuard ops o.guard = some ro.guard
  op : ∃ r0, resOp P o.op = some r0 ∧ (ro.op = r0 ∨ ro.op = r0.lax)

theorem resRO_rel {P : Program} {ops : List Oper} {o : Oper} {ro : RO} (h : resRO P ops o = some ro) : RORel P ops o ro := by
  unfold resRO at h
  split at h
  · rename_i r g h1 h2
    cases h
    exact ⟨rfl, h2, r, h1, .inl rfl⟩
  · cases h

theorem RORel.lax {P : Program} {ops : List Oper} {o : Oper} {ro : RO} (h : resRO P ops o = some ro) : RORel P ops o ro.lax := by
  unfold resRO at h
  split at h
  · rename_i r g h1 h2
    cases h
    exact ⟨rfl, h2, r, h1, .inr rfl⟩
  · cases h

section
variable {P : Program} {O : Orc} {c : Ctx}

theorem wanted_sound {E : Env} {fr : Fr} {a : Act} (hf : FR E fr a.tmps) {ops : Array Oper} {o : Oper} {g : Option (Nat × Bool)} (hg : resGuard ops.toList o.guard = some g) {b : Bool} (hw : wantedA fr g = some b) :
    Region.wanted o (yielded ops a.tmps) = b := by
  unfold resGuard at hg
  unfold Region.wanted
  split at hg
  · rename_i h0
    cases hg
    simp [wantedA] at hw
    simp [h0, hw]
  · rename_i j want h0
    split at hg
    · rename_i o' ho'
      split at hg
      · rename_i d hd
        cases hg
        have hv := hf.val d
        have hy : ((ops[j]?).bind (·.dst)) = some d := by
          have : ops[j]? = some o' := by simpa using ho'
          simp [this, hd]
        simp only [h0]
        simp only [wantedA] at hw
        unfold yielded
        simp only [hy, Option.bind_some]
        split at hw
        · rename_i b' hb
          cases hw
          rw [hb] at hv
          simp only [VR] at hv
          have : a.tmps[d]? = some (.bool b') := by
            rw [Array.getD_eq_getD_getElem?] at hv
            cases h1 : a.tmps[d]? with
            | none => rw [h1] at hv; simp [undef] at hv
            | some u => rw [h1] at hv; simpa using hv
          simp only [this]
          cases b' <;> cases want <;> rfl
        · rename_i vs hb
          cases hw
          rw [hb] at hv
          simp only [VR] at hv
          obtain ⟨us, e, _⟩ := hv
          have : ∀ b', a.tmps[d]? ≠ some (.bool b') := by
            intro b' h1
            rw [Array.getD_eq_getD_getElem?, h1] at e
            simp at e
          cases h1 : a.tmps[d]? with
          | none => rfl
          | some u =>
            cases u <;> first | rfl | exact absurd h1 (this _)
        · cases hw
      · cases hg
    · cases hg

theorem step_wp (hP : PureS P O) (hR : RawS P O) {E : Env} {fr : Fr} {a : Act} (hS : SR E) (hf : FR E fr a.tmps) {ops : Array Oper} {o : Oper} {ro : RO} (hr : RORel P ops.toList o ro) {v : AV} {h' : AH} (hev : stepA O c ro fr E.h = some (v, h'))
    {K : Act → World → Prop} {Q : Exit → Act → World → Prop} (hK : ∀ u E', Ext E E' → SR E' → E'.h = h' → VR E' v u → K (a.put o.dst u) E'.w) :
    if Region.wanted o (yielded ops a.tmps) then o.wp P a E.w K Q else K (a.put o.dst undef) E.w := by
  unfold stepA at hev
  split at hev
  · rename_i hw
    rw [if_pos (wanted_sound hf hr.guard hw)]
    obtain ⟨r0, h1, h2⟩ := hr.op
    exact op_wp hP hR hS hf h1 h2 hev hK
  · rename_i hw
    cases hev
    have := wanted_sound hf hr.guard hw
    rw [if_neg (by simp [this])]
    exact hK undef E (Ext.refl E) hS rfl (VR_undef E)
  · cases hev

theorem ops_text (hP : PureS P O) (hR : RawS P O) {ops : Array Oper} {Q : Exit → Act → World → Prop} :
    ∀ (l : List Oper) (ros : List RO), ros.length = l.length → (∀ (i : Nat) (o : Oper) (ro : RO), l[i]? = some o → ros[i]? = some ro → RORel P ops.toList o ro) →
      ∀ (E : Env) (fr : Fr) (a : Act) (fr' : Fr) (h' : AH), SR E → FR E fr a.tmps → evalOps O c ros fr E.h = some (fr', h') →
        (∀ a' E', Ext E E' → SR E' → E'.h = h' → FR E' fr' a'.tmps → a'.defers = a.defers → Q .normal a' E'.w) → wpList P ops Q l a E.w
  | [], ros, hl, _, E, fr, a, fr', h', hS, hf, hev, hQ => by
    have : ros = [] := List.eq_nil_of_length_eq_zero (by simpa using hl)
    subst this
    simp only [evalOps] at hev
    cases hev
    exact hQ a E (Ext.refl E) hS rfl hf rfl
  | o :: l, ros, hl, hrel, E, fr, a, fr', h', hS, hf, hev, hQ => by
    cases ros with
    | nil => simp at hl
    | cons ro ros =>
      rw [evalOps_cons, Option.bind_eq_some_iff] at hev
      obtain ⟨⟨v, h1⟩, hst, hrest⟩ := hev
      have hr := hrel 0 o ro rfl rfl
      have := step_wp (Q := Q) hP hR hS hf hr hst (K := wpList P ops Q l) (fun u E' hx hS' he hv => by
        refine ops_text hP hR l ros (by simpa using hl) (fun i o' ro' h1 h2 => hrel (i + 1) o' ro' (by simpa using h1) (by simpa using h2)) E' (put fr ro.dst v) (a.put o.dst u) fr' h' hS' ?_ (by rw [he]; exact hrest) fun a' E'' hx' hS'' he' hf' hd => ?_
        · rw [hr.dst]; exact FR.put (FR.ext hx hf) o.dst hv
        · refine hQ a' E'' (hx.trans hx') hS'' he' hf' (hd.trans ?_)
          cases o.dst <;> rfl)
      unfold wpList
      split
      · rename_i hw; rw [if_pos hw] at this; exact .inl this
      · rename_i hw; rw [if_neg hw] at this; exact this

end
end Go.Abs
