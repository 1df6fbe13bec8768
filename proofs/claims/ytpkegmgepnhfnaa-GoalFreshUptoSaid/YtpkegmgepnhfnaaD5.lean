/- Contracts: equality of lists of terms and of moments. -/
import Derived.Test.YtpkegmgepnhfnaaD4
namespace Go.Abs.Q
attribute [local simp] look_set_ne look_set_eq fin tupled code_loop raw_term_Compare raw_ref01_Compare raw_goal_equal_1 raw_ref01_Same raw_slices_EqualFunc_Term raw_ref01_Lists

def eqT (t t' : Tm) : Bool := decide (cmpT t t' = 0)
def eqTs : List Tm → List Tm → Bool
  | [], [] => true
  | t :: l, t' :: l' => eqT t t' && eqTs l l'
  | _, _ => false
theorem eqTs_len : ∀ {l l' : List Tm}, eqTs l l' = true → l.length = l'.length
  | [], [], _ => rfl
  | [], _ :: _, h => by simp [eqTs] at h
  | _ :: _, [], h => by simp [eqTs] at h
  | _ :: _, _ :: _, h => by simp [eqTs] at h; simp [eqTs_len h.2]

theorem pc_equal1 (t t' : Tm) (h : t.size ≤ 1099511627776) (h' : t'.size ≤ 1099511627776) : pc Q n_goal_equal_1 [tmV t, tmV t'] = some (.bool (eqT t t')) := by
  have hC := pc_Compare _ t t' (Nat.le_refl _) h h'
  refine pcQ res_goal_equal_1 rfl (by simp [x_goal_equal_1]) fun fr hl ha => ?_
  have h0 := ha 0
  have h1 := ha 1
  clear ha h h'
  obtain ⟨tk, tn, ts, tm, tl⟩ := t
  obtain ⟨tk', tn', ts', tm', tl'⟩ := t'
  simp only [tmV] at hC
  simp [x_goal_equal_1, tmV] at hl h0 h1 ⊢
  simp [h0, h1, hl, hC, eqT]

theorem pc_Same (t t' : Tm) (h : t.size ≤ 1099511627776) (h' : t'.size ≤ 1099511627776) : pc Q n_ref01_Same [tmV t, tmV t'] = some (.bool (eqT t t')) := by
  have hC := pc_refCompare _ t t' (Nat.le_refl _) h h'
  refine pcQ res_ref01_Same rfl (by simp [x_ref01_Same]) fun fr hl ha => ?_
  have h0 := ha 0
  have h1 := ha 1
  clear ha h h'
  obtain ⟨tk, tn, ts, tm, tl⟩ := t
  obtain ⟨tk', tn', ts', tm', tl'⟩ := t'
  simp only [tmV] at hC
  simp [x_ref01_Same, tmV] at hl h0 h1 ⊢
  simp [h0, h1, hl, hC, eqT]

theorem pc_EqualFunc (m m' : Bool × Bool) (l l' : List Tm) (h : Tm.sizes l ≤ 1099511627776) (h' : Tm.sizes l' ≤ 1099511627776) :
    pc Q n_slices_EqualFunc_Term [sl m 4 (tmVs l), sl m' 4 (tmVs l'), .fn n_goal_equal_1 []] = some (.bool (eqTs l l')) := by
  refine pcQ res_slices_EqualFunc_Term rfl (by simp [x_slices_EqualFunc_Term]) fun fr hl ha => ?_
  have h0 := ha 0
  have h1 := ha 1
  have h2 := ha 2
  clear ha
  simp [x_slices_EqualFunc_Term] at hl h0 h1 h2 ⊢
  have hlen := Tm.length_le l
  by_cases hle : l.length = l'.length
  · have hle' : (l.length : Int) = (l'.length : Int) := by omega
    simp [h0, h1, hl, hle]
    refine (Ends_lp (Ψ := fun e fr h => fr.length = 32 ∧ (e = .exit 0 ∧ eqTs l l' = true ∨ e = .ret ∧ look fr 6 = .bool false ∧ eqTs l l' = false))
      (fun n fr h => ∃ i, i + n = l.length ∧ fr.length = 32 ∧ look fr 1 = sl m' 4 (tmVs l') ∧ look fr 2 = .fn n_goal_equal_1 [] ∧ look fr 15 = sl m 4 (tmVs l) ∧ look fr 16 = .int .i64 l.length ∧ look fr 17 = .int .i64 (i : Nat) ∧ eqTs (l.drop i) (l'.drop i) = eqTs l l') ?_ l.length _ _ ?_).mono ?_
    · rintro n fr h ⟨i, hi, hl, h1, h2, h15, h16, h17, hr⟩
      by_cases hlt : i < l.length
      · have hx : nth (tmVs l) i = some (tmV l[i]) := nth_tmVs (by simp [hlt])
        have hx' : nth (tmVs l') i = some (tmV (l'[i]'(by omega))) := nth_tmVs (by simp [show i < l'.length by omega])
        have s1 := Tm.size_le (List.getElem_mem hlt)
        have s2 := Tm.size_le (List.getElem_mem (show i < l'.length by omega))
        have hT := pc_equal1 l[i] (l'[i]'(by omega)) (by omega) (by omega)
        have hw : IntKind.i64.wrap ((i : Int) + 1) = (i : Int) + 1 := wrap_id (by omega) (by omega)
        rw [List.drop_eq_getElem_cons hlt, List.drop_eq_getElem_cons (show i < l'.length by omega)] at hr
        simp only [eqTs] at hr
        generalize l[i] = t at *
        generalize l'[i]'(by omega) = t' at *
        obtain ⟨tk, tn, ts, tm, tl⟩ := t
        obtain ⟨tk', tn', ts', tm', tl'⟩ := t'
        simp only [tmV] at hT hx hx'
        cases hc : eqT (Tm.mk tk tn ts tm tl) (Tm.mk tk' tn' ts' tm' tl') with
        | true =>
          rw [hc] at hT hr
          simp [x_slices_EqualFunc_Term_0, hl, h1, h2, h15, h16, h17, hlt, hx, hx', hT, hw]
          exact ⟨n - 1, by omega, i + 1, by omega, by simp, by simpa using hr⟩
        | false =>
          rw [hc] at hT hr
          simp [x_slices_EqualFunc_Term_0, hl, h1, h2, h15, h16, h17, hlt, hx, hx', hT, hw]
          simpa using hr.symm
      · have e0 : l.length ≤ i := by omega
        rw [List.drop_eq_nil_of_le e0, List.drop_eq_nil_of_le (by omega)] at hr
        simp [x_slices_EqualFunc_Term_0, hl, h16, h17, hlt]
        exact hr.symm
    · exact ⟨0, by omega, by simp [hl], by simp [h1], by simp [h2], by simp [hl], by simp [hl, hle], by simp [hl], rfl⟩
    · rintro e fr h ⟨hl, ⟨rfl, he⟩ | ⟨rfl, h6, he⟩⟩
      · simp [hl, he]
      · simp [hl, h6, he]
  · have hle' : ¬(l.length : Int) = (l'.length : Int) := by omega
    have hf : eqTs l l' = false := by
      cases hq : eqTs l l' with
      | false => rfl
      | true => exact absurd (eqTs_len hq) hle
    simp [h0, h1, hl, hle', hf]

theorem pc_Lists (m m' : Bool × Bool) (l l' : List Tm) (h : Tm.sizes l ≤ 1099511627776) (h' : Tm.sizes l' ≤ 1099511627776) :
    pc Q n_ref01_Lists [sl m 4 (tmVs l), sl m' 4 (tmVs l')] = some (.bool (eqTs l l')) := by
  refine pcQ res_ref01_Lists rfl (by simp [x_ref01_Lists]) fun fr hl ha => ?_
  have h0 := ha 0
  have h1 := ha 1
  clear ha
  simp [x_ref01_Lists] at hl h0 h1 ⊢
  have hlen := Tm.length_le l
  by_cases hle : l.length = l'.length
  · have hle' : (l.length : Int) = (l'.length : Int) := by omega
    simp [h0, h1, hl, hle]
    refine (Ends_lp (Ψ := fun e fr h => fr.length = 27 ∧ (e = .exit 0 ∧ eqTs l l' = true ∨ e = .ret ∧ look fr 4 = .bool false ∧ eqTs l l' = false))
      (fun n fr h => ∃ i, i + n = l.length ∧ fr.length = 27 ∧ look fr 0 = sl m 4 (tmVs l) ∧ look fr 1 = sl m' 4 (tmVs l') ∧ look fr 5 = .int .i64 (i : Nat) ∧ eqTs (l.drop i) (l'.drop i) = eqTs l l') ?_ l.length _ _ ?_).mono ?_
    · rintro n fr h ⟨i, hi, hl, h0, h1, h5, hr⟩
      by_cases hlt : i < l.length
      · have hx : nth (tmVs l) i = some (tmV l[i]) := nth_tmVs (by simp [hlt])
        have hx' : nth (tmVs l') i = some (tmV (l'[i]'(by omega))) := nth_tmVs (by simp [show i < l'.length by omega])
        have s1 := Tm.size_le (List.getElem_mem hlt)
        have s2 := Tm.size_le (List.getElem_mem (show i < l'.length by omega))
        have hT := pc_Same l[i] (l'[i]'(by omega)) (by omega) (by omega)
        have hw : IntKind.i64.wrap ((i : Int) + 1) = (i : Int) + 1 := wrap_id (by omega) (by omega)
        rw [List.drop_eq_getElem_cons hlt, List.drop_eq_getElem_cons (show i < l'.length by omega)] at hr
        simp only [eqTs] at hr
        generalize l[i] = t at *
        generalize l'[i]'(by omega) = t' at *
        obtain ⟨tk, tn, ts, tm, tl⟩ := t
        obtain ⟨tk', tn', ts', tm', tl'⟩ := t'
        simp only [tmV] at hT hx hx'
        cases hc : eqT (Tm.mk tk tn ts tm tl) (Tm.mk tk' tn' ts' tm' tl') with
        | true =>
          rw [hc] at hT hr
          simp [x_ref01_Lists_0, hl, h0, h1, h5, hlt, hx, hx', hT, hw]
          exact ⟨n - 1, by omega, i + 1, by omega, by simp, by simpa using hr⟩
        | false =>
          rw [hc] at hT hr
          simp [x_ref01_Lists_0, hl, h0, h1, h5, hlt, hx, hx', hT, hw]
          simpa using hr.symm
      · have e0 : l.length ≤ i := by omega
        rw [List.drop_eq_nil_of_le e0, List.drop_eq_nil_of_le (by omega)] at hr
        simp [x_ref01_Lists_0, hl, h0, h5, hlt]
        exact hr.symm
    · exact ⟨0, by omega, by simp [hl], by simp [h0], by simp [h1], by simp [hl], rfl⟩
    · rintro e fr h ⟨hl, ⟨rfl, he⟩ | ⟨rfl, h6, he⟩⟩
      · simp [hl, he]
      · simp [hl, h6, he]
  · have hle' : ¬(l.length : Int) = (l'.length : Int) := by omega
    have hf : eqTs l l' = false := by
      cases hq : eqTs l l' with
      | false => rfl
      | true => exact absurd (eqTs_len hq) hle
    simp [h0, h1, hl, hle', hf]

/-- A moment. -/
structure Mo where
  kind : Int
  number : Int
  role : Int
  am : Bool × Bool
  agents : List ByteArray
  goal : Int
  tm : Bool × Bool
  terms : List Tm
def moV (x : Mo) : AV := .agg [.int .i64 x.kind, .int .i64 x.number, .int .i64 x.role, sl x.am 1 (x.agents.map .str), .int .i64 x.goal, sl x.tm 4 (tmVs x.terms)]
def eqM (a b : Mo) : Bool := decide (a.goal = b.goal) && eqTs a.terms b.terms

theorem pc_equal (a b : Mo) (h : Tm.sizes a.terms ≤ 1099511627776) (h' : Tm.sizes b.terms ≤ 1099511627776) : pc Q n_goal_equal [moV a, moV b] = some (.bool (eqM a b)) := by
  have hE := pc_EqualFunc a.tm b.tm a.terms b.terms h h'
  refine pcQ res_goal_equal rfl (by simp [x_goal_equal]) fun fr hl ha => ?_
  have h0 := ha 0
  have h1 := ha 1
  clear ha h h'
  simp [x_goal_equal, moV] at hl h0 h1 ⊢
  by_cases hg : a.goal = b.goal
  · simp [h0, h1, hl, hE, hg, eqM]
  · simp [h0, h1, hl, hE, hg, eqM]

theorem pc_Equal (a b : Mo) (h : Tm.sizes a.terms ≤ 1099511627776) (h' : Tm.sizes b.terms ≤ 1099511627776) : pc Q n_ref27_Equal [moV a, moV b] = some (.bool (eqM a b)) := by
  have hE := pc_Lists a.tm b.tm a.terms b.terms h h'
  refine pcQ res_ref27_Equal rfl (by simp [x_ref27_Equal]) fun fr hl ha => ?_
  have h0 := ha 0
  have h1 := ha 1
  clear ha h h'
  simp [x_ref27_Equal, moV] at hl h0 h1 ⊢
  by_cases hg : a.goal = b.goal
  · simp [h0, h1, hl, hE, hg, eqM]
  · simp [h0, h1, hl, hE, hg, eqM]
end Go.Abs.Q
