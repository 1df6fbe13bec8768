/- Contracts: small lists of terms and moments. -/
import Derived.Test.YtpkegmgepnhfnaaD7
namespace Go.Abs.Q
attribute [local simp] look_set_ne look_set_eq fin tupled code_loop raw_ref01_budget raw_ref01_Few raw_ref27_Few

mutual
def bud : Tm → Int → Int
  | .mk _ n _ _ l, most => if most ≤ 0 ∨ (40 : Int) < n.size then -1 else buds l (most - 1)
def buds : List Tm → Int → Int
  | [], most => most
  | t :: l, most => if bud t most < 0 then -1 else buds l (bud t most)
end
mutual
theorem bud_le : ∀ (t : Tm) (m : Int), bud t m ≤ m ∨ bud t m = -1
  | .mk _ n _ _ l, m => by
    simp only [bud]
    split
    · exact .inr rfl
    · rcases buds_le l (m - 1) with h | h
      · exact .inl (by omega)
      · exact .inr h
theorem buds_le : ∀ (l : List Tm) (m : Int), buds l m ≤ m ∨ buds l m = -1
  | [], m => .inl (Int.le_refl _)
  | t :: l, m => by
    simp only [buds]
    split
    · exact .inr rfl
    · rename_i hb
      rcases bud_le t m with h | h
      · rcases buds_le l (bud t m) with h' | h'
        · exact .inl (by omega)
        · exact .inr h'
      · omega
end

theorem pc_budget : ∀ (n : Nat) (t : Tm) (most : Int), t.size ≤ n → t.size ≤ 1099511627776 → most ≤ 9223372036854775807 → pc Q n_ref01_budget [tmV t, .int .i64 most] = some (.int .i64 (bud t most)) := by
  intro n
  induction n with
  | zero => intro t _ h; have := t.size_pos; omega
  | succ n ih =>
    intro t most hn hb hm
    obtain ⟨k, nm, s, m, kids⟩ := t
    have hsz : Tm.size (.mk k nm s m kids) = 1 + Tm.sizes kids := rfl
    have hlen := Tm.length_le kids
    refine pcQ res_ref01_budget rfl (by simp [x_ref01_budget]) fun fr hl ha => ?_
    have h0 := ha 0
    have h1 := ha 1
    clear ha
    simp [x_ref01_budget, tmV] at hl h0 h1
    by_cases h2 : most ≤ 0
    · simp [x_ref01_budget, hl, h0, h1, h2, bud]
    by_cases h3 : (40 : Int) < nm.size
    · simp [x_ref01_budget, hl, h0, h1, h2, h3, bud]
    have hw0 : IntKind.i64.wrap (most - 1) = most - 1 := wrap_id (by omega) (by omega)
    simp [x_ref01_budget, hl, h0, h1, h2, h3, hw0]
    refine (Ends_lp (Ψ := fun e fr h => fr.length = 33 ∧ (e = .exit 0 ∧ look fr 1 = .int .i64 (buds kids (most - 1)) ∨ e = .ret ∧ look fr 4 = .int .i64 (-1) ∧ buds kids (most - 1) = -1))
      (fun n fr h => ∃ i cur, i + n = kids.length ∧ fr.length = 33 ∧ cur ≤ 9223372036854775807 ∧ look fr 1 = .int .i64 cur ∧ look fr 2 = .ptr 0 0 ∧ look fr 5 = .int .i64 (i : Nat) ∧ buds (kids.drop i) cur = buds kids (most - 1) ∧
        h = ⟨[[.int .i64 k, .str nm, .int .i64 s, sl m 4 (tmVs kids)]], []⟩) ?_ kids.length _ _ ?_).mono ?_
    · rintro n fr h ⟨i, cur, hi, hl, hcur, h1, h2, h5, hr, rfl⟩
      by_cases hlt : i < kids.length
      · have hx : nth (tmVs kids) i = some (tmV kids[i]) := nth_tmVs (by simp [hlt])
        have s1 := Tm.size_le (List.getElem_mem hlt)
        have hT := ih kids[i] cur (by omega) (by omega) hcur
        have hle := bud_le kids[i] cur
        have hw : IntKind.i64.wrap ((i : Int) + 1) = (i : Int) + 1 := wrap_id (by omega) (by omega)
        rw [List.drop_eq_getElem_cons hlt] at hr
        simp only [buds] at hr
        generalize kids[i] = t at *
        obtain ⟨tk, tn, ts, tm, tl⟩ := t
        simp only [tmV] at hT hx
        by_cases hc : bud (Tm.mk tk tn ts tm tl) cur < 0
        · rw [if_pos hc] at hr
          simp [x_ref01_budget_0, hl, h1, h2, h5, hlt, hx, hT, hw, hc]
          exact hr.symm
        · rw [if_neg hc] at hr
          simp [x_ref01_budget_0, hl, h1, h2, h5, hlt, hx, hT, hw, hc]
          refine ⟨n - 1, by omega, i + 1, by omega, _, ?_, rfl, by simp, hr⟩
          omega
      · have h0 : kids.length ≤ i := by omega
        rw [List.drop_eq_nil_of_le h0] at hr
        simp only [buds] at hr
        simp [x_ref01_budget_0, hl, h1, h2, h5, hlt]
        exact hr
    · exact ⟨0, most - 1, by omega, by simp [hl], by omega, by simp [hl], by simp [hl], by simp [hl], rfl, rfl⟩
    · rintro e fr h ⟨hl, ⟨rfl, h1⟩ | ⟨rfl, h4, he⟩⟩
      · simp [hl, h1, bud, h2, h3]
      · simp [hl, h4, he, bud, h2, h3]

def fewL : List Tm → Int → Bool
  | [], _ => true
  | t :: l, most => if bud t most < 0 then false else fewL l (bud t most)
def fewT (l : List Tm) (n most : Int) : Bool := if n < l.length then false else fewL l most

theorem pc_Few (m : Bool × Bool) (l : List Tm) (q most : Int) (h : Tm.sizes l ≤ 1099511627776) (hm : most ≤ 9223372036854775807) : pc Q n_ref01_Few [sl m 4 (tmVs l), .int .i64 q, .int .i64 most] = some (.bool (fewT l q most)) := by
  have hlen := Tm.length_le l
  refine pcQ res_ref01_Few rfl (by simp [x_ref01_Few]) fun fr hl ha => ?_
  have h0 := ha 0
  have h1 := ha 1
  have h2 := ha 2
  clear ha
  simp [x_ref01_Few] at hl h0 h1 h2
  by_cases hq : q < l.length
  · simp [x_ref01_Few, hl, h0, h1, hq, fewT]
  simp [x_ref01_Few, hl, h0, h1, hq]
  refine (Ends_lp (Ψ := fun e fr h => fr.length = 26 ∧ (e = .exit 0 ∧ fewL l most = true ∨ e = .ret ∧ look fr 6 = .bool false ∧ fewL l most = false))
    (fun n fr h => ∃ i cur, i + n = l.length ∧ fr.length = 26 ∧ cur ≤ 9223372036854775807 ∧ look fr 0 = sl m 4 (tmVs l) ∧ look fr 2 = .int .i64 cur ∧ look fr 7 = .int .i64 (i : Nat) ∧ fewL (l.drop i) cur = fewL l most) ?_ l.length _ _ ?_).mono ?_
  · rintro n fr h ⟨i, cur, hi, hl, hcur, h0, h2, h7, hr⟩
    by_cases hlt : i < l.length
    · have hx : nth (tmVs l) i = some (tmV l[i]) := nth_tmVs (by simp [hlt])
      have s1 := Tm.size_le (List.getElem_mem hlt)
      have hT := pc_budget _ l[i] cur (Nat.le_refl _) (by omega) hcur
      have hle := bud_le l[i] cur
      have hw : IntKind.i64.wrap ((i : Int) + 1) = (i : Int) + 1 := wrap_id (by omega) (by omega)
      rw [List.drop_eq_getElem_cons hlt] at hr
      simp only [fewL] at hr
      generalize l[i] = t at *
      obtain ⟨tk, tn, ts, tm, tl⟩ := t
      simp only [tmV] at hT hx
      by_cases hc : bud (Tm.mk tk tn ts tm tl) cur < 0
      · rw [if_pos hc] at hr
        simp [x_ref01_Few_0, hl, h0, h2, h7, hlt, hx, hT, hw, hc]
        exact hr.symm
      · rw [if_neg hc] at hr
        simp [x_ref01_Few_0, hl, h0, h2, h7, hlt, hx, hT, hw, hc]
        refine ⟨n - 1, by omega, i + 1, by omega, _, ?_, rfl, by simp, hr⟩
        omega
    · have e0 : l.length ≤ i := by omega
      rw [List.drop_eq_nil_of_le e0] at hr
      simp only [fewL] at hr
      simp [x_ref01_Few_0, hl, h0, h7, hlt]
      exact hr.symm
  · exact ⟨0, most, by omega, by simp [hl], by omega, by simp [h0], by simp [h2], by simp [hl], rfl⟩
  · rintro e fr h ⟨hl, ⟨rfl, he⟩ | ⟨rfl, h4, he⟩⟩
    · simp [hl, he, fewT, hq]
    · simp [hl, h4, he, fewT, hq]
end Go.Abs.Q
