/- Contracts: two equal claims of different sessions: the loops. -/
import Derived.Test.YtpkegmgepnhfnaaD13
namespace Go.Abs.Q
attribute [local simp] look_set_ne look_set_eq fin tupled code_loop raw_goal_kind raw_ref27_kind raw_goal_equal raw_ref27_Equal raw_goal_Fresh raw_ref27_Fresh

theorem fresh_inner (m mm : Bool × Bool) (l : List Mo) (hf : fine l) (b : Int) (cs : List Int) (hlen : cs.length ≤ 1099511627776) (done : List Int) (hd : done.length ≤ cs.length) (c1 c11 c12 c13 : AV) (fr : Fr) (h : AH) (hl : fr.length = 62)
    (h0 : look fr 0 = sl m 6 (l.map moV)) (h1 : look fr 1 = c1) (h8 : look fr 8 = .int .i64 b) (h11 : look fr 11 = c11) (h12 : look fr 12 = c12) (h13 : look fr 13 = c13) (h20 : look fr 20 = sl mm 1 (done.map (AV.int .i64))) (h21 : look fr 21 = .int .i64 done.length) (h22 : look fr 22 = .int .i64 0) :
    Ends (lp (evalCode (lim Q) (ctxF n_goal_Fresh) x_goal_Fresh_0) (fr, h)) fun e fr' h' => fr'.length = 62 ∧ h' = h ∧ look fr' 0 = sl m 6 (l.map moV) ∧ look fr' 1 = c1 ∧ look fr' 11 = c11 ∧ look fr' 12 = c12 ∧ look fr' 13 = c13 ∧
      (e = .exit 2 ∧ freshIn l b done = none ∨ e = .ret ∧ ∃ a, freshIn l b done = some a ∧ look fr' 4 = .int .i64 a ∧ look fr' 5 = .int .i64 b ∧ look fr' 6 = .bool false) := by
  have hk := pc_kind m l
  simp only [mosV] at hk
  refine Ends_lp (fun n fr h' => ∃ i, i + n = done.length ∧ h' = h ∧ fr.length = 62 ∧ look fr 0 = sl m 6 (l.map moV) ∧ look fr 1 = c1 ∧ look fr 8 = .int .i64 b ∧ look fr 11 = c11 ∧ look fr 12 = c12 ∧ look fr 13 = c13 ∧
    look fr 20 = sl mm 1 (done.map (AV.int .i64)) ∧ look fr 21 = .int .i64 done.length ∧ look fr 22 = .int .i64 (i : Nat) ∧ freshIn l b (done.drop i) = freshIn l b done) ?_ done.length fr h ⟨0, by omega, rfl, hl, h0, h1, h8, h11, h12, h13, h20, h21, h22, rfl⟩
  clear h0 h1 h8 h11 h12 h13 h20 h21 h22 hl
  rintro n fr h' ⟨i, hi, rfl, hl, h0, h1, h8, h11, h12, h13, h20, h21, h22, hr⟩
  by_cases hlt : i < done.length
  · have hx := nth_map (f := AV.int .i64) (List.getElem?_eq_getElem hlt)
    have hw : IntKind.i64.wrap ((i : Int) + 1) = (i : Int) + 1 := wrap_id (by omega) (by omega)
    rw [List.drop_eq_getElem_cons hlt] at hr
    simp only [freshIn] at hr
    generalize done[i] = a at *
    have yes : clash l a b = true → freshIn l b done = some a := fun hc => by rw [if_pos hc] at hr; exact hr.symm
    have no : ¬clash l a b = true → freshIn l b (done.drop (i + 1)) = freshIn l b done := fun hc => by rw [if_neg hc] at hr; exact hr
    have fwd : ¬clash l a b = true → ∃ m_1, m_1 < n ∧ ∃ i_1, i_1 + m_1 = done.length ∧ (i : Int) + 1 = (i_1 : Nat) ∧ freshIn l b (done.drop i_1) = freshIn l b done := fun hc => ⟨n - 1, by omega, i + 1, by omega, by simp, no hc⟩
    cases hA : atI l a with
    | none =>
      have hc : ¬clash l a b = true := by simp [clash, hA]
      simp [x_goal_Fresh_0, hl, h0, h1, h8, h11, h12, h13, h20, h21, h22, hlt, hx, hw, hk, kindB, hA]
      exact fwd hc
    | some x =>
      obtain ⟨g1, g2, g3, g4⟩ := atI_some hA
      by_cases hxk : x.kind = 5
      case neg =>
        have hc : ¬clash l a b = true := by
          simp only [clash, hA]
          cases atI l b <;> simp [hxk]
        simp [x_goal_Fresh_0, hl, h0, h1, h8, h11, h12, h13, h20, h21, h22, hlt, hx, hw, hk, kindB, hA, hxk]
        exact fwd hc
      cases hB : atI l b with
      | none =>
        have hc : ¬clash l a b = true := by simp [clash, hA, hB]
        simp [x_goal_Fresh_0, hl, h0, h1, h8, h11, h12, h13, h20, h21, h22, hlt, hx, hw, hk, kindB, hA, hxk, hB]
        exact fwd hc
      | some y =>
        obtain ⟨k1, k2, k3, k4⟩ := atI_some hB
        by_cases hyk : y.kind = 5
        case neg =>
          have hc : ¬clash l a b = true := by simp [clash, hA, hB, hyk]
          simp [x_goal_Fresh_0, hl, h0, h1, h8, h11, h12, h13, h20, h21, h22, hlt, hx, hw, hk, kindB, hA, hxk, hB, hyk]
          exact fwd hc
        have hn := nth_map (f := moV) g3
        have hn' := nth_map (f := moV) k3
        have hE := pc_equal x y (hf x g4) (hf y k4)
        simp only [moV] at hn hn' hE
        rw [hxk] at hn hE
        rw [hyk] at hn' hE
        cases hq : eqM x y with
        | false =>
          rw [hq] at hE
          have hc : ¬clash l a b = true := by simp [clash, hA, hB, hq]
          simp [x_goal_Fresh_0, hl, h0, h1, h8, h11, h12, h13, h20, h21, h22, hlt, hx, hw, hk, kindB, hA, hxk, hB, hyk, g1, k1, hn, hn', hE]
          exact fwd hc
        | true =>
          rw [hq] at hE
          by_cases hnum : x.number = y.number
          · have hc : ¬clash l a b = true := by simp [clash, hA, hB, hq, hnum]
            rw [hnum] at hn hE
            simp [x_goal_Fresh_0, hl, h0, h1, h8, h11, h12, h13, h20, h21, h22, hlt, hx, hw, hk, kindB, hA, hxk, hB, hyk, g1, k1, hn, hn', hE, hnum]
            exact fwd hc
          · have hc : clash l a b = true := by simp [clash, hA, hB, hq, hnum, hxk, hyk]
            simp [x_goal_Fresh_0, hl, h0, h1, h8, h11, h12, h13, h20, h21, h22, hlt, hx, hw, hk, kindB, hA, hxk, hB, hyk, g1, k1, hn, hn', hE, hnum]
            exact yes hc
  · have e0 : done.length ≤ i := by omega
    rw [List.drop_eq_nil_of_le e0] at hr
    simp only [freshIn] at hr
    simp [x_goal_Fresh_0, hl, h0, h1, h11, h12, h13, h21, h22, hlt]
    exact hr.symm
end Go.Abs.Q
