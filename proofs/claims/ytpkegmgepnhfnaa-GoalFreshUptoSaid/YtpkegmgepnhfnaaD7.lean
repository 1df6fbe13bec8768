/- Contracts: the first fitting Begin. -/
import Derived.Test.YtpkegmgepnhfnaaD6
namespace Go.Abs.Q
attribute [local simp] look_set_ne look_set_eq fin tupled code_loop raw_goal_fits raw_ref27_Fits raw_goal_Agree raw_ref27_Agree

/-- The first Begin that fits, from an index on. -/
def agreeFrom (l : List Mo) (c : Int) : Nat → Nat → AV
  | 0, _ => .tup [.int .i64 0, .bool false]
  | n + 1, i => if fitsB l i c = true then .tup [.int .i64 i, .bool true] else agreeFrom l c n (i + 1)
def agreeV (l : List Mo) (c : Int) : AV := agreeFrom l c l.length 0

theorem pc_Agree (m : Bool × Bool) (l : List Mo) (hf : fine l) (hlen : l.length ≤ 1099511627776) (c : Int) : pc Q n_goal_Agree [mosV m l, .int .i64 c] = some (agreeV l c) := by
  refine pcQ res_goal_Agree rfl (by simp [x_goal_Agree]) fun fr hl ha => ?_
  have hk := pc_fits m l hf
  have h0 := ha 0
  have h1 := ha 1
  clear ha
  simp [x_goal_Agree, mosV] at hl h0 h1 hk
  simp [x_goal_Agree, hl, h0, h1]
  refine (Ends_lp (Ψ := fun e fr h => fr.length = 18 ∧ (e = .exit 0 ∧ agreeV l c = .tup [.int .i64 0, .bool false] ∨ e = .ret ∧ agreeV l c = .tup [look fr 4, look fr 5] ∧ ∃ i, look fr 4 = .int .i64 i ∧ look fr 5 = .bool true))
    (fun n fr h => ∃ i, i + n = l.length ∧ fr.length = 18 ∧ look fr 0 = sl m 6 (l.map moV) ∧ look fr 1 = .int .i64 c ∧ look fr 8 = .int .i64 l.length ∧ look fr 9 = .int .i64 (i : Nat) ∧ agreeFrom l c n i = agreeV l c) ?_ l.length _ _ ?_).mono ?_
  · rintro n fr h ⟨i, hi, hl, h0, h1, h8, h9, hr⟩
    by_cases hlt : i < l.length
    · have hw : IntKind.i64.wrap ((i : Int) + 1) = (i : Int) + 1 := wrap_id (by omega) (by omega)
      obtain ⟨n, rfl⟩ : ∃ q, n = q + 1 := ⟨n - 1, by omega⟩
      simp only [agreeFrom] at hr
      cases hc : fitsB l i c with
      | true =>
        rw [if_pos hc] at hr
        simp [x_goal_Agree_0, hl, h0, h1, h8, h9, hlt, hk, hw, hc]
        exact hr.symm
      | false =>
        rw [if_neg (by simp [hc])] at hr
        simp [x_goal_Agree_0, hl, h0, h1, h8, h9, hlt, hk, hw, hc]
        exact ⟨n, by omega, i + 1, by omega, by simp, hr⟩
    · obtain rfl : n = 0 := by omega
      simp [x_goal_Agree_0, hl, h8, h9, hlt]
      exact hr.symm
  · exact ⟨0, by omega, by simp [hl], by simp [h0], by simp [h1], by simp [hl], by simp [hl], rfl⟩
  · rintro e fr h ⟨hl, ⟨rfl, he⟩ | ⟨rfl, he, i, h4, h5⟩⟩
    · simp [hl, he]
    · simp [hl, he, h4, h5]

theorem pc_refAgree (m : Bool × Bool) (l : List Mo) (hf : fine l) (hlen : l.length ≤ 1099511627776) (c : Int) : pc Q n_ref27_Agree [mosV m l, .int .i64 c] = some (agreeV l c) := by
  refine pcQ res_ref27_Agree rfl (by simp [x_ref27_Agree]) fun fr hl ha => ?_
  have hk := pc_refFits m l hf
  have h0 := ha 0
  have h1 := ha 1
  clear ha
  simp [x_ref27_Agree, mosV] at hl h0 h1 hk
  simp [x_ref27_Agree, hl]
  refine (Ends_lp (Ψ := fun e fr h => fr.length = 18 ∧ (e = .exit 0 ∧ agreeV l c = .tup [.int .i64 0, .bool false] ∨ e = .ret ∧ agreeV l c = .tup [look fr 4, look fr 5] ∧ ∃ i, look fr 4 = .int .i64 i ∧ look fr 5 = .bool true))
    (fun n fr h => ∃ i, i + n = l.length ∧ fr.length = 18 ∧ look fr 0 = sl m 6 (l.map moV) ∧ look fr 1 = .int .i64 c ∧ look fr 6 = .int .i64 (i : Nat) ∧ agreeFrom l c n i = agreeV l c) ?_ l.length _ _ ?_).mono ?_
  · rintro n fr h ⟨i, hi, hl, h0, h1, h9, hr⟩
    by_cases hlt : i < l.length
    · have hw : IntKind.i64.wrap ((i : Int) + 1) = (i : Int) + 1 := wrap_id (by omega) (by omega)
      obtain ⟨n, rfl⟩ : ∃ q, n = q + 1 := ⟨n - 1, by omega⟩
      simp only [agreeFrom] at hr
      cases hc : fitsB l i c with
      | true =>
        rw [if_pos hc] at hr
        simp [x_ref27_Agree_0, hl, h0, h1, h9, hlt, hk, hw, hc]
        exact hr.symm
      | false =>
        rw [if_neg (by simp [hc])] at hr
        simp [x_ref27_Agree_0, hl, h0, h1, h9, hlt, hk, hw, hc]
        exact ⟨n, by omega, i + 1, by omega, by simp, hr⟩
    · obtain rfl : n = 0 := by omega
      simp [x_ref27_Agree_0, hl, h0, h9, hlt]
      exact hr.symm
  · exact ⟨0, by omega, by simp [hl], by simp [h0], by simp [h1], by simp [hl], rfl⟩
  · rintro e fr h ⟨hl, ⟨rfl, he⟩ | ⟨rfl, he, i, h4, h5⟩⟩
    · simp [hl, he]
    · simp [hl, he, h4, h5]
end Go.Abs.Q
