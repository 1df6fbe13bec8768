/- Contracts: two equal claims of different sessions. -/
import Derived.Test.YtpkegmgepnhfnaaD14
namespace Go.Abs.Q
attribute [local simp] look_set_ne look_set_eq fin tupled code_loop raw_goal_kind raw_ref27_kind raw_goal_equal raw_ref27_Equal raw_goal_Fresh raw_ref27_Fresh

def freshV (l : List Mo) (cs : List Int) : AV := freshFrom l [] cs

theorem pc_Fresh (m mc : Bool × Bool) (l : List Mo) (hf : fine l) (cs : List Int) (hlen : cs.length ≤ 1099511627776) : pc Q n_goal_Fresh [mosV m l, intsV mc cs] = some (freshV l cs) := by
  refine pcQ res_goal_Fresh rfl (by simp [x_goal_Fresh]) fun fr hl ha => ?_
  have h0 := ha 0
  have h1 := ha 1
  clear ha
  simp [x_goal_Fresh, mosV, intsV] at hl h0 h1
  simp [x_goal_Fresh, hl, h1]
  refine (Ends_lp (Ψ := fun e fr h => fr.length = 62 ∧ h = ⟨[], []⟩ ∧ (e = .exit 0 ∧ freshV l cs = .tup [.int .i64 0, .int .i64 0, .bool true] ∨ e = .ret ∧ ∃ a b, freshV l cs = .tup [.int .i64 a, .int .i64 b, .bool false] ∧ look fr 4 = .int .i64 a ∧ look fr 5 = .int .i64 b ∧ look fr 6 = .bool false))
    (fun n fr h => ∃ i, i + n = cs.length ∧ h = ⟨[], []⟩ ∧ fr.length = 62 ∧ look fr 0 = sl m 6 (l.map moV) ∧ look fr 1 = sl mc 1 (cs.map (AV.int .i64)) ∧ look fr 11 = sl mc 1 (cs.map (AV.int .i64)) ∧ look fr 12 = .int .i64 cs.length ∧ look fr 13 = .int .i64 (i : Nat) ∧ freshFrom l (cs.take i) (cs.drop i) = freshV l cs) ?_ cs.length _ _ ?_).mono ?_
  · rintro n fr h ⟨i, hi, rfl, hl, h0, h1, h11, h12, h13, hr⟩
    by_cases hlt : i < cs.length
    · have hx := nth_map (f := AV.int .i64) (List.getElem?_eq_getElem hlt)
      have hw : IntKind.i64.wrap ((i : Int) + 1) = (i : Int) + 1 := wrap_id (by omega) (by omega)
      have htk : (cs.take i).length = i := by simp; omega
      have hr' : freshFrom l (cs.take i) (cs[i] :: cs.drop (i + 1)) = freshV l cs := by rw [← List.drop_eq_getElem_cons hlt]; exact hr
      have hnext : cs.take (i + 1) = cs.take i ++ [cs[i]] := by rw [List.take_succ_eq_append_getElem hlt]
      simp only [freshFrom] at hr'
      rw [← hnext] at hr'
      generalize cs[i] = b at *
      have hs : slcA ⟨[], []⟩ 1 (sl mc 1 (cs.map (AV.int .i64))) (some none) (some (some (i : Int))) (some none) = some (sl (mc.1 && decide ((i : Int) = (cs.length : Int)), mc.2 || !cs.isEmpty) 1 ((cs.take i).map (AV.int .i64)), ⟨[], []⟩) := by
        rw [slcA_sl _ _ _ (by omega)]
        have : (i : Int) ≤ (cs.length : Int) := by omega
        simp [this, List.map_take]
      simp [x_goal_Fresh_1, hl, h0, h1, h11, h12, h13, hlt, hx, hw, boundA, hs]
      refine (fresh_inner m (mc.1 && decide ((i : Int) = (cs.length : Int)), mc.2 || !cs.isEmpty) l hf b cs hlen (cs.take i) (by omega) (sl mc 1 (cs.map (AV.int .i64))) (sl mc 1 (cs.map (AV.int .i64))) (.int .i64 cs.length) (.int .i64 (i : Nat)) _ _ (by simp [hl]) (by simp [hl, h0]) (by simp [hl, h1]) (by simp [hl]) (by simp [hl, h11]) (by simp [hl, h12]) (by simp [hl, h13]) (by simp [hl]) (by simp [hl]) (by simp [hl])).mono ?_
      rintro e fr' h' ⟨hl', rfl, k0, k1, k11, k12, k13, ⟨rfl, hn⟩ | ⟨rfl, a, ha, k4, k5, k6⟩⟩
      · rw [hn] at hr'
        simp [hl', k0, k1, k11, k12, k13, hw]
        exact ⟨n - 1, by omega, i + 1, by omega, by simp, hr'⟩
      · rw [ha] at hr'
        simp [hl', k4, k5, k6]
        exact hr'.symm
    · have e0 : cs.length ≤ i := by omega
      rw [List.drop_eq_nil_of_le e0] at hr
      simp only [freshFrom] at hr
      simp [x_goal_Fresh_1, hl, h12, h13, hlt]
      exact hr.symm
  · exact ⟨0, by omega, rfl, by simp [hl], by simp [h0], by simp [h1], by simp [hl], by simp [hl], by simp [hl], rfl⟩
  · rintro e fr h ⟨hl, rfl, ⟨rfl, he⟩ | ⟨rfl, a, b, he, h4, h5, h6⟩⟩
    · simp [hl, he]
    · simp [hl, he, h4, h5, h6]
end Go.Abs.Q
