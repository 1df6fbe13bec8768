/- Contract: the law GoalFresh returns true. -/
import Derived.Test.YtpkegmgepnhfnaaD17
import Derived.Test.YtpkegmgepnhfnaaE1
namespace Go.Abs.Q
attribute [local simp] look_set_ne look_set_eq fin tupled code_loop raw_law27_awake raw_ref27_Few raw_goal_Fresh raw_ref27_Fresh raw_slices_Clone_int

theorem freshFrom_tup (l : List Mo) : ∀ (rest done : List Int), ∃ (a b : Int) (c : Bool), freshFrom l done rest = .tup [.int .i64 a, .int .i64 b, .bool c]
  | [], _ => ⟨0, 0, true, rfl⟩
  | b :: r, done => by
    simp only [freshFrom]
    cases freshIn l b done with
    | none => exact freshFrom_tup l r (done ++ [b])
    | some a => exact ⟨_, _, _, rfl⟩
@[simp] theorem scalar_tup3 (a b c : AV) : (AV.tup [a, b, c]).scalar = (a.scalar0 && b.scalar0 && c.scalar0) := by simp [AV.scalar, Bool.and_assoc]

theorem pc_GoalFresh (m mc : Bool × Bool) (l : List Mo) (hb : totM l ≤ 1099511627776) (cs : List Int) (hlen : cs.length ≤ 1099511627776) : pc Q n_law27_GoalFresh [mosV m l, intsV mc cs] = some (.bool true) := by
  have hF := pc_FewM m l hb
  have hC := pc_CloneInt mc (cs.map (AV.int .i64)) (by simpa using hlen)
  have hA := pc_Fresh m (cloneM mc (cs.map (AV.int .i64))) l (totM_fine hb) cs hlen
  have hR := pc_refFresh m mc l (totM_fine hb) cs hlen
  obtain ⟨a, b, c, hv⟩ := freshFrom_tup l cs []
  rw [freshV, hv] at hA hR
  refine pcQ res_law27_GoalFresh rfl (by simp [x_law27_GoalFresh]) fun fr hl ha => ?_
  have h0 := ha 0
  have h1 := ha 1
  clear ha
  simp only [mosV, intsV] at hF hA hR
  simp [x_law27_GoalFresh, mosV, intsV] at hl h0 h1
  cases hf : fewM l with
  | false =>
    rw [hf] at hF
    simp [x_law27_GoalFresh, hl, h0, pc_awake, hF]
  | true =>
    rw [hf] at hF
    by_cases h30 : (30 : Int) < cs.length
    · simp [x_law27_GoalFresh, hl, h0, h1, pc_awake, hF, h30]
    · simp [x_law27_GoalFresh, hl, h0, h1, pc_awake, hF, h30, hC, hA, hR]
end Go.Abs.Q
