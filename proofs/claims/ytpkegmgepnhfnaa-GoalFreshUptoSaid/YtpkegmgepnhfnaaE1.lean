/- Contract: the law GoalAgree returns true. -/
import Derived.Test.YtpkegmgepnhfnaaD9
import Derived.Test.YtpkegmgepnhfnaaD10
namespace Go.Abs.Q
attribute [local simp] look_set_ne look_set_eq fin tupled code_loop raw_law27_awake raw_ref27_Few raw_goal_Agree raw_ref27_Agree

theorem agreeFrom_tup (l : List Mo) (c : Int) : ∀ n i, ∃ (a : Int) (b : Bool), agreeFrom l c n i = .tup [.int .i64 a, .bool b]
  | 0, _ => ⟨0, false, rfl⟩
  | n + 1, i => by
    simp only [agreeFrom]
    split
    · exact ⟨_, _, rfl⟩
    · exact agreeFrom_tup l c n (i + 1)

@[simp] theorem scalar_tup2 (a b : AV) : (AV.tup [a, b]).scalar = (a.scalar0 && b.scalar0) := by simp [AV.scalar]
@[simp] theorem scalar0_int (k : IntKind) (n : Int) : (AV.int k n).scalar0 = true := _root_.id rfl
@[simp] theorem scalar0_bool (b : Bool) : (AV.bool b).scalar0 = true := _root_.id rfl

theorem pc_GoalAgree (m : Bool × Bool) (l : List Mo) (hb : totM l ≤ 1099511627776) (hlen : l.length ≤ 1099511627776) (c : Int) : pc Q n_law27_GoalAgree [mosV m l, .int .i64 c] = some (.bool true) := by
  have hF := pc_FewM m l hb
  have hA := pc_Agree m l (totM_fine hb) hlen c
  have hR := pc_refAgree m l (totM_fine hb) hlen c
  obtain ⟨a, b, hv⟩ := agreeFrom_tup l c l.length 0
  rw [agreeV, hv] at hA hR
  refine pcQ res_law27_GoalAgree rfl (by simp [x_law27_GoalAgree]) fun fr hl ha => ?_
  have h0 := ha 0
  have h1 := ha 1
  clear ha
  simp [x_law27_GoalAgree, mosV] at hl h0 h1 hF hA hR
  cases hf : fewM l with
  | false =>
    rw [hf] at hF
    simp [x_law27_GoalAgree, hl, h0, pc_awake, hF]
  | true =>
    rw [hf] at hF
    simp [x_law27_GoalAgree, hl, h0, h1, pc_awake, hF, hA, hR]
end Go.Abs.Q
