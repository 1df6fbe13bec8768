/- Contracts: copies of slices. -/
import Derived.Test.YtpkegmgepnhfnaaD9
namespace Go.Abs.Q
attribute [local simp] look_set_ne look_set_eq fin tupled code_loop

def cloneM (m : Bool × Bool) (xs : List AV) : Bool × Bool := if xs.isEmpty then (true, m.2) else (false, true)

theorem frzRes_nil (h : AH) (sz : Nat) : frzRes h (.vs true 0 []) = some (sl (true, false) sz []) := by rw [← sl_nil sz]; rfl
@[simp] theorem frzRes_view (h : AH) (k n off len : Nat) : frzRes h (.sl k n off len) = frz1 h true (.sl k n off len) := _root_.id rfl

theorem pc_CloneInt (m : Bool × Bool) (xs : List AV) (hb : xs.length ≤ 1099511627776) : pc Q n_slices_Clone_int [sl m 1 xs] = some (sl (cloneM m xs) 1 xs) := by
  refine pcQ res_slices_Clone_int rfl (by simp [x_slices_Clone_int]) fun fr hl ha => ?_
  have h0 := ha 0
  clear ha
  simp [x_slices_Clone_int] at hl h0
  have hr : xs.length * 8 ≤ roomA ∧ xs.length ≤ maxLen := by simp only [roomA, maxLen]; omega
  cases xs with
  | nil =>
    cases hm : m.2 with
    | false => simp [x_slices_Clone_int, hl, h0, nqA_sl, hm, cloneM, frzRes_nil _ 1]
    | true => simp [x_slices_Clone_int, hl, h0, nqA_sl, hm, cloneM, sliceParts, app_sl]
  | cons x xs =>
    simp at hr
    simp [x_slices_Clone_int, hl, h0, nqA_sl, cloneM, sliceParts, app_sl, hr]
end Go.Abs.Q
