/- Contracts: comparing numbers, sizes of terms. -/
import Derived.Test.YtpkegmgepnhfnaaD0
namespace Go.Abs.Q
attribute [local simp] look_set_ne look_set_eq fin tupled code_loop

def cmpI (a b : Int) : Int := if a < b then -1 else if b < a then 1 else 0

theorem pc_sign (a b : Int) : pc Q n_term_sign [.int .i64 a, .int .i64 b] = some (.int .i64 (cmpI a b)) := by
  refine pcQ res_term_sign rfl (by simp [x_term_sign]) fun fr hl ha => ?_
  have h0 := ha 0
  have h1 := ha 1
  simp [x_term_sign] at hl h0 h1 ⊢
  by_cases h : a < b
  · simp [*, cmpI]
  · by_cases h' : b < a <;> simp [*, cmpI]

theorem pc_number (a b : Int) : pc Q n_ref01_number [.int .i64 a, .int .i64 b] = some (.int .i64 (cmpI a b)) := by
  refine pcQ res_ref01_number rfl (by simp [x_ref01_number]) fun fr hl ha => ?_
  have h0 := ha 0
  have h1 := ha 1
  simp [x_ref01_number] at hl h0 h1 ⊢
  by_cases h : a < b
  · simp [*, cmpI]
  · by_cases h' : b < a <;> simp [*, cmpI]
end Go.Abs.Q
