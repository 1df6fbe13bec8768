/- The settings are the program's: the contract that is taken of the string comparison holds. -/
import Derived.Test.YtpkegmgepnhfnaaD0
import Derived.ProofKit
import Derived.WalkKit
import Derived.Lib.Strings
import Derived.Lib.Slices
import Derived.Lib.Walk
import Derived.Lib.Bytealg
import Derived.KernelRfl
namespace Go.Proofs

set_option maxHeartbeats 1000000 in
set_option maxRecDepth 100000 in
theorem Try.cmpString (a b : ByteArray) (w : World) :
    Calls Try.prog 60 #[.string a, .string b] w fun e w' => e = .returned (.int .i64 (Lib.compareBytes a.data.toList b.data.toList)) ∧ w' = w := by
  go_enter Try.func60, Try.ntmps60
  go_wp2
  rw [run_callFunc_extern Try.func66 (by kernel_rfl) (by kernel_rfl) (by kernel_rfl) (e := Extern.BytealgCompare.compare) (by kernel_rfl), Lib.run_compareString]
  simp only [Result.andThen]
  rw [Oper.upon_value]
  go_wp2
  go_ret
  exact ⟨rfl, rfl⟩
end Go.Proofs

namespace Go.Abs.Q
open Go.Proofs
open Go.RowKit (Below)

theorem compare_eq : ∀ (a b : List UInt8), Lib.compareBytes a b = if Op.bytesLess a b then -1 else if a = b then 0 else 1
  | [], [] => by simp [Lib.compareBytes, Op.bytesLess]
  | [], _ :: _ => by simp [Lib.compareBytes, Op.bytesLess]
  | _ :: _, [] => by simp [Lib.compareBytes, Op.bytesLess]
  | x :: a, y :: b => by
    simp only [Lib.compareBytes, Op.bytesLess, compare_eq a b]
    by_cases h : x < y
    · simp [h]
    · by_cases h' : y < x
      · have hne : x ≠ y := fun e => h (e ▸ h')
        simp [h, h', hne]
      · have he : x = y := by
          apply UInt8.le_antisymm
          · exact UInt8.not_lt.1 h'
          · exact UInt8.not_lt.1 h
        subst he
        simp [h]

theorem cmpBytes_eq (a b : ByteArray) : cmpBytes a b = Lib.compareBytes a.data.toList b.data.toList := by
  rw [compare_eq, cmpBytes, Lib.toList_data, Lib.toList_data]

theorem mixed : Try.prog.follows .mixedOrders = true := by kernel_rfl

theorem QS : CfgS Try.prog Q := by
  refine ⟨fun f rf h => h, fun f s hs args r hr => ?_, mixed⟩
  have hs' : specF f = some s := hs
  unfold specF at hs'
  split at hs'
  · rename_i hf
    subst hf
    cases hs'
    unfold specCmp at hr
    split at hr
    · rename_i a b
      cases hr
      refine ⟨by kernel_rfl, fun w ok0 vs _ hv => ?_⟩
      have hvs : vs = #[.string a, .string b] := by
        simp only [PVs, PV] at hv
        obtain ⟨u, us, h1, rfl, u', us', rfl, rfl, rfl⟩ := hv
        cases vs
        simp_all
      subst hvs
      refine (Try.cmpString a b w).mono fun e w' ⟨he, hw⟩ => ?_
      subst hw
      exact ⟨_, he, Below.refl _ _, by simp [PV, cmpBytes_eq]⟩
    · cases hr
  · cases hs'
end Go.Abs.Q
