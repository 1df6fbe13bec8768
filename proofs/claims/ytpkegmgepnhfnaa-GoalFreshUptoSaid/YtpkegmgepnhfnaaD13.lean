/- Contracts: two equal claims of different sessions. -/
import Derived.Test.YtpkegmgepnhfnaaD12
namespace Go.Abs.Q
attribute [local simp] look_set_ne look_set_eq fin tupled code_loop raw_goal_kind raw_ref27_kind raw_goal_equal raw_ref27_Equal raw_goal_Fresh raw_ref27_Fresh

def intsV (m : Bool × Bool) (cs : List Int) : AV := sl m 1 (cs.map (AV.int .i64))
def clash (l : List Mo) (a b : Int) : Bool := match atI l a, atI l b with | some x, some y => decide (x.kind = 5) && decide (y.kind = 5) && eqM x y && !decide (x.number = y.number) | _, _ => false
def freshIn (l : List Mo) (b : Int) : List Int → Option Int
  | [] => none
  | a :: r => if clash l a b = true then some a else freshIn l b r
def freshFrom (l : List Mo) (done : List Int) : List Int → AV
  | [] => .tup [.int .i64 0, .int .i64 0, .bool true]
  | b :: r => match freshIn l b done with | some a => .tup [.int .i64 a, .int .i64 b, .bool false] | none => freshFrom l (done ++ [b]) r

theorem slcA_sl (h : AH) (m : Bool × Bool) (sz : Nat) (hsz : 0 < sz) (xs : List AV) (lo hi : Option Int) : slcA h sz (sl m sz xs) (some lo) (some hi) (some none) =
    if 0 ≤ lo.getD 0 ∧ lo.getD 0 ≤ hi.getD xs.length ∧ hi.getD xs.length ≤ xs.length then
      some (sl (m.1 && decide (hi.getD xs.length = xs.length), m.2 || !xs.isEmpty) sz ((xs.drop (lo.getD 0).toNat).take (hi.getD xs.length - lo.getD 0).toNat), h) else none := by
  have hz : (if (xs.isEmpty && !m.2) = true then 0 else sz) = sz ∨ xs.length = 0 := by
    cases xs with
    | nil => exact .inr rfl
    | cons x xs => exact .inl rfl
  simp only [slcA, sl, sliceA]
  rw [if_pos ⟨hsz, hz⟩]
  by_cases hc : 0 ≤ lo.getD 0 ∧ lo.getD 0 ≤ hi.getD xs.length ∧ hi.getD xs.length ≤ xs.length
  · rw [if_pos hc, if_pos hc]
    have e : ((if (xs.isEmpty && !m.2) = true then 0 else sz) : Nat) = (if (((xs.drop (lo.getD 0).toNat).take (hi.getD xs.length - lo.getD 0).toNat).isEmpty && !(m.2 || !xs.isEmpty)) = true then 0 else sz) := by
      cases xs with
      | nil => simp
      | cons x xs => simp
    rw [e]
  · rw [if_neg hc, if_neg hc]
end Go.Abs.Q
