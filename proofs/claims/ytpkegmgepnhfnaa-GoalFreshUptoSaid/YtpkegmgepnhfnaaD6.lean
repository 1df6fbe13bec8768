/- Contracts: fitting moments. -/
import Derived.Test.YtpkegmgepnhfnaaD5
namespace Go.Abs.Q
attribute [local simp] look_set_ne look_set_eq fin tupled code_loop raw_goal_kind raw_ref27_kind raw_goal_equal raw_ref27_Equal raw_goal_fits raw_ref27_Fits

def mosV (m : Bool × Bool) (l : List Mo) : AV := sl m 6 (l.map moV)
def atI (l : List Mo) (i : Int) : Option Mo := if 0 ≤ i then l[i.toNat]? else none
def kindB (l : List Mo) (i k : Int) : Bool := match atI l i with | some x => decide (x.kind = k) | none => false
def fitsB (l : List Mo) (b c : Int) : Bool := match atI l b, atI l c with | some x, some y => decide (x.kind = 4) && decide (y.kind = 5) && decide (b < c) && eqM x y | _, _ => false
/-- The moments' terms are not great. -/
def fine (l : List Mo) : Prop := ∀ x ∈ l, Tm.sizes x.terms ≤ 1099511627776

theorem atI_some {l : List Mo} {i : Int} {x : Mo} (h : atI l i = some x) : 0 ≤ i ∧ i < l.length ∧ l[i.toNat]? = some x ∧ x ∈ l := by
  unfold atI at h
  split at h
  · have := (List.getElem?_eq_some_iff.1 h).1
    exact ⟨by assumption, by omega, h, List.mem_of_getElem? h⟩
  · cases h
theorem atI_none {l : List Mo} {i : Int} (h : atI l i = none) : ¬(0 ≤ i ∧ i < l.length) := by
  unfold atI at h
  split at h
  · have := List.getElem?_eq_none_iff.1 h
    omega
  · omega

theorem pc_kind (m : Bool × Bool) (l : List Mo) (i k : Int) : pc Q n_goal_kind [mosV m l, .int .i64 i, .int .i64 k] = some (.bool (kindB l i k)) := by
  refine pcQ res_goal_kind rfl (by simp [x_goal_kind]) fun fr hl ha => ?_
  have h0 := ha 0
  have h1 := ha 1
  have h2 := ha 2
  clear ha
  simp [x_goal_kind, mosV] at hl h0 h1 h2
  cases hx : atI l i with
  | none =>
    have hn := atI_none hx
    by_cases hi : 0 ≤ i
    · have hi' : ¬(i < l.length) := by omega
      simp [x_goal_kind, h0, h1, h2, hl, hi, hi', kindB, hx]
    · simp [x_goal_kind, h0, h1, h2, hl, hi, kindB, hx]
  | some x =>
    obtain ⟨g1, g2, g3, _⟩ := atI_some hx
    have hn := nth_map (f := moV) g3
    simp only [moV] at hn
    simp [x_goal_kind, h0, h1, h2, hl, g1, g2, hn, kindB, hx]

theorem pc_refkind (m : Bool × Bool) (l : List Mo) (i k : Int) : pc Q n_ref27_kind [mosV m l, .int .i64 i, .int .i64 k] = some (.bool (kindB l i k)) := by
  refine pcQ res_ref27_kind rfl (by simp [x_ref27_kind]) fun fr hl ha => ?_
  have h0 := ha 0
  have h1 := ha 1
  have h2 := ha 2
  clear ha
  simp [x_ref27_kind, mosV] at hl h0 h1 h2
  cases hx : atI l i with
  | none =>
    have hn := atI_none hx
    by_cases hi : 0 ≤ i
    · have hi' : ¬(i < l.length) := by omega
      simp [x_ref27_kind, h0, h1, h2, hl, hi, hi', kindB, hx]
    · simp [x_ref27_kind, h0, h1, h2, hl, hi, kindB, hx]
  | some x =>
    obtain ⟨g1, g2, g3, _⟩ := atI_some hx
    have hn := nth_map (f := moV) g3
    simp only [moV] at hn
    simp [x_ref27_kind, h0, h1, h2, hl, g1, g2, hn, kindB, hx]

theorem pc_fits (m : Bool × Bool) (l : List Mo) (hf : fine l) (b c : Int) : pc Q n_goal_fits [mosV m l, .int .i64 b, .int .i64 c] = some (.bool (fitsB l b c)) := by
  have hk := pc_kind m l
  refine pcQ res_goal_fits rfl (by simp [x_goal_fits]) fun fr hl ha => ?_
  have h0 := ha 0
  have h1 := ha 1
  have h2 := ha 2
  clear ha
  simp [x_goal_fits, mosV] at hl h0 h1 h2 hk
  cases hx : atI l b with
  | none => simp [x_goal_fits, h0, h1, h2, hl, hk, fitsB, kindB, hx]
  | some x =>
    obtain ⟨g1, g2, g3, g4⟩ := atI_some hx
    by_cases hxk : x.kind = 4
    · cases hy : atI l c with
      | none => simp [x_goal_fits, h0, h1, h2, hl, hk, fitsB, kindB, hx, hy, hxk]
      | some y =>
        obtain ⟨k1, k2, k3, k4⟩ := atI_some hy
        have hn := nth_map (f := moV) g3
        have hn' := nth_map (f := moV) k3
        have hE := pc_equal x y (hf x g4) (hf y k4)
        simp only [moV] at hn hn' hE
        by_cases hyk : y.kind = 5
        · by_cases hbc : b < c
          · rw [hxk] at hn hE
            rw [hyk] at hn' hE
            simp [x_goal_fits, h0, h1, h2, hl, hk, fitsB, kindB, hx, hy, hxk, hyk, hbc, g1, k1, hn, hn', hE]
          · simp [x_goal_fits, h0, h1, h2, hl, hk, fitsB, kindB, hx, hy, hxk, hyk, hbc]
        · simp [x_goal_fits, h0, h1, h2, hl, hk, fitsB, kindB, hx, hy, hxk, hyk]
    · have hv : fitsB l b c = false := by
        unfold fitsB
        rw [hx]
        cases atI l c <;> simp [hxk]
      rw [hv]
      simp [x_goal_fits, h0, h1, h2, hl, hk, kindB, hx, hxk]


theorem pc_refFits (m : Bool × Bool) (l : List Mo) (hf : fine l) (b c : Int) : pc Q n_ref27_Fits [mosV m l, .int .i64 b, .int .i64 c] = some (.bool (fitsB l b c)) := by
  have hk := pc_refkind m l
  refine pcQ res_ref27_Fits rfl (by simp [x_ref27_Fits]) fun fr hl ha => ?_
  have h0 := ha 0
  have h1 := ha 1
  have h2 := ha 2
  clear ha
  simp [x_ref27_Fits, mosV] at hl h0 h1 h2 hk
  cases hx : atI l b with
  | none => simp [x_ref27_Fits, h0, h1, h2, hl, hk, fitsB, kindB, hx]
  | some x =>
    obtain ⟨g1, g2, g3, g4⟩ := atI_some hx
    by_cases hxk : x.kind = 4
    · cases hy : atI l c with
      | none => simp [x_ref27_Fits, h0, h1, h2, hl, hk, fitsB, kindB, hx, hy, hxk]
      | some y =>
        obtain ⟨k1, k2, k3, k4⟩ := atI_some hy
        have hn := nth_map (f := moV) g3
        have hn' := nth_map (f := moV) k3
        have hE := pc_Equal x y (hf x g4) (hf y k4)
        simp only [moV] at hn hn' hE
        by_cases hyk : y.kind = 5
        · by_cases hbc : b < c
          · rw [hxk] at hn hE
            rw [hyk] at hn' hE
            simp [x_ref27_Fits, h0, h1, h2, hl, hk, fitsB, kindB, hx, hy, hxk, hyk, hbc, g1, k1, hn, hn', hE]
          · simp [x_ref27_Fits, h0, h1, h2, hl, hk, fitsB, kindB, hx, hy, hxk, hyk, hbc]
        · simp [x_ref27_Fits, h0, h1, h2, hl, hk, fitsB, kindB, hx, hy, hxk, hyk]
    · have hv : fitsB l b c = false := by
        unfold fitsB
        rw [hx]
        cases atI l c <;> simp [hxk]
      rw [hv]
      simp [x_ref27_Fits, h0, h1, h2, hl, hk, kindB, hx, hxk]

end Go.Abs.Q
