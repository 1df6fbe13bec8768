/- Contracts: small lists of moments. -/
import Derived.Test.YtpkegmgepnhfnaaD8
namespace Go.Abs.Q
attribute [local simp] look_set_ne look_set_eq fin tupled code_loop raw_ref01_Few raw_ref27_Few

def totM : List Mo → Nat
  | [] => 0
  | x :: l => Tm.sizes x.terms + totM l
theorem totM_fine {l : List Mo} (h : totM l ≤ 1099511627776) : fine l := by
  induction l with
  | nil => intro x hx; cases hx
  | cons y l ih =>
    simp only [totM] at h
    intro x hx
    rcases List.mem_cons.1 hx with rfl | hx
    · omega
    · exact ih (by omega) x hx

def fewMs : List Mo → List Tm → Bool
  | [], acc => fewT acc 200 1000
  | x :: l, acc => if (10 : Int) < x.agents.length then false else fewMs l (acc ++ x.terms)
def fewM (l : List Mo) : Bool := if (60 : Int) < l.length then false else fewMs l []

/-- A list of terms that grows. -/
def Gro (acc : List Tm) (v : AV) (h : AH) : Prop := (acc = [] ∧ v = .vs true 0 [] ∧ h = ⟨[], []⟩) ∨ (acc ≠ [] ∧ v = .sl 0 acc.length 0 acc.length ∧ h = ⟨[], [⟨tmVs acc, 4, false⟩]⟩)

theorem tmVs_append (a b : List Tm) : tmVs (a ++ b) = tmVs a ++ tmVs b := by simp [tmVs_map]

theorem Gro_app {acc : List Tm} {v : AV} {h : AH} (hg : Gro acc v h) (m : Bool × Bool) (l : List Tm) (hb : Tm.sizes acc + Tm.sizes l ≤ 1099511627776) :
    ∃ v' h', appendA (ctxF n_ref27_Few) h 4 56 v (sl m 4 (tmVs l)) = some (v', h') ∧ Gro (acc ++ l) v' h' := by
  have h1 := Tm.length_le acc
  have h2 := Tm.length_le l
  rcases hg with ⟨rfl, rfl, rfl⟩ | ⟨hne, rfl, rfl⟩
  · cases l with
    | nil => exact ⟨_, _, by simp [tmVs], .inl ⟨rfl, rfl, rfl⟩⟩
    | cons t l =>
      have hr : (t :: l).length * 56 ≤ roomA ∧ (t :: l).length ≤ maxLen := by
        simp only [roomA, maxLen]
        omega
      refine ⟨_, _, ?_, .inr ⟨by simp, rfl, rfl⟩⟩
      rw [app_nil, sl_elems, Option.bind_some, tmVs_length, if_neg (by simp), if_pos hr]
      simp [mutF]
  · have hr : (acc.length + l.length) * 56 ≤ roomA ∧ acc.length + l.length ≤ maxLen := by
      simp only [roomA, maxLen]
      omega
    refine ⟨_, _, ?_, .inr ⟨by simp [hne], rfl, rfl⟩⟩
    rw [app_view, sl_elems]
    simp [hr, tmVs_append]

theorem Gro_few {acc : List Tm} {v : AV} {h : AH} (hg : Gro acc v h) (hb : Tm.sizes acc ≤ 1099511627776) :
    ∃ u, frz h true v = some u ∧ pc Q n_ref01_Few [u, .int .i64 200, .int .i64 1000] = some (.bool (fewT acc 200 1000)) := by
  rcases hg with ⟨rfl, rfl, rfl⟩ | ⟨hne, rfl, rfl⟩
  · exact ⟨_, frz_nil _ _, pc_Few (true, false) [] 200 1000 (by simp [Tm.sizes]) (by omega)⟩
  · refine ⟨sl (false, true) 4 (tmVs acc), ?_, pc_Few _ acc 200 1000 hb (by omega)⟩
    have h0 : List.take acc.length (tmVs acc) = tmVs acc := List.take_of_length_le (by simp)
    simp [h0]

theorem pc_FewM (m : Bool × Bool) (l : List Mo) (hb : totM l ≤ 1099511627776) : pc Q n_ref27_Few [mosV m l] = some (.bool (fewM l)) := by
  refine pcQ res_ref27_Few rfl (by simp [x_ref27_Few]) fun fr hl ha => ?_
  have h0 := ha 0
  clear ha
  simp [x_ref27_Few, mosV] at hl h0
  by_cases hq : (60 : Int) < l.length
  · simp [x_ref27_Few, hl, h0, hq, fewM]
  simp [x_ref27_Few, hl, h0, hq]
  refine (Ends_lp (Ψ := fun e fr h => fr.length = 30 ∧ (e = .exit 0 ∧ (∃ acc, Gro acc (look fr 3) h ∧ Tm.sizes acc ≤ 1099511627776 ∧ fewT acc 200 1000 = fewMs l []) ∨ e = .ret ∧ look fr 2 = .bool false ∧ fewMs l [] = false))
    (fun n fr h => ∃ i acc, i + n = l.length ∧ fr.length = 30 ∧ Tm.sizes acc + totM (l.drop i) ≤ 1099511627776 ∧ look fr 0 = sl m 6 (l.map moV) ∧ Gro acc (look fr 3) h ∧ look fr 4 = .int .i64 (i : Nat) ∧ fewMs (l.drop i) acc = fewMs l []) ?_ l.length _ _ ?_).mono ?_
  · rintro n fr h ⟨i, acc, hi, hl, hs, h0, h3, h4, hr⟩
    by_cases hlt : i < l.length
    · have hx := nth_map (f := moV) (List.getElem?_eq_getElem hlt)
      have hw : IntKind.i64.wrap ((i : Int) + 1) = (i : Int) + 1 := wrap_id (by omega) (by omega)
      rw [List.drop_eq_getElem_cons hlt] at hr hs
      simp only [fewMs, totM] at hr hs
      generalize l[i] = x at *
      simp only [moV] at hx
      by_cases hc : (10 : Int) < x.agents.length
      · rw [if_pos hc] at hr
        simp [x_ref27_Few_0, hl, h0, h4, hlt, hx, hw, hc]
        exact hr.symm
      · rw [if_neg hc] at hr
        obtain ⟨v', h', ha, hg⟩ := Gro_app h3 x.tm x.terms (by omega)
        simp [x_ref27_Few_0, hl, h0, h4, hlt, hx, hw, hc, ha]
        refine ⟨n - 1, by omega, i + 1, by omega, _, ?_, hg, by simp, hr⟩
        rw [Tm.sizes_append]
        omega
    · have e0 : l.length ≤ i := by omega
      rw [List.drop_eq_nil_of_le e0] at hr hs
      simp only [fewMs, totM] at hr hs
      simp [x_ref27_Few_0, hl, h0, h4, hlt]
      exact ⟨acc, h3, by omega, hr⟩
  · exact ⟨0, [], by omega, by simp [hl], by simpa [Tm.sizes] using hb, by simp [h0], .inl ⟨rfl, by simp [hl], rfl⟩, by simp [hl], rfl⟩
  · rintro e fr h ⟨hl, ⟨rfl, acc, hg, hs, he⟩ | ⟨rfl, h4, he⟩⟩
    · obtain ⟨u, hu, hp⟩ := Gro_few hg hs
      simp [hl, hu, hp, fewM, hq, he]
    · simp [hl, h4, he, fewM, hq]
end Go.Abs.Q
