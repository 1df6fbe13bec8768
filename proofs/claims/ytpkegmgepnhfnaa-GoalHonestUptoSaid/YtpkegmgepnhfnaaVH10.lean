/- GoalHonest returns true, for every input of bulk at most 1048576; its arguments read afterwards as they read before. Conditions: none beyond the statement's own. -/
import Derived.Test.YtpkegmgepnhfnaaVH9
import Derived.KernelRfl
import Derived.ProofKit
import Derived.WalkKit
import Derived.Lib.Strings
import Derived.Lib.Slices
import Derived.Lib.Walk
import Derived.Lib.Bytealg
import Derived.Test.YtpkegmgepnhfnaaRows
import Derived.OpenShut
import Derived.JoinedCond
/- Contracts: the error of a cast, by the reference. -/
namespace Go.Abs.Q
attribute [local simp] look_set_ne look_set_eq fin tupled code_loop raw_ref01_IsName raw_ref15_hash raw_ref15_find raw_ref15_Valid

theorem rloop_Valid1 (ma mb : Bool × Bool) (ag bad : List ByteArray) (hag : ag.length ≤ 1099511627776) (hsz : ∀ a ∈ ag, a.size ≤ 1099511627776) (fr : Fr) (hl : fr.length = 69) (h1 : look fr 1 = .ptr 0 0) (h3 : look fr 3 = .int .i64 0) :
    Ends (lp (evalCode (lim Q) (ctxF n_ref15_Valid) x_ref15_Valid_1) (fr, ⟨[[sl ma 1 (ag.map AV.str), sl mb 1 (bad.map AV.str)]], []⟩)) fun e fr' h' => Kp x_ref15_Valid_1.wr fr fr' ∧ h' = ⟨[[sl ma 1 (ag.map AV.str), sl mb 1 (bad.map AV.str)]], []⟩ ∧
      (e = .exit 0 ∧ agentsFrom [] ag = 0 ∨ e = .ret ∧ look fr' 2 = .int .i64 (agentsFrom [] ag) ∧ agentsFrom [] ag ≠ 0) := by
  refine Ends_lpw rfl fr (fun n fr h => ∃ i, i + n = ag.length ∧ h = ⟨[[sl ma 1 (ag.map AV.str), sl mb 1 (bad.map AV.str)]], []⟩ ∧ look fr 3 = .int .i64 (i : Nat) ∧ agentsFrom (ag.take i) (ag.drop i) = agentsFrom [] ag) ?_ ag.length _ ⟨0, by omega, rfl, h3, rfl⟩
  rintro J Φ hJ hΦ n fr1 h1' K ⟨i, hi, rfl, k3, hr⟩
  have hl1 : fr1.length = 69 := K.1.trans hl
  have k1 := (K.2 1 (by decide)).trans h1
  by_cases hlt : i < ag.length
  · have hx := nth_map (f := AV.str) (List.getElem?_eq_getElem hlt)
    have hw : IntKind.i64.wrap ((i : Int) + 1) = (i : Int) + 1 := wrap_id (by omega) (by omega)
    have hs : ∀ h, slcA h 1 (sl ma 1 (ag.map AV.str)) (some none) (some (some (i : Int))) (some none) = _ := fun h => slc_take h ma 1 (by omega) (ag.map AV.str) i (by simp; omega)
    have hC := pc_find (ma.1 && decide (i = (ag.map AV.str).length), ma.2 || !(ag.map AV.str).isEmpty) (ag.take i) ag[i] (by simp; omega)
    have hge := idxFrom_ge (eqS ag[i]) (ag.take i) 0
    have hH := pc_hash ag[i] (hsz _ (List.getElem_mem hlt))
    simp only [strsV, List.map_take, idx] at hC
    generalize (ma.1 && decide (i = (ag.map AV.str).length), ma.2 || !(ag.map AV.str).isEmpty) = m1 at *
    rw [List.drop_eq_getElem_cons hlt] at hr
    simp only [agentsFrom] at hr
    rw [← List.take_succ_eq_append_getElem hlt] at hr
    generalize ag[i] = a at *
    have hN := pc_IsName a
    generalize idxFrom (eqS a) 0 (ag.take i) = q at *
    cases hn : nameB a with
    | false =>
      rw [hn] at hN
      simp [hn] at hr
      simp [x_ref15_Valid_1, hl1, k1, k3, hlt, hx, hw, hN]
      exact hΦ _ _ _ ⟨rfl, .inr ⟨rfl, by simp [hl1]; exact hr, by omega⟩⟩
    | true =>
      rw [hn] at hN
      cases hh : hashB a with
      | true =>
        rw [hh] at hH
        simp [hh] at hr
        simp [x_ref15_Valid_1, hl1, k1, k3, hlt, hx, hw, hN, hH]
        exact hΦ _ _ _ ⟨rfl, .inr ⟨rfl, by simp [hl1]; exact hr, by omega⟩⟩
      | false =>
        rw [hh] at hH
        rw [if_pos ⟨hn, hh⟩] at hr
        by_cases hc : (ag.take i).any (eqS a) = true
        · have hq := hge.2 hc
          rw [if_pos hc] at hr
          simp [x_ref15_Valid_1, hl1, k1, k3, hlt, hx, hw, hN, hH, boundA, hs, hC, hq]
          exact hΦ _ _ _ ⟨rfl, .inr ⟨rfl, by simp [hl1]; exact hr, by omega⟩⟩
        · have hq : ¬0 ≤ q := fun h => hc (hge.1 h)
          rw [if_neg hc] at hr
          simp [x_ref15_Valid_1, hl1, k1, k3, hlt, hx, hw, hN, hH, boundA, hs, hC, hq]
          exact ⟨n - 1, by omega, hJ _ _ _ ⟨i + 1, by omega, rfl, by simp [hl1], hr⟩⟩
  · rw [List.drop_eq_nil_of_le (by omega)] at hr
    simp [x_ref15_Valid_1, hl1, k1, k3, hlt]
    exact hΦ _ _ _ ⟨rfl, .inl ⟨rfl, hr.symm⟩⟩

theorem rloop_Valid0 (ma mb : Bool × Bool) (ag bad : List ByteArray) (hag : ag.length ≤ 1099511627776) (hbad : bad.length ≤ 1099511627776) (fr : Fr) (hl : fr.length = 69) (h1 : look fr 1 = .ptr 0 0) (h5 : look fr 5 = .int .i64 0) (h4 : look fr 4 = .int .i64 (-1)) :
    Ends (lp (evalCode (lim Q) (ctxF n_ref15_Valid) x_ref15_Valid_0) (fr, ⟨[[sl ma 1 (ag.map AV.str), sl mb 1 (bad.map AV.str)]], []⟩)) fun e fr' h' => Kp x_ref15_Valid_0.wr fr fr' ∧
      (e = .exit 2 ∧ badFrom ag (-1) bad = 0 ∨ e = .ret ∧ look fr' 2 = .int .i64 (badFrom ag (-1) bad)) := by
  refine Ends_lpw rfl fr (fun n fr h => ∃ (i : Nat) (last : Int), i + n = bad.length ∧ h = ⟨[[sl ma 1 (ag.map AV.str), sl mb 1 (bad.map AV.str)]], []⟩ ∧ look fr 5 = .int .i64 (i : Nat) ∧ look fr 4 = .int .i64 last ∧ badFrom ag last (bad.drop i) = badFrom ag (-1) bad) ?_ bad.length _ ⟨0, -1, by omega, rfl, h5, h4, rfl⟩
  rintro J Φ hJ hΦ n fr1 h1' K ⟨i, last, hi, rfl, k5, k4, hr⟩
  have hl1 : fr1.length = 69 := K.1.trans hl
  have k1 := (K.2 1 (by decide)).trans h1
  by_cases hlt : i < bad.length
  · have hx := nth_map (f := AV.str) (List.getElem?_eq_getElem hlt)
    have hw : IntKind.i64.wrap ((i : Int) + 1) = (i : Int) + 1 := wrap_id (by omega) (by omega)
    rw [List.drop_eq_getElem_cons hlt] at hr
    simp only [badFrom] at hr
    generalize bad[i] = b at *
    have hI := pc_find ma ag b hag
    simp only [strsV] at hI
    generalize idx (eqS b) ag = k at *
    by_cases hk : k < 0
    · rw [if_pos hk] at hr
      simp [x_ref15_Valid_0, hl1, k1, k4, k5, hlt, hx, hw, hI, hk]
      exact hΦ _ _ _ (.inr ⟨rfl, by simp [hl1]; exact hr⟩)
    · rw [if_neg hk] at hr
      by_cases hkl : k ≤ last
      · rw [if_pos hkl] at hr
        simp [x_ref15_Valid_0, hl1, k1, k4, k5, hlt, hx, hw, hI, hk, hkl]
        exact hΦ _ _ _ (.inr ⟨rfl, by simp [hl1]; exact hr⟩)
      · rw [if_neg hkl] at hr
        simp [x_ref15_Valid_0, hl1, k1, k4, k5, hlt, hx, hw, hI, hk, hkl]
        exact ⟨n - 1, by omega, hJ _ _ _ ⟨i + 1, k, by omega, rfl, by simp [hl1], by simp [hl1], hr⟩⟩
  · rw [List.drop_eq_nil_of_le (by omega)] at hr
    simp [x_ref15_Valid_0, hl1, k1, k5, hlt]
    exact hΦ _ _ _ (.inl ⟨rfl, hr.symm⟩)

theorem pc_refValid (ma mb : Bool × Bool) (ag bad : List ByteArray) (hag : ag.length ≤ 1099511627776) (hbad : bad.length ≤ 1099511627776) (hsz : ∀ a ∈ ag, a.size ≤ 1099511627776) : pc Q n_ref15_Valid [castV ma mb ag bad] = some (.int .i64 (validC ag bad)) := by
  refine pcQ res_ref15_Valid rfl (by simp [x_ref15_Valid]) fun fr hl ha => ?_
  have h0 := ha 0
  clear ha
  simp [x_ref15_Valid, castV, strsV] at hl h0
  by_cases he : ag = []
  · subst he
    simp [x_ref15_Valid, hl, h0, validC]
  by_cases h6 : (6 : Int) < ag.length
  · simp [x_ref15_Valid, hl, h0, validC, he, h6]
  have key : ∀ v, validC ag bad = v → Ends (evalCode (lim Q) (ctxF n_ref15_Valid) x_ref15_Valid.body (fr, ⟨[], []⟩)) (FIN x_ref15_Valid.results (.int .i64 v)) := by
    intro v hv
    rw [validC, if_neg he, if_neg h6] at hv
    simp [x_ref15_Valid, hl, h0, he, h6]
    refine (rloop_Valid1 ma mb ag bad hag hsz _ (by simp [hl]) (by simp [hl]) (by simp [hl])).mono ?_
    rintro e fr1 h' ⟨K, rfl, ⟨rfl, h0⟩ | ⟨rfl, h2, h0⟩⟩
    · have hl1 : fr1.length = 69 := K.1.trans (by simp [hl])
      have k1 : look fr1 1 = .ptr 0 0 := (K.2 1 (by decide)).trans (by simp [hl])
      rw [if_neg (by simp [h0])] at hv
      clear K
      simp [hl1, k1]
      refine (rloop_Valid0 ma mb ag bad hag hbad _ (by simp [hl1]) (by simp [hl1, k1]) (by simp [hl1]) (by simp [hl1])).mono ?_
      rintro e fr2 h' ⟨K, ⟨rfl, h0⟩ | ⟨rfl, h2⟩⟩
      · have hl2 : fr2.length = 69 := K.1.trans (by simp [hl1])
        rw [hv] at h0
        simp [hl2, h0]
      · rw [hv] at h2
        simp [h2]
    · rw [if_pos h0] at hv
      rw [hv] at h2
      simp [h2]
  exact key _ rfl
end Go.Abs.Q

/- Contracts: honest agents and sessions. -/
namespace Go.Abs.Q
attribute [local simp] look_set_ne look_set_eq fin tupled code_loop raw_cast_Valid raw_ref15_Valid raw_slices_Contains_string raw_ref15_find raw_cast_Honest raw_ref15_Honest raw_goal_Honest_1 raw_slices_IndexFunc_string raw_slices_ContainsFunc_string raw_goal_Honest raw_ref27_Honest

def honB (ag bad : List ByteArray) (a : ByteArray) : Bool := decide (validC ag bad = 0) && ag.any (eqS a) && !bad.any (eqS a)

section
variable (ma mb : Bool × Bool) (ag bad : List ByteArray) (hag : ag.length ≤ 1099511627776) (hbad : bad.length ≤ 1099511627776)
include hag hbad

theorem pc_castHonest (a : ByteArray) : pc Q n_cast_Honest [castV ma mb ag bad, .str a] = some (.bool (honB ag bad a)) := by
  have hV := pc_castValid ma mb ag bad hag hbad
  have hA := pc_ContainsStr ma ag a hag
  have hB := pc_ContainsStr mb bad a hbad
  refine pcQ res_cast_Honest rfl (by simp [x_cast_Honest]) fun fr hl ha => ?_
  have h0 := ha 0
  have h1 := ha 1
  clear ha
  simp only [castV, strsV] at hV hA hB
  simp [x_cast_Honest, castV, strsV] at hl h0 h1
  by_cases hv : validC ag bad = 0
  · rw [hv] at hV
    cases hx : ag.any (eqS a) with
    | false =>
      rw [hx] at hA
      simp [x_cast_Honest, hl, h0, h1, hV, hA, honB, hv, hx]
    | true =>
      rw [hx] at hA
      simp [x_cast_Honest, hl, h0, h1, hV, hA, hB, honB, hv, hx]
  · simp [x_cast_Honest, hl, h0, h1, hV, honB, hv]

theorem pc_refHonest (hsz : ∀ a ∈ ag, a.size ≤ 1099511627776) (a : ByteArray) : pc Q n_ref15_Honest [castV ma mb ag bad, .str a] = some (.bool (honB ag bad a)) := by
  have hV := pc_refValid ma mb ag bad hag hbad hsz
  have hA := pc_find ma ag a hag
  have hB := pc_find mb bad a hbad
  have gA := idxFrom_ge (eqS a) ag 0
  have gB := idxFrom_ge (eqS a) bad 0
  refine pcQ res_ref15_Honest rfl (by simp [x_ref15_Honest]) fun fr hl ha => ?_
  have h0 := ha 0
  have h1 := ha 1
  clear ha
  simp only [castV, strsV, idx] at hV hA hB
  simp [x_ref15_Honest, castV, strsV] at hl h0 h1
  generalize idxFrom (eqS a) 0 ag = p at *
  generalize idxFrom (eqS a) 0 bad = q at *
  by_cases hv : validC ag bad = 0
  · rw [hv] at hV
    by_cases hp : 0 ≤ p
    · have hx := gA.1 hp
      by_cases hq : 0 ≤ q
      · have hy := gB.1 hq
        have hq' : ¬q < 0 := by omega
        simp [x_ref15_Honest, hl, h0, h1, hV, hA, hB, honB, hv, hx, hy, hp, hq']
      · have hy : bad.any (eqS a) = false := by
          cases hb : bad.any (eqS a) with
          | false => rfl
          | true => exact absurd (gB.2 hb) hq
        have hq' : q < 0 := by omega
        simp [x_ref15_Honest, hl, h0, h1, hV, hA, hB, honB, hv, hx, hy, hp, hq']
    · have hx : ag.any (eqS a) = false := by
        cases hb : ag.any (eqS a) with
        | false => rfl
        | true => exact absurd (gA.2 hb) hp
      simp [x_ref15_Honest, hl, h0, h1, hV, hA, honB, hv, hx, hp]
  · simp [x_ref15_Honest, hl, h0, h1, hV, honB, hv]

theorem rc_goalHonest1 (h : AH) (hbx : h.boxes[0]? = some [sl ma 1 (ag.map AV.str), sl mb 1 (bad.map AV.str)]) (a : ByteArray) : rc Q n_goal_Honest_1 [.str a, .ptr 0 0] h = some (.bool (!honB ag bad a), h) := by
  have hH := pc_castHonest ma mb ag bad hag hbad a
  simp only [castV, strsV] at hH
  obtain ⟨v, h', hrc, rfl, rfl⟩ := rcQ (f := n_goal_Honest_1) (args := [.str a, .ptr 0 0]) (h := h) (Φ := fun v h' => v = .bool (!honB ag bad a) ∧ h' = h) res_goal_Honest_1 (by simp [x_goal_Honest_1]) fun fr hl ha => by
    have h0 := ha 0
    have h1 := ha 1
    clear ha
    simp [x_goal_Honest_1] at hl h0 h1
    simp [x_goal_Honest_1, hl, h0, h1, hbx, hH]
  exact hrc

theorem loop_IndexFunc (m : Bool × Bool) (l : List ByteArray) (hlen : l.length ≤ 1099511627776) (fr : Fr) (h : AH) (hbx : h.boxes[0]? = some [sl ma 1 (ag.map AV.str), sl mb 1 (bad.map AV.str)]) (hl : fr.length = 19)
    (h0 : look fr 0 = sl m 1 (l.map AV.str)) (h1 : look fr 1 = .fn n_goal_Honest_1 [.ptr 0 0]) (h7 : look fr 7 = .int .i64 l.length) (h8 : look fr 8 = .int .i64 0) :
    Ends (lp (evalCode (lim Q) (ctxF n_slices_IndexFunc_string) x_slices_IndexFunc_string_0) (fr, h)) fun e fr' h' => Kp x_slices_IndexFunc_string_0.wr fr fr' ∧ h' = h ∧ (e = .exit 0 ∧ idx (fun a => !honB ag bad a) l = -1 ∨ e = .ret ∧ look fr' 4 = .int .i64 (idx (fun a => !honB ag bad a) l)) := by
  refine Ends_lpw rfl fr (fun n fr h' => ∃ i, i + n = l.length ∧ h' = h ∧ look fr 8 = .int .i64 (i : Nat) ∧ idxFrom (fun a => !honB ag bad a) i (l.drop i) = idx (fun a => !honB ag bad a) l) ?_ l.length h ⟨0, by omega, rfl, h8, rfl⟩
  rintro J Φ hJ hΦ n fr1 h1' K ⟨i, hi, rfl, k8, hr⟩
  have hl1 : fr1.length = 19 := K.1.trans hl
  have k0 := (K.2 0 (by decide)).trans h0
  have k1 := (K.2 1 (by decide)).trans h1
  have k7 := (K.2 7 (by decide)).trans h7
  by_cases hlt : i < l.length
  · have hx := nth_map (f := AV.str) (List.getElem?_eq_getElem hlt)
    have hw : IntKind.i64.wrap ((i : Int) + 1) = (i : Int) + 1 := wrap_id (by omega) (by omega)
    rw [List.drop_eq_getElem_cons hlt] at hr
    simp only [idxFrom] at hr
    generalize l[i] = a at *
    have hH := rc_goalHonest1 ma mb ag bad hag hbad h1' hbx a
    cases hc : honB ag bad a with
    | false =>
      simp [hc] at hH hr
      simp [x_slices_IndexFunc_string_0, hl1, k0, k1, k7, k8, hlt, hx, hw, hH]
      exact hΦ _ _ _ ⟨rfl, .inr ⟨rfl, by simp [hl1]; exact hr⟩⟩
    | true =>
      simp [hc] at hH hr
      simp [x_slices_IndexFunc_string_0, hl1, k0, k1, k7, k8, hlt, hx, hw, hH]
      exact ⟨n - 1, by omega, hJ _ _ _ ⟨i + 1, by omega, rfl, by simp [hl1], hr⟩⟩
  · rw [List.drop_eq_nil_of_le (by omega)] at hr
    simp [x_slices_IndexFunc_string_0, hl1, k7, k8, hlt]
    exact hΦ _ _ _ ⟨rfl, .inl ⟨rfl, hr.symm⟩⟩

theorem rc_IndexFunc (m : Bool × Bool) (l : List ByteArray) (hlen : l.length ≤ 1099511627776) (h : AH) (hbx : h.boxes[0]? = some [sl ma 1 (ag.map AV.str), sl mb 1 (bad.map AV.str)]) :
    rc Q n_slices_IndexFunc_string [sl m 1 (l.map AV.str), .fn n_goal_Honest_1 [.ptr 0 0]] h = some (.int .i64 (idx (fun a => !honB ag bad a) l), h) := by
  obtain ⟨v, h', hrc, rfl, rfl⟩ := rcQ (f := n_slices_IndexFunc_string) (args := [sl m 1 (l.map AV.str), .fn n_goal_Honest_1 [.ptr 0 0]]) (h := h) (Φ := fun v h' => v = .int .i64 (idx (fun a => !honB ag bad a) l) ∧ h' = h) res_slices_IndexFunc_string (by simp [x_slices_IndexFunc_string]) fun fr hl ha => by
    have h0 := ha 0
    have h1 := ha 1
    clear ha
    simp [x_slices_IndexFunc_string] at hl h0 h1
    simp [x_slices_IndexFunc_string, hl, h0]
    refine (loop_IndexFunc ma mb ag bad hag hbad m l hlen _ _ hbx (by simp [hl]) (by simp [hl, h0]) (by simp [hl, h1]) (by simp [hl]) (by simp [hl])).mono ?_
    rintro e fr' h' ⟨K, rfl, ⟨rfl, he⟩ | ⟨rfl, h4⟩⟩
    · have hl' : fr'.length = 19 := K.1.trans (by simp [hl])
      simp [hl', he]
    · simp [h4]
  exact hrc

theorem rc_ContainsFunc (m : Bool × Bool) (l : List ByteArray) (hlen : l.length ≤ 1099511627776) (h : AH) (hbx : h.boxes[0]? = some [sl ma 1 (ag.map AV.str), sl mb 1 (bad.map AV.str)]) :
    rc Q n_slices_ContainsFunc_string [sl m 1 (l.map AV.str), .fn n_goal_Honest_1 [.ptr 0 0]] h = some (.bool (l.any fun a => !honB ag bad a), h) := by
  have hI := rc_IndexFunc ma mb ag bad hag hbad m l hlen h hbx
  have he : decide (0 ≤ idx (fun a => !honB ag bad a) l) = l.any fun a => !honB ag bad a := by
    rw [Bool.eq_iff_iff, decide_eq_true_iff, idx, idxFrom_ge]
  obtain ⟨v, h', hrc, rfl, rfl⟩ := rcQ (f := n_slices_ContainsFunc_string) (args := [sl m 1 (l.map AV.str), .fn n_goal_Honest_1 [.ptr 0 0]]) (h := h) (Φ := fun v h' => v = .bool (decide (0 ≤ idx (fun a => !honB ag bad a) l)) ∧ h' = h) res_slices_ContainsFunc_string (by simp [x_slices_ContainsFunc_string]) fun fr hl ha => by
    have h0 := ha 0
    have h1 := ha 1
    clear ha
    simp [x_slices_ContainsFunc_string] at hl h0 h1
    simp [x_slices_ContainsFunc_string, hl, h0, h1, hI]
  rw [hrc, he]

/-- Are all of a session honest? -/
def sesB (ag bad l : List ByteArray) : Bool := decide (l ≠ []) && l.all (honB ag bad)

theorem pc_goalHonest (k : Int) (m : Bool × Bool) (l : List ByteArray) (hlen : l.length ≤ 1099511627776) : pc Q n_goal_Honest [castV ma mb ag bad, .agg [.int .i64 k, strsV m l]] = some (.bool (sesB ag bad l)) := by
  refine pcQ res_goal_Honest rfl (by simp [x_goal_Honest]) fun fr hl ha => ?_
  have h0 := ha 0
  have h1 := ha 1
  clear ha
  simp [x_goal_Honest, castV, strsV] at hl h0 h1
  cases l with
  | nil => simp [x_goal_Honest, hl, h0, h1, sesB]
  | cons a l =>
    have hC := rc_ContainsFunc ma mb ag bad hag hbad m (a :: l) hlen ⟨[[sl ma 1 (ag.map AV.str), sl mb 1 (bad.map AV.str)], [.int .i64 k, sl m 1 ((a :: l).map AV.str)]], []⟩ rfl
    have hp : 0 < (a :: l).length := by simp
    have e : (!(a :: l).any fun a => !honB ag bad a) = (a :: l).all (honB ag bad) := by
      rw [List.not_any_eq_all_not]
      simp
    generalize hL : a :: l = L at *
    have hne : ¬L = [] := by subst hL; simp
    simp [x_goal_Honest, hl, h0, h1, hp, hC, sesB, hne]
    simpa using e

theorem rloop_refHonest (hsz : ∀ a ∈ ag, a.size ≤ 1099511627776) (k : Int) (m : Bool × Bool) (l : List ByteArray) (hlen : l.length ≤ 1099511627776) (fr : Fr) (h : AH) (hbx : h.boxes = [[sl ma 1 (ag.map AV.str), sl mb 1 (bad.map AV.str)], [.int .i64 k, sl m 1 (l.map AV.str)]]) (hl : fr.length = 25)
    (h2 : look fr 2 = .ptr 0 0) (h3 : look fr 3 = .ptr 1 0) (h5 : look fr 5 = .int .i64 0) :
    Ends (lp (evalCode (lim Q) (ctxF n_ref27_Honest) x_ref27_Honest_0) (fr, h)) fun e fr' h' => Kp x_ref27_Honest_0.wr fr fr' ∧ h' = h ∧ (e = .exit 0 ∧ l.all (honB ag bad) = true ∨ e = .ret ∧ look fr' 4 = .bool false ∧ l.all (honB ag bad) = false) := by
  refine Ends_lpw rfl fr (fun n fr h' => ∃ i, i + n = l.length ∧ h' = h ∧ look fr 5 = .int .i64 (i : Nat) ∧ (l.drop i).all (honB ag bad) = l.all (honB ag bad)) ?_ l.length h ⟨0, by omega, rfl, h5, rfl⟩
  rintro J Φ hJ hΦ n fr1 h1' K ⟨i, hi, rfl, k5, hr⟩
  have hl1 : fr1.length = 25 := K.1.trans hl
  have k2 := (K.2 2 (by decide)).trans h2
  have k3 := (K.2 3 (by decide)).trans h3
  by_cases hlt : i < l.length
  · have hx := nth_map (f := AV.str) (List.getElem?_eq_getElem hlt)
    have hw : IntKind.i64.wrap ((i : Int) + 1) = (i : Int) + 1 := wrap_id (by omega) (by omega)
    rw [List.drop_eq_getElem_cons hlt, List.all_cons] at hr
    generalize l[i] = a at *
    have hH := pc_refHonest ma mb ag bad hag hbad hsz a
    simp only [castV, strsV] at hH
    cases hc : honB ag bad a with
    | false =>
      rw [hc] at hH hr
      simp [x_ref27_Honest_0, hl1, hbx, k2, k3, k5, hlt, hx, hw, hH]
      exact hΦ _ _ _ ⟨rfl, .inr ⟨rfl, by simp [hl1], by simpa using hr.symm⟩⟩
    | true =>
      rw [hc] at hH hr
      simp [x_ref27_Honest_0, hl1, hbx, k2, k3, k5, hlt, hx, hw, hH]
      exact ⟨n - 1, by omega, hJ _ _ _ ⟨i + 1, by omega, rfl, by simp [hl1], by simpa using hr⟩⟩
  · rw [List.drop_eq_nil_of_le (by omega)] at hr
    simp [x_ref27_Honest_0, hl1, hbx, k3, k5, hlt]
    exact hΦ _ _ _ ⟨rfl, .inl ⟨rfl, by simpa using hr.symm⟩⟩

theorem pc_refSession (hsz : ∀ a ∈ ag, a.size ≤ 1099511627776) (k : Int) (m : Bool × Bool) (l : List ByteArray) (hlen : l.length ≤ 1099511627776) : pc Q n_ref27_Honest [castV ma mb ag bad, .agg [.int .i64 k, strsV m l]] = some (.bool (sesB ag bad l)) := by
  refine pcQ res_ref27_Honest rfl (by simp [x_ref27_Honest]) fun fr hl ha => ?_
  have h0 := ha 0
  have h1 := ha 1
  clear ha
  simp [x_ref27_Honest, castV, strsV] at hl h0 h1
  have key : ∀ v, sesB ag bad l = v → Ends (evalCode (lim Q) (ctxF n_ref27_Honest) x_ref27_Honest.body (fr, ⟨[], []⟩)) (FIN x_ref27_Honest.results (.bool v)) := by
    intro v hv
    simp [x_ref27_Honest, hl, h0, h1]
    refine (rloop_refHonest ma mb ag bad hag hbad hsz k m l hlen _ _ rfl (by simp [hl]) (by simp [hl]) (by simp [hl]) (by simp [hl])).mono ?_
    rintro e fr1 h' ⟨K, rfl, ⟨rfl, he⟩ | ⟨rfl, h4, he⟩⟩
    · have hl1 : fr1.length = 25 := K.1.trans (by simp [hl])
      have k3 : look fr1 3 = .ptr 1 0 := (K.2 3 (by decide)).trans (by simp [hl])
      rw [sesB, he, Bool.and_true] at hv
      subst hv
      cases l with
      | nil => simp [hl1, k3]
      | cons a l =>
        have hp : (0 : Int) < (l.length : Int) + 1 := by omega
        simp [hl1, k3, hp]
    · rw [sesB, he, Bool.and_false] at hv
      subst hv
      simp [h4]
  exact key _ rfl
end
end Go.Abs.Q

/- Contracts: the examples of the chapter. -/
namespace Go.Abs.Q
open Go.Proofs
theorem awake_orc : (orc Q 20).pure n_law27_awake [] = some (.bool true) := by kernel_rfl
theorem pc_awake : pc Q n_law27_awake [] = some (.bool true) := orc_pc Q awake_orc
end Go.Abs.Q

/- Contract: the law GoalAgree returns true. -/
namespace Go.Abs.Q
attribute [local simp] look_set_ne look_set_eq fin tupled code_loop raw_law27_awake raw_ref27_Few raw_goal_Agree raw_ref27_Agree

theorem agreeFrom_tup (l : List Mo) (c : Int) : ∀ n i, ∃ (a : Int) (b : Bool), agreeFrom l c n i = .tup [.int .i64 a, .bool b]
  | 0, _ => ⟨0, false, rfl⟩
  | n + 1, i => by
    simp only [agreeFrom]
    split
    · exact ⟨_, _, rfl⟩
    · exact agreeFrom_tup l c n (i + 1)

@[simp] theorem scalar_tup2 (a b : AV) : (AV.tup [a, b]).scalar = (a.scalar0 && b.scalar0) := by simp [AV.scalar]
@[simp] theorem scalar0_int (k : IntKind) (n : Int) : (AV.int k n).scalar0 = true := _root_.id rfl
@[simp] theorem scalar0_bool (b : Bool) : (AV.bool b).scalar0 = true := _root_.id rfl

theorem pc_GoalAgree (m : Bool × Bool) (l : List Mo) (hb : totM l ≤ 1099511627776) (hlen : l.length ≤ 1099511627776) (c : Int) : pc Q n_law27_GoalAgree [mosV m l, .int .i64 c] = some (.bool true) := by
  have hF := pc_FewM m l hb
  have hA := pc_Agree m l (totM_fine hb) hlen c
  have hR := pc_refAgree m l (totM_fine hb) hlen c
  obtain ⟨a, b, hv⟩ := agreeFrom_tup l c l.length 0
  rw [agreeV, hv] at hA hR
  refine pcQ res_law27_GoalAgree rfl (by simp [x_law27_GoalAgree]) fun fr hl ha => ?_
  have h0 := ha 0
  have h1 := ha 1
  clear ha
  simp [x_law27_GoalAgree, mosV] at hl h0 h1 hF hA hR
  cases hf : fewM l with
  | false =>
    rw [hf] at hF
    simp [x_law27_GoalAgree, hl, h0, pc_awake, hF]
  | true =>
    rw [hf] at hF
    simp [x_law27_GoalAgree, hl, h0, h1, pc_awake, hF, hA, hR]
end Go.Abs.Q

/- Contract: the law GoalHonest returns true. -/
namespace Go.Abs.Q
attribute [local simp] look_set_ne look_set_eq fin tupled code_loop raw_law27_awake raw_ref15_Few raw_goal_Honest raw_ref27_Honest raw_law27_GoalHonest

/-- A list of strings, as it stands or as a row of the heap. -/
def Has (v : AV) (h : AH) (xs : List ByteArray) : Prop := (v = sl (true, true) 1 [] ∧ xs = []) ∨ (v = .sl 0 xs.length 0 xs.length ∧ h.fams[0]? = some ⟨xs.map AV.str, 1, false⟩)

theorem loop_castFew (xs : List ByteArray) (hlen : xs.length ≤ 1099511627776) (fr : Fr) (h : AH) (hv : Has (look fr 3) h xs) (hl : fr.length = 27) (h4 : look fr 4 = .int .i64 0) :
    Ends (lp (evalCode (lim Q) (ctxF n_ref15_Few) x_ref15_Few_0) (fr, h)) fun e fr' h' => Kp x_ref15_Few_0.wr fr fr' ∧ h' = h ∧ (e = .exit 0 ∨ e = .ret ∧ look fr' 2 = .bool false) := by
  refine Ends_lpw rfl fr (fun n fr h' => ∃ i : Nat, i + n = xs.length ∧ h' = h ∧ look fr 4 = .int .i64 (i : Nat)) ?_ xs.length h ⟨0, by omega, rfl, h4⟩
  rintro J Φ hJ hΦ n fr1 h1' K ⟨i, hi, rfl, k4⟩
  have hl1 : fr1.length = 27 := K.1.trans hl
  have e3 := K.2 3 (by decide)
  rcases hv with ⟨hv, rfl⟩ | ⟨hv, hf⟩
  · have k3 := e3.trans hv
    have : i = 0 := by simpa using (show i = 0 by simp at hi; omega)
    subst this
    simp [x_ref15_Few_0, hl1, k3, k4]
    exact hΦ _ _ _ ⟨rfl, .inl rfl⟩
  · have k3 := e3.trans hv
    by_cases hlt : i < xs.length
    · have hw : IntKind.i64.wrap ((i : Int) + 1) = (i : Int) + 1 := wrap_id (by omega) (by omega)
      obtain ⟨a, ha⟩ : ∃ a, xs[i]'hlt = a := ⟨_, rfl⟩
      by_cases h60 : (60 : Int) < a.size
      · simp [x_ref15_Few_0, hl1, k3, k4, hlt, hf, ha, hw, h60]
        exact hΦ _ _ _ ⟨rfl, .inr ⟨rfl, by simp [hl1]⟩⟩
      · simp [x_ref15_Few_0, hl1, k3, k4, hlt, hf, ha, hw, h60]
        exact ⟨n - 1, by omega, hJ _ _ _ ⟨i + 1, by omega, rfl, by simp [hl1]⟩⟩
    · simp [x_ref15_Few_0, hl1, k3, k4, hlt]
      exact hΦ _ _ _ ⟨rfl, .inl rfl⟩

theorem pc_castFew (ma mb : Bool × Bool) (ag bad : List ByteArray) (hag : ag.length + bad.length ≤ 1099511627776) : ∃ b, pc Q n_ref15_Few [castV ma mb ag bad] = some (.bool b) := by
  suffices h : ∃ r, pc Q n_ref15_Few [castV ma mb ag bad] = some r ∧ ∃ b, r = .bool b by
    obtain ⟨r, h1, b, rfl⟩ := h
    exact ⟨b, h1⟩
  refine pc_ends_ex (C := Q) rfl res_ref15_Few (by simp [x_ref15_Few]) fun Ψ hΨ fr hl ha => ?_
  have h0 := ha 0
  clear ha
  simp [x_ref15_Few, castV, strsV] at hl h0
  have ra : (ag.length) * 16 ≤ roomA ∧ ag.length ≤ maxLen := by simp only [roomA, maxLen]; omega
  have rb : (bad.length) * 16 ≤ roomA ∧ bad.length ≤ maxLen := by simp only [roomA, maxLen]; omega
  have rab : (ag.length + bad.length) * 16 ≤ roomA ∧ ag.length + bad.length ≤ maxLen := by simp only [roomA, maxLen]; omega
  have hm : mutF n_ref15_Few = false := rfl
  by_cases hA : ag = []
  · subst hA
    by_cases hB : bad = []
    · subst hB
      simp [x_ref15_Few, hl, h0, sliceParts, app_sl]
      refine (loop_castFew [] (by simp) _ _ (.inl ⟨by simp [hl], rfl⟩) (by simp [hl]) (by simp [hl])).mono ?_
      rintro e fr2 h2 ⟨K, rfl, rfl | ⟨rfl, k2⟩⟩
      · have hl2 : fr2.length = 27 := K.1.trans (by simp [hl])
        have k3 : look fr2 3 = sl (true, true) 1 [] := (K.2 3 (by decide)).trans (by simp [hl])
        simp [hl2, k3]
        exact hΨ _ ⟨_, rfl⟩
      · simp [k2]
        exact hΨ _ ⟨_, rfl⟩
    · simp [x_ref15_Few, hl, h0, sliceParts, app_sl, rb, hB, hm]
      refine (loop_castFew bad (by omega) _ _ (.inr ⟨by simp [hl], by simp⟩) (by simp [hl]) (by simp [hl])).mono ?_
      rintro e fr2 h2 ⟨K, rfl, rfl | ⟨rfl, k2⟩⟩
      · have hl2 : fr2.length = 27 := K.1.trans (by simp [hl])
        have k3 : look fr2 3 = .sl 0 bad.length 0 bad.length := (K.2 3 (by decide)).trans (by simp [hl])
        simp [hl2, k3]
        exact hΨ _ ⟨_, rfl⟩
      · simp [k2]
        exact hΨ _ ⟨_, rfl⟩
  · simp [x_ref15_Few, hl, h0, sliceParts, app_sl, ra, hA, rab, hm]
    refine (loop_castFew (ag ++ bad) (by simp; omega) _ _ (.inr ⟨by simp [hl], by simp⟩) (by simp [hl]) (by simp [hl])).mono ?_
    rintro e fr2 h2 ⟨K, rfl, rfl | ⟨rfl, k2⟩⟩
    · have hl2 : fr2.length = 27 := K.1.trans (by simp [hl])
      have k3 : look fr2 3 = .sl 0 (ag.length + bad.length) 0 (ag.length + bad.length) := (K.2 3 (by decide)).trans (by simp [hl])
      simp [hl2, k3]
      exact hΨ _ ⟨_, rfl⟩
    · simp [k2]
      exact hΨ _ ⟨_, rfl⟩

theorem pc_GoalHonest (ma mb : Bool × Bool) (ag bad : List ByteArray) (hag : ag.length + bad.length ≤ 1099511627776) (hsz : ∀ a ∈ ag, a.size ≤ 1099511627776) (k : Int) (m : Bool × Bool) (l : List ByteArray) (hlen : l.length ≤ 1099511627776) :
    pc Q n_law27_GoalHonest [castV ma mb ag bad, .agg [.int .i64 k, strsV m l]] = some (.bool true) := by
  obtain ⟨b, hF⟩ := pc_castFew ma mb ag bad hag
  have hG := pc_goalHonest ma mb ag bad (by omega) (by omega) k m l hlen
  have hR := pc_refSession ma mb ag bad (by omega) (by omega) hsz k m l hlen
  refine pcQ res_law27_GoalHonest rfl (by simp [x_law27_GoalHonest]) fun fr hl ha => ?_
  have h0 := ha 0
  have h1 := ha 1
  clear ha
  simp only [castV, strsV] at hF hG hR
  simp [x_law27_GoalHonest, castV, strsV] at hl h0 h1
  cases b with
  | false => simp [x_law27_GoalHonest, hl, h0, h1, pc_awake, hF]
  | true =>
    by_cases h20 : (20 : Int) < l.length
    · simp [x_law27_GoalHonest, hl, h0, h1, pc_awake, hF, h20]
    · simp [x_law27_GoalHonest, hl, h0, h1, pc_awake, hF, h20, hG, hR]
end Go.Abs.Q

/- The settings are the program's: the contract that is taken of the string comparison holds. -/
namespace Go.Proofs

set_option maxHeartbeats 1000000 in
set_option maxRecDepth 100000 in
theorem Try.cmpString (a b : ByteArray) (w : World) :
    Calls Try.prog 60 #[.string a, .string b] w fun e w' => e = .returned (.int .i64 (Lib.compareBytes a.data.toList b.data.toList)) ∧ w' = w := by
  go_enter Try.func60, Try.ntmps60
  go_wp2
  rw [run_callFunc_extern Try.func66 (by kernel_rfl) (by kernel_rfl) (by kernel_rfl) (e := Extern.BytealgCompare.compare) (by kernel_rfl), Lib.run_compareString]
  simp only [Result.andThen]
  rw [Oper.upon_value]
  go_wp2
  go_ret
  exact ⟨rfl, rfl⟩

set_option maxHeartbeats 1000000 in
set_option maxRecDepth 100000 in
theorem Try.sliteIndexByte (s : ByteArray) (c : Int) (w : World) :
    Calls Try.prog 72 #[.string s, .int .u8 c] w fun e w' => e = .returned (.int .i64 (Lib.indexByte s.data.toList c.toNat.toUInt8)) ∧ w' = w := by
  go_enter Try.func72, Try.ntmps72
  go_wp2
  rw [run_callFunc_extern Try.func76 (by kernel_rfl) (by kernel_rfl) (by kernel_rfl) (e := Extern.BytealgIndexByte.indexByte) (by kernel_rfl), Lib.run_indexByteString]
  simp only [Result.andThen]
  rw [Oper.upon_value]
  go_wp2
  go_ret
  exact ⟨rfl, rfl⟩

set_option maxHeartbeats 2000000 in
set_option maxRecDepth 100000 in
theorem Try.sliteIndexOne (s : ByteArray) (c : UInt8) (w : World) :
    Calls Try.prog 70 #[.string s, .string ⟨#[c]⟩] w fun e w' => e = .returned (.int .i64 (Lib.indexByte s.data.toList c)) ∧ w' = w := by
  go_enter Try.func70, Try.ntmps70
  go_wp2_with (go_at_call 72; refine (Try.sliteIndexByte _ _ _).mono ?_; rintro e w' ⟨rfl, rfl⟩)
  · have h : ([c] == s.toList) = true := by assumption
    go_ret
    refine ⟨?_, rfl⟩
    have e : s.data.toList = [c] := by rw [← Lib.toList_data]; exact (beq_iff_eq.1 h).symm
    rw [e]
    simp [Lib.indexByte]
  · go_ret
    exact ⟨rfl, rfl⟩

set_option maxHeartbeats 1000000 in
theorem Try.stringsIndexOne (s : ByteArray) (c : UInt8) (w : World) :
    Calls Try.prog 63 #[.string s, .string ⟨#[c]⟩] w fun e w' => e = .returned (.int .i64 (Lib.indexByte s.data.toList c)) ∧ w' = w := by
  go_enter Try.func63, Try.ntmps63
  go_wp2_with (go_at_call 70; refine (Try.sliteIndexOne _ _ _).mono ?_; rintro e w' ⟨rfl, rfl⟩)
  go_ret
  exact ⟨rfl, rfl⟩

set_option maxHeartbeats 1000000 in
theorem Try.stringsContainsOne (s : ByteArray) (c : UInt8) (w : World) :
    Calls Try.prog 56 #[.string s, .string ⟨#[c]⟩] w fun e w' => e = .returned (.bool (decide (0 ≤ Lib.indexByte s.data.toList c))) ∧ w' = w := by
  go_enter Try.func56, Try.ntmps56
  go_wp2_with (go_at_call 63; refine (Try.stringsIndexOne _ _ _).mono ?_; rintro e w' ⟨rfl, rfl⟩)
  go_ret
  exact ⟨rfl, rfl⟩
end Go.Proofs

namespace Go.Abs.Q
open Go.Proofs
open Go.RowKit (Below)

theorem compare_eq : ∀ (a b : List UInt8), Lib.compareBytes a b = if Op.bytesLess a b then -1 else if a = b then 0 else 1
  | [], [] => by simp [Lib.compareBytes, Op.bytesLess]
  | [], _ :: _ => by simp [Lib.compareBytes, Op.bytesLess]
  | _ :: _, [] => by simp [Lib.compareBytes, Op.bytesLess]
  | x :: a, y :: b => by
    simp only [Lib.compareBytes, Op.bytesLess, compare_eq a b]
    by_cases h : x < y
    · simp [h]
    · by_cases h' : y < x
      · have hne : x ≠ y := fun e => h (e ▸ h')
        simp [h, h', hne]
      · have he : x = y := by
          apply UInt8.le_antisymm
          · exact UInt8.not_lt.1 h'
          · exact UInt8.not_lt.1 h
        subst he
        simp [h]

theorem cmpBytes_eq (a b : ByteArray) : cmpBytes a b = Lib.compareBytes a.data.toList b.data.toList := by
  rw [compare_eq, cmpBytes, Lib.toList_data, Lib.toList_data]

theorem indexByte_iff (c : UInt8) : ∀ l : List UInt8, 0 ≤ Lib.indexByte l c ↔ c ∈ l
  | [] => by simp [Lib.indexByte]
  | b :: l => by
    have ih := indexByte_iff c l
    have hge := Lib.indexByte_ge l c
    by_cases h : b = c
    · subst h
      simp [Lib.indexByte]
    · have h1 : Lib.indexByte (b :: l) c = if Lib.indexByte l c = -1 then -1 else Lib.indexByte l c + 1 := by
        simp [Lib.indexByte, h]
      have h2 : ¬c = b := fun e => h e.symm
      rw [h1, List.mem_cons]
      by_cases h3 : Lib.indexByte l c = -1
      · rw [if_pos h3]
        constructor
        · intro k; omega
        · rintro (k | k)
          · exact absurd k h2
          · have := ih.2 k; omega
      · rw [if_neg h3]
        constructor
        · intro k; exact .inr (ih.1 (by omega))
        · intro k
          omega
theorem indexByte_has (l : List UInt8) (c : UInt8) : decide (0 ≤ Lib.indexByte l c) = l.contains c := by
  rw [Bool.eq_iff_iff, decide_eq_true_iff, indexByte_iff]
  simp

theorem mixed : Try.prog.follows .mixedOrders = true := by kernel_rfl

theorem QS : CfgS Try.prog Q := by
  refine ⟨fun f rf h => h, fun f s hs args r hr => ?_, mixed⟩
  have hs' : specF f = some s := hs
  unfold specF at hs'
  split at hs'
  · rename_i hf
    subst hf
    cases hs'
    unfold specCmp at hr
    split at hr
    · rename_i a b
      cases hr
      refine ⟨by kernel_rfl, fun w ok0 vs _ hv => ?_⟩
      have hvs : vs = #[.string a, .string b] := by
        simp only [PVs, PV] at hv
        obtain ⟨u, us, h1, rfl, u', us', rfl, rfl, rfl⟩ := hv
        cases vs
        simp_all
      subst hvs
      refine (Try.cmpString a b w).mono fun e w' ⟨he, hw⟩ => ?_
      subst hw
      exact ⟨_, he, Below.refl _ _, by simp [PV, cmpBytes_eq]⟩
    · cases hr
  · split at hs'
    · rename_i hf
      subst hf
      cases hs'
      unfold specHas at hr
      split at hr
      · rename_i a b
        split at hr
        · rename_i c hb
          cases hr
          refine ⟨by kernel_rfl, fun w ok0 vs _ hv => ?_⟩
          have hb' : b = ⟨#[c]⟩ := by
            obtain ⟨⟨l⟩⟩ := b
            simp at hb
            rw [hb]
          subst hb'
          have hvs : vs = #[.string a, .string ⟨#[c]⟩] := by
            simp only [PVs, PV] at hv
            obtain ⟨u, us, h1, rfl, u', us', rfl, rfl, rfl⟩ := hv
            cases vs
            simp_all
          subst hvs
          refine (Try.stringsContainsOne a c w).mono fun e w' ⟨he, hw⟩ => ?_
          subst hw
          exact ⟨_, he, Below.refl _ _, by simp [PV, indexByte_has]⟩
        · cases hr
      · cases hr
    · cases hs'
end Go.Abs.Q

namespace Go.Proofs.Ytpkegmgepnhfnaa.goalHonest
open Go.ChangeShapes Go.WideShapes Go.ChangeAt Go.RowKit Go.Abs Go.Abs.Q
set_option linter.unusedVariables false

theorem CV_head {w : World} {y : AV} {c : Value} (h : CV w [y] [c]) : PV w (okW w) y c := by
  obtain ⟨h1, _⟩ := h
  simp only [PVs] at h1
  obtain ⟨u, us, he, h2, _⟩ := h1
  cases he
  exact h2
theorem CV_agg {w : World} {cs : List AV} {us : Array Value} (h : CV w cs us.toList) : PV w (okW w) (.agg cs) (.agg us) := by
  simp only [PV]
  exact ⟨us, rfl, h.2, h.1⟩
theorem c45 : Try.prog.cellsOf 45 = 2 := by kernel_rfl
theorem c47 : Try.prog.cellsOf 47 = 2 := by kernel_rfl

theorem sum_mem {α : Type} {f : α → Nat} {a : α} : ∀ {l : List α}, a ∈ l → f a ≤ (l.map f).sum
  | b :: l, h => by
    rcases List.mem_cons.1 h with rfl | h
    · simp
    · have := sum_mem (f := f) h
      simp
      omega

theorem opens_strs {w : World} (n : Nat) : Opens Try.prog w 36 (fun ys : Bool × List ByteArray => [strsV (false, ys.1) ys.2]) (fun _ => True) (fun ys => (ys.2.map fun s => s.size + 1).sum) n := by
  intro H enc cs x hx
  cases n with
  | zero => simp [DataW.trod] at hx
  | succ n =>
    obtain ⟨ys, -, h1, h2⟩ := opens_slice (w := w) (enc := AV.str) Try.underlying36 c9 (by omega) (opens_str (w := w) Try.underlying9 n) enc _ _ hx
    exact ⟨ys, trivial, by dsimp only at h1 ⊢; omega, h2⟩

theorem opens_cast {w : World} (n : Nat) : Opens Try.prog w 45 (fun a : (Bool × List ByteArray) × (Bool × List ByteArray) => [strsV (false, a.1.1) a.1.2, strsV (false, a.2.1) a.2.2]) (fun _ => True) (fun a => (a.1.2.map fun s => s.size + 1).sum + (a.2.2.map fun s => s.size + 1).sum) n := by
  intro H enc cs x hx
  obtain ⟨m, xs, rfl, hcl, hxl, hx1, hf⟩ := struct_parts Try.underlying45 c45 (fun i f hi => by
    rcases i with _ | _ | i
    · cases hi; exact ⟨rfl, c36⟩
    · cases hi; exact ⟨rfl, c36⟩
    · simp at hi) hx
  obtain ⟨v0, y0, hv0, hy0, h0⟩ := hf 0 _ rfl
  obtain ⟨v1, y1, hv1, hy1, h1⟩ := hf 1 _ rfl
  obtain ⟨a, -, w0, cv0⟩ := opens_strs (w := w) m enc _ _ h0
  obtain ⟨b, -, w1, cv1⟩ := opens_strs (w := w) m enc _ _ h1
  have hcs : cs = [v0, v1] := by
    match cs, hcl with
    | [a, b], _ => simp at hv0 hv1; simp [hv0, hv1]
  have hxs : xs = [y0, y1] := by
    match xs, hxl with
    | [a, b], _ => simp at hy0 hy1; simp [hy0, hy1]
  subst hcs hxs
  refine ⟨(a, b), trivial, ?_, CV_cons cv0 cv1⟩
  rw [hx1]
  dsimp only at w0 w1
  simp only [List.map_cons, List.map_nil, Rows.uptoBulk, Rows.uptoBulkAll]
  omega

theorem opens_ses {w : World} (n : Nat) : Opens Try.prog w 47 (fun a : Int × (Bool × List ByteArray) => [.int .i64 a.1, strsV (false, a.2.1) a.2.2]) (fun _ => True) (fun a => (a.2.2.map fun s => s.size + 1).sum) n := by
  intro H enc cs x hx
  obtain ⟨m, xs, rfl, hcl, hxl, hx1, hf⟩ := struct_parts Try.underlying47 c47 (fun i f hi => by
    rcases i with _ | _ | i
    · cases hi; exact ⟨rfl, c3⟩
    · cases hi; exact ⟨rfl, c36⟩
    · simp at hi) hx
  obtain ⟨v0, y0, hv0, hy0, h0⟩ := hf 0 _ rfl
  obtain ⟨v1, y1, hv1, hy1, h1⟩ := hf 1 _ rfl
  obtain ⟨a, -, w0, cv0⟩ := opens_int (w := w) Try.underlying3 m enc _ _ h0
  obtain ⟨b, -, w1, cv1⟩ := opens_strs (w := w) m enc _ _ h1
  have hcs : cs = [v0, v1] := by
    match cs, hcl with
    | [a, b], _ => simp at hv0 hv1; simp [hv0, hv1]
  have hxs : xs = [y0, y1] := by
    match xs, hxl with
    | [a, b], _ => simp at hy0 hy1; simp [hy0, hy1]
  subst hcs hxs
  refine ⟨(a, b), trivial, ?_, CV_cons cv0 cv1⟩
  rw [hx1]
  dsimp only at w0 w1
  simp only [List.map_cons, List.map_nil, Rows.uptoBulk, Rows.uptoBulkAll]
  omega

theorem own : ownKnob Try.prog.godebug = none := by kernel_rfl
theorem laidOut : laidOutB Try.prog = true := by kernel_rfl

theorem contract (H : Type) (enc : TypeId × Value → H) (W : World) (base : Nat) (args : Array Value) (ds gs : List (DataW H)) (before : List MemPlace)
    (hval : ∀ (j : Nat) t v, Try.f8.params[j]? = some t → args[j]? = some v → Value.okWide Try.prog W .any base t v)
    (hW : DataW.Whole enc Try.prog Try.f8.params.toList Rows.goalHonestSpec.vars false W args.toList ds gs before) (hk : Rows.uptoSmall H (ds ++ gs) = true) :
    Calls Try.prog 8 args W fun e W' => ∃ v, e = .returned v ∧ Rows.goalHonestSpec.post enc Try.prog Try.f8 false true false false W args v W' := by
  have hW' := hW
  obtain ⟨p, q, hA0, hV, rfl, hfz, hnd⟩ := hW
  have hA : DataW.TrodAll enc Try.prog W 0 (fun _ => true) true Try.f8.params.toList args.toList ds p := hA0
  rw [Try.params8] at hA hval
  obtain ⟨v0, vs0, d0, ds0, p0, q0, hargs, rfl, rfl, h0, r0⟩ := trodAll_cons hA
  obtain ⟨v1, vs1, d1, ds1, p1, q1, rfl, rfl, rfl, h1, r1⟩ := trodAll_cons r0
  obtain ⟨rfl, rfl, rfl⟩ := trodAll_nil r1
  obtain rfl : args = #[v0, v1] := by cases args; simp_all
  obtain ⟨rfl, rfl⟩ := trodVars_none hV
  have hb : Rows.uptoBulkAll [d0, d1] ≤ 1048576 := by simpa [Rows.uptoSmall] using hk
  obtain ⟨us0, rfl, -⟩ := okWide_struct Try.underlying45 (hval 0 45 v0 rfl rfl)
  obtain ⟨us1, rfl, -⟩ := okWide_struct Try.underlying47 (hval 1 47 v1 rfl rfl)
  obtain ⟨f0, h0⟩ := h0
  obtain ⟨f1, h1⟩ := h1
  obtain ⟨⟨⟨ba, ag⟩, ⟨bb, bad⟩⟩, -, b0, cv0⟩ := opens_cast (w := W) f0 enc _ _ h0
  obtain ⟨⟨k, ⟨bl, l⟩⟩, -, b1, cv1⟩ := opens_ses (w := W) f1 enc _ _ h1
  dsimp only at b0 b1
  simp only [Rows.uptoBulkAll] at hb
  have s0 := sum_ge (f := fun s : ByteArray => s.size + 1) (fun s => by omega) ag
  have s1 := sum_ge (f := fun s : ByteArray => s.size + 1) (fun s => by omega) bad
  have s2 := sum_ge (f := fun s : ByteArray => s.size + 1) (fun s => by omega) l
  refine true_post QS laidOut Try.underlying4 rfl (fun t ht => ?_) rfl ⟨rfl, rfl, rfl⟩ hW' (by simp only [PVs]; exact ⟨_, _, rfl, CV_agg cv0, _, _, rfl, CV_agg cv1, rfl⟩) (pc_GoalHonest (false, ba) (false, bb) ag bad (by omega) (fun a ha => by have := sum_mem (f := fun s : ByteArray => s.size + 1) ha; omega) k (false, bl) l (by omega))
  rw [Try.params8] at ht
  rcases List.mem_cons.1 ht with rfl | ht
  · exact ⟨by kernel_rfl, of_decide_eq_true (by kernel_rfl)⟩
  · rcases List.mem_cons.1 ht with rfl | ht
    · exact ⟨by kernel_rfl, of_decide_eq_true (by kernel_rfl)⟩
    · cases ht

set_option maxRecDepth 100000 in
theorem lifted (os : Os) (started : os.Started) (H : Type) (enc : TypeId × Value → H) (F : Stop.Interp) :
    ReturnsInHanded {} Try.checked os 8 .any ((Rows.OpenSpec.upto Rows.goalHonestSpec).pre6 enc Try.prog Try.f8 Rows.goalHonestUptoRow.domain false) (((Rows.OpenSpec.upto Rows.goalHonestSpec).at F).post enc Try.prog Try.f8 false true false false) := by
  refine returnsInHanded_of_cond (C := Try.checked) (s := Rows.OpenSpec.upto Rows.goalHonestSpec) (k := Rows.uptoSmall) rfl own started (by kernel_rfl) Try.func8
    (OpenSpec.witness (enc := enc) (C := Try.checked) (s := Rows.OpenSpec.upto Rows.goalHonestSpec) (k := Rows.uptoSmall) rfl false ⟨#[], #[.agg #[.slice none 0 0, .slice none 0 0], .agg #[.int .i64 0, .slice none 0 0]], []⟩ 8 (by kernel_rfl) (by kernel_rfl) (by kernel_rfl)
      (x := ([.agg [.nil, .nil], .agg [.lit (.int .i64 0), .nil]], [], [])) (by kernel_rfl) rfl (by kernel_rfl)) ?_
  intro W base args ds gs before hval hW _ hk _
  exact contract H enc W base args ds gs before hval hW hk

theorem over : Rows.goalHonestUptoRow.holds Try.pinned (Rows.OpenSpec.upto Rows.goalHonestSpec) :=
  OpenClaim.holds_of_cond 8 Try.f8 rfl rfl rfl rfl rfl rfl rfl ⟨rfl, rfl, rfl, rfl, rfl⟩ rfl rfl rfl rfl rfl (by kernel_rfl) Try.func8 (by kernel_rfl)
    (of_decide_eq_true (by kernel_rfl)) (by unfold Func.isWrapper; first | (rw [if_pos (by decide +kernel)]; kernel_rfl) | (rw [if_neg (by decide +kernel)]; exact ⟨rfl, rfl⟩))
    (fun os started H enc _ F => lifted os started H enc F)

theorem proved : Rows.GoalHonestUptoSaid :=
  over
#print axioms proved
end Go.Proofs.Ytpkegmgepnhfnaa.goalHonest
