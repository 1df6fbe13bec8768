/- Contracts: narrations with sorts (reference). -/
import Derived.Test.YtpkegmgepnhfnaaGreatV13
/- Contracts: terms in their scope (reference). -/
namespace Go.Abs.Q
open Go.Proofs
attribute [local simp] look_set_ne look_set_eq fin tupled code_loop Ends_brn Ends_grdt Ends_grdf toL_iff toL_dec raw_ref23_index raw_ref23_Names raw_ref23_role raw_ref23_private raw_ref23_public raw_ref23_kids raw_ref23_Term raw_ref23_step raw_ref23_goal raw_ref09_Is na_cells

theorem idx_ge (x : ByteArray) (l : List ByteArray) : (0 ≤ idx (eqS x) l) ↔ l.any (eqS x) = true := idxFrom_ge _ l 0
theorem idx_lt0 (x : ByteArray) (l : List ByteArray) : (idx (eqS x) l < 0) ↔ l.any (eqS x) = false := by
  have := idx_ge x l
  cases h : l.any (eqS x) with
  | true => rw [h] at this; simp at this; simp; omega
  | false => rw [h] at this; simp at this; simp; omega

theorem pc_ref09Is (t : Tm) (nm : ByteArray) : pc Q n_ref09_Is [tmV t, .str nm] = some (.bool (decide (t.kind = 3) && decide (t.name = nm))) := by
  refine pcQ res_ref09_Is rfl (by simp [x_ref09_Is]) fun fr hl ha => ?_
  have h0 := ha 0
  have h1 := ha 1
  clear ha
  simp [x_ref09_Is] at hl h0 h1
  simp +contextual (maxSteps := 10000000) [x_ref09_Is, hl, h0, h1]

theorem pc_index' (m : Bool × Bool) (l : List ByteArray) (x : ByteArray) (h : l.length ≤ 1048576) : pc Q n_ref23_index [sl m 1 (l.map AV.str), .str x] = some (.int .i64 (idx (eqS x) l)) := pc_index m l x (by omega)

theorem pc_rrole (n : Nar) (hr : n.roles.length ≤ 1048576) (t : Tm) : pc Q n_ref23_role [narV n, tmV t] = some (.bool (roleT n.roles t)) := by
  have hC := pc_index' n.rm n.roles t.name hr
  have hI := idx_ge t.name n.roles
  refine pcQ res_ref23_role rfl (by simp [x_ref23_role]) fun fr hl ha => ?_
  have h0 := ha 0
  have h1 := ha 1
  clear ha
  simp [x_ref23_role] at hl h0 h1
  unfold roleT
  generalize n.roles.any (eqS t.name) = b at *
  by_cases hk : t.kind = 2
  · cases b with
    | true =>
      simp [x_ref23_role, hl, h0, h1, hC, dec_t (hI.2 rfl), dec_t hk]
    | false =>
      simp [x_ref23_role, hl, h0, h1, hC, dec_f (show ¬0 ≤ idx (eqS t.name) n.roles from fun h => nomatch (hI.1 h)), dec_t hk]
  · simp [x_ref23_role, hl, h0, h1, dec_f hk]

theorem pc_rprivate (n : Nar) (hr : n.roles.length ≤ 1048576) (t : Tm) : pc Q n_ref23_private [narV n, tmV t] = some (.bool (privT n.roles t)) := by
  have hI := pc_ref09Is t (bs [115, 107])
  refine pcQ res_ref23_private rfl (by simp [x_ref23_private]) fun fr hl ha => ?_
  have h0 := ha 0
  have h1 := ha 1
  clear ha
  simp [x_ref23_private] at hl h0 h1
  by_cases hk : t.kind = 3
  · by_cases hn : t.name = bs [115, 107]
    · by_cases hl1 : (t.kids.length : Int) = 1
      · obtain ⟨a, hka⟩ := List.length_eq_one_iff.1 (show t.kids.length = 1 by omega)
        have hx : nth (tmVs t.kids) 0 = some (tmV a) := by rw [hka]; rfl
        have hf : fstB (roleT n.roles) t.kids = roleT n.roles a := by rw [hka]; rfl
        have hR := pc_rrole n hr a
        simp [x_ref23_private, hl, h0, h1, privT, appT, hI, dec_t hk, dec_t hn, dec_t hl1, hR, hx, hf]
      · simp [x_ref23_private, hl, h0, h1, privT, appT, hI, dec_t hk, dec_t hn, dec_f hl1]
    · simp [x_ref23_private, hl, h0, h1, privT, appT, hI, dec_t hk, dec_f hn]
  · simp [x_ref23_private, hl, h0, h1, privT, appT, hI, dec_f hk]

theorem pc_rpublic (n : Nar) (hr : n.roles.length ≤ 1048576) (t : Tm) : pc Q n_ref23_public [narV n, tmV t] = some (.bool (pubT n.roles t)) := by
  have hI := pc_ref09Is t (bs [112, 107])
  refine pcQ res_ref23_public rfl (by simp [x_ref23_public]) fun fr hl ha => ?_
  have h0 := ha 0
  have h1 := ha 1
  clear ha
  simp [x_ref23_public] at hl h0 h1
  by_cases hk : t.kind = 3
  · by_cases hn : t.name = bs [112, 107]
    · by_cases hl1 : (t.kids.length : Int) = 1
      · obtain ⟨a, hka⟩ := List.length_eq_one_iff.1 (show t.kids.length = 1 by omega)
        have hx : nth (tmVs t.kids) 0 = some (tmV a) := by rw [hka]; rfl
        have hf : fstB (privT n.roles) t.kids = privT n.roles a := by rw [hka]; rfl
        have hR := pc_rprivate n hr a
        simp [x_ref23_public, hl, h0, h1, pubT, appT, hI, dec_t hk, dec_t hn, dec_t hl1, hR, hx, hf]
      · simp [x_ref23_public, hl, h0, h1, pubT, appT, hI, dec_t hk, dec_t hn, dec_f hl1]
    · simp [x_ref23_public, hl, h0, h1, pubT, appT, hI, dec_t hk, dec_f hn]
  · simp [x_ref23_public, hl, h0, h1, pubT, appT, hI, dec_f hk]
end Go.Abs.Q

/- Contracts: the error of a term in its scope (reference). -/
namespace Go.Abs.Q
open Go.Proofs
attribute [local simp] look_set_ne look_set_eq fin tupled code_loop toL_iff toL_dec raw_ref23_index raw_ref23_Names raw_ref23_role raw_ref23_private raw_ref23_public raw_ref23_kids raw_ref23_Term na_cells

set_option maxHeartbeats 1000000 in
theorem pc_kids (n : Nar) (hr : n.roles.length ≤ 1048576) (t : Tm) (hk : t.kind = 3) : pc Q n_ref23_kids [narV n, tmV t] = some (.int .i64 (kidsT n.roles t)) := by
  have p6 := pc_rpublic n hr t
  have hv : kidsT n.roles t = if appT t (bs [112, 97, 105, 114]) 2 = true ∨ appT t (bs [101, 110, 99]) 2 = true then 2
      else if appT t (bs [104, 97, 115, 104]) 1 = true then 1
      else if (appT t (bs [97, 101, 110, 99]) 2 = true ∧ sndB (pubT n.roles) t.kids = true) ∨ (appT t (bs [115, 105, 103, 110]) 2 = true ∧ sndB (privT n.roles) t.kids = true) then 1
      else if pubT n.roles t = true ∨ shkT n.roles t = true then 0 else -1 := rfl
  have eA : ∀ (nm : ByteArray) (k : Int), appT t nm k = true ↔ t.name = nm ∧ (t.kids.length : Int) = k := fun nm k => by simp [appT, hk]
  generalize kidsT n.roles t = v at *
  refine pcQ res_ref23_kids rfl (by simp [x_ref23_kids]) fun fr hl ha => ?_
  have h0 := ha 0
  have h1 := ha 1
  clear ha
  simp [x_ref23_kids] at hl h0 h1
  by_cases h2 : (t.kids.length : Int) = 2
  · obtain ⟨x, y, hxy⟩ := kids_two (show t.kids.length = 2 by omega)
    have h1n : ¬(t.kids.length : Int) = 1 := by omega
    have n0 : nth (tmVs t.kids) 0 = some (tmV x) := by rw [hxy]; rfl
    have n1 : nth (tmVs t.kids) 1 = some (tmV y) := by rw [hxy]; rfl
    have c1 := pc_rpublic n hr y
    have c2 := pc_rprivate n hr y
    have c3 := pc_rrole n hr x
    have c4 := pc_rrole n hr y
    have b6 : pubT n.roles t = false := by simp [pubT, appT_len (show (t.kids.length : Int) ≠ 1 by omega)]
    have f1 : sndB (pubT n.roles) t.kids = pubT n.roles y := by rw [hxy]; rfl
    have f2 : sndB (privT n.roles) t.kids = privT n.roles y := by rw [hxy]; rfl
    have f3 : shkT n.roles t = true ↔ t.name = bs [115, 104, 107] ∧ roleT n.roles x = true ∧ roleT n.roles y = true ∧ x.name ≠ y.name := by
      simp only [shkT, Bool.and_eq_true, eA, hxy, fstB, sndB, difB, decide_eq_true_eq]
      simp [and_assoc]
    rw [b6] at p6
    simp only [eA, h2, and_true, b6, f1, f2, f3] at hv
    clear f1 f2 f3 b6 eA
    generalize pubT n.roles y = e1 at *
    generalize privT n.roles y = e2 at *
    generalize roleT n.roles x = e3 at *
    generalize roleT n.roles y = e4 at *
    by_cases m1 : t.name = bs [112, 97, 105, 114]
    · rw [if_pos (.inl m1)] at hv
      simp [x_ref23_kids, hl, h0, h1, dec_t m1, dec_t h2, hv]
    by_cases m2 : t.name = bs [101, 110, 99]
    · rw [if_pos (.inr m2)] at hv
      simp [x_ref23_kids, hl, h0, h1, dec_f m1, dec_t m2, dec_t h2, hv]
    rw [if_neg (by simp [m1, m2]), if_neg (by simp)] at hv
    by_cases m3 : t.name = bs [104, 97, 115, 104]
    · have m4 : ¬t.name = bs [97, 101, 110, 99] := by rw [m3]; decide
      have m5 : ¬t.name = bs [115, 105, 103, 110] := by rw [m3]; decide
      have m6 : ¬t.name = bs [115, 104, 107] := by rw [m3]; decide
      rw [if_neg (by simp [m4, m5]), if_neg (by simp [m6])] at hv
      simp [x_ref23_kids, hl, h0, h1, dec_f m1, dec_f m2, dec_t m3, dec_f m4, dec_f m5, dec_f m6, dec_f h1n, p6, hv]
    by_cases m4 : t.name = bs [97, 101, 110, 99]
    · have m5 : ¬t.name = bs [115, 105, 103, 110] := by rw [m4]; decide
      have m6 : ¬t.name = bs [115, 104, 107] := by rw [m4]; decide
      cases e1 with
      | true =>
        rw [if_pos (.inl ⟨m4, rfl⟩)] at hv
        simp [x_ref23_kids, hl, h0, h1, dec_f m1, dec_f m2, dec_f m3, dec_t m4, dec_t h2, n1, c1, hv]
      | false =>
        rw [if_neg (by simp [m5]), if_neg (by simp [m6])] at hv
        simp [x_ref23_kids, hl, h0, h1, dec_f m1, dec_f m2, dec_f m3, dec_t m4, dec_f m5, dec_f m6, dec_t h2, n1, c1, p6, hv]
    by_cases m5 : t.name = bs [115, 105, 103, 110]
    · have m6 : ¬t.name = bs [115, 104, 107] := by rw [m5]; decide
      cases e2 with
      | true =>
        rw [if_pos (.inr ⟨m5, rfl⟩)] at hv
        simp [x_ref23_kids, hl, h0, h1, dec_f m1, dec_f m2, dec_f m3, dec_f m4, dec_t m5, dec_t h2, n1, c2, hv]
      | false =>
        rw [if_neg (by simp [m4]), if_neg (by simp [m6])] at hv
        simp [x_ref23_kids, hl, h0, h1, dec_f m1, dec_f m2, dec_f m3, dec_f m4, dec_t m5, dec_f m6, dec_t h2, n1, c2, p6, hv]
    rw [if_neg (by simp [m4, m5])] at hv
    by_cases m6 : t.name = bs [115, 104, 107]
    · cases e3 with
      | false =>
        simp at hv
        simp [x_ref23_kids, hl, h0, h1, dec_f m1, dec_f m2, dec_f m3, dec_f m4, dec_f m5, dec_t m6, dec_t h2, n0, c3, p6, hv]
      | true =>
        cases e4 with
        | false =>
          simp at hv
          simp [x_ref23_kids, hl, h0, h1, dec_f m1, dec_f m2, dec_f m3, dec_f m4, dec_f m5, dec_t m6, dec_t h2, n0, n1, c3, c4, p6, hv]
        | true =>
          by_cases m7 : x.name = y.name
          · simp [m7] at hv
            simp [x_ref23_kids, hl, h0, h1, dec_f m1, dec_f m2, dec_f m3, dec_f m4, dec_f m5, dec_t m6, dec_t m7, dec_t h2, n0, n1, c3, c4, p6, hv]
          · simp [m6, m7] at hv
            simp [x_ref23_kids, hl, h0, h1, dec_f m1, dec_f m2, dec_f m3, dec_f m4, dec_f m5, dec_t m6, dec_f m7, dec_t h2, n0, n1, c3, c4, p6, hv]
    · simp [m6] at hv
      simp [x_ref23_kids, hl, h0, h1, dec_f m1, dec_f m2, dec_f m3, dec_f m4, dec_f m5, dec_f m6, p6, hv]
  · have b7 : shkT n.roles t = false := by simp [shkT, appT_len h2]
    simp only [eA, h2, and_false, false_or, false_and, if_false, b7] at hv
    generalize pubT n.roles t = b6 at *
    by_cases m3 : t.name = bs [104, 97, 115, 104] ∧ (t.kids.length : Int) = 1
    · rw [if_pos m3] at hv
      by_cases m1 : t.name = bs [112, 97, 105, 114]
      · exact absurd (m1.symm.trans m3.1) (by decide)
      by_cases m2 : t.name = bs [101, 110, 99]
      · exact absurd (m2.symm.trans m3.1) (by decide)
      simp [x_ref23_kids, hl, h0, h1, dec_f m1, dec_f m2, dec_t m3.1, dec_t m3.2, hv]
    · have m3' := m3
      clear m3
      rw [if_neg m3'] at hv
      by_cases m1 : t.name = bs [112, 97, 105, 114]
      · have m2 : ¬t.name = bs [101, 110, 99] := by rw [m1]; decide
        have m3 : ¬t.name = bs [104, 97, 115, 104] := by rw [m1]; decide
        have m4 : ¬t.name = bs [97, 101, 110, 99] := by rw [m1]; decide
        have m5 : ¬t.name = bs [115, 105, 103, 110] := by rw [m1]; decide
        have m6 : ¬t.name = bs [115, 104, 107] := by rw [m1]; decide
        cases b6 <;> simp [x_ref23_kids, hl, h0, h1, dec_t m1, dec_f m2, dec_f m3, dec_f m4, dec_f m5, dec_f m6, dec_f h2, p6, hv]
      by_cases m2 : t.name = bs [101, 110, 99]
      · have m3 : ¬t.name = bs [104, 97, 115, 104] := by rw [m2]; decide
        have m4 : ¬t.name = bs [97, 101, 110, 99] := by rw [m2]; decide
        have m5 : ¬t.name = bs [115, 105, 103, 110] := by rw [m2]; decide
        have m6 : ¬t.name = bs [115, 104, 107] := by rw [m2]; decide
        cases b6 <;> simp [x_ref23_kids, hl, h0, h1, dec_f m1, dec_t m2, dec_f m3, dec_f m4, dec_f m5, dec_f m6, dec_f h2, p6, hv]
      by_cases m3 : t.name = bs [104, 97, 115, 104]
      · have m4 : ¬t.name = bs [97, 101, 110, 99] := by rw [m3]; decide
        have m5 : ¬t.name = bs [115, 105, 103, 110] := by rw [m3]; decide
        have m6 : ¬t.name = bs [115, 104, 107] := by rw [m3]; decide
        have h1n : ¬(t.kids.length : Int) = 1 := fun h => m3' ⟨m3, h⟩
        cases b6 <;> simp [x_ref23_kids, hl, h0, h1, dec_f m1, dec_f m2, dec_t m3, dec_f m4, dec_f m5, dec_f m6, p6, hv, dec_f h1n]
      by_cases m4 : t.name = bs [97, 101, 110, 99]
      · have m5 : ¬t.name = bs [115, 105, 103, 110] := by rw [m4]; decide
        have m6 : ¬t.name = bs [115, 104, 107] := by rw [m4]; decide
        cases b6 <;> simp [x_ref23_kids, hl, h0, h1, dec_f m1, dec_f m2, dec_f m3, dec_t m4, dec_f m5, dec_f m6, dec_f h2, p6, hv]
      by_cases m5 : t.name = bs [115, 105, 103, 110]
      · have m6 : ¬t.name = bs [115, 104, 107] := by rw [m5]; decide
        cases b6 <;> simp [x_ref23_kids, hl, h0, h1, dec_f m1, dec_f m2, dec_f m3, dec_f m4, dec_t m5, dec_f m6, dec_f h2, p6, hv]
      by_cases m6 : t.name = bs [115, 104, 107]
      · cases b6 <;> simp [x_ref23_kids, hl, h0, h1, dec_f m1, dec_f m2, dec_f m3, dec_f m4, dec_f m5, dec_t m6, dec_f h2, p6, hv]
      cases b6 <;> simp [x_ref23_kids, hl, h0, h1, dec_f m1, dec_f m2, dec_f m3, dec_f m4, dec_f m5, dec_f m6, p6, hv]
end Go.Abs.Q

/- Contracts: the error of a term, a step, a goal in their scope (reference). -/
namespace Go.Abs.Q
open Go.Proofs
attribute [local simp] look_set_ne look_set_eq fin tupled code_loop toL_iff toL_dec raw_ref23_index raw_ref23_Names raw_ref23_kids raw_ref23_Term raw_ref23_step raw_ref23_goal na_cells

theorem kidsT_le (rs : List ByteArray) (t : Tm) : kidsT rs t ≤ t.kids.length ∧ -1 ≤ kidsT rs t := by
  unfold kidsT
  have e2 : ∀ (nm : ByteArray) (k : Int), appT t nm k = true → (t.kids.length : Int) = k := fun nm k h => by simp [appT] at h; exact h.2
  split
  · rename_i h
    rcases h with h | h <;> have := e2 _ _ h <;> omega
  · split
    · rename_i h
      have := e2 _ _ h
      omega
    · split
      · rename_i h
        rcases h with h | h <;> have := e2 _ _ h.1 <;> omega
      · split <;> omega

theorem loop_rTerm (na : Nar) (ns rs : List ByteArray) (l' l : List Tm) (hl' : l'.length ≤ 1099511627776) (hll : ∃ c : Nat, l = l'.take c ∧ c ≤ l'.length) (IH : ∀ t ∈ l, pc Q n_ref23_Term [narV na, tmV t] = some (.int .i64 (scoT ns rs t))) (t : Tm) (ht : t.kids = l') (fr : Fr) (h : AH) (hh : h = ⟨[(narV na).cells, (tmV t).cells], []⟩) (hl : fr.length = 43) (h2 : look fr 2 = .ptr 0 0) (h3 : look fr 3 = .ptr 1 0) (h7 : look fr 7 = .int .i64 l.length) (h8 : look fr 8 = .int .i64 0) :
    Ends (lp (evalCode (lim Q) (ctxF n_ref23_Term) x_ref23_Term_0) (fr, h)) fun e fr' h' => Kp x_ref23_Term_0.wr fr fr' ∧ (e = .exit 0 ∧ firstE (scoT ns rs) l = 0 ∨ e = .ret ∧ look fr' 4 = .int .i64 (firstE (scoT ns rs) l)) := by
  refine Ends_lpw rfl fr (fun n fr h' => ∃ (i : Nat), i + n = l.length ∧ look fr 8 = .int .i64 (i : Nat) ∧ h' = ⟨[(narV na).cells, (tmV t).cells], []⟩ ∧ firstE (scoT ns rs) (l.drop i) = firstE (scoT ns rs) l) ?_ l.length h ⟨0, by omega, h8, hh, rfl⟩
  rintro J Φ hJ hΦ n fr1 H1 K ⟨i, hi, k8, hr⟩
  have hl1 : fr1.length = 43 := K.1.trans hl
  have k2 := (K.2 2 (by decide)).trans h2
  have k3 := (K.2 3 (by decide)).trans h3
  have k7 := (K.2 7 (by decide)).trans h7
  clear K
  by_cases hlt : i < l.length
  · have hlen : l.length ≤ 1099511627776 := by obtain ⟨c, rfl, hc⟩ := hll; rw [List.length_take]; omega
    have hwp : IntKind.i64.wrap ((i : Int) + 1) = (i : Int) + 1 := wrap_id (by omega) (by omega)
    obtain ⟨rfl, hr⟩ := hr
    have hlt' : i < l'.length := by obtain ⟨c, rfl, hc⟩ := hll; rw [List.length_take] at hlt; omega
    have he : l[i] = l'[i] := by obtain ⟨c, rfl, hc⟩ := hll; simp
    have hx := nth_tm hlt'
    rw [← he, ← ht] at hx
    have hI := IH l[i] (List.getElem_mem hlt)
    rw [List.drop_eq_getElem_cons hlt] at hr
    simp only [firstE] at hr
    generalize l[i] = a at *
    generalize scoT ns rs a = v at *
    by_cases hz : v = 0
    · rw [if_neg (by simp [hz])] at hr
      simp [x_ref23_Term_0, hl1, k2, k3, k7, k8, hlt, hwp, hx, hI, hz]
      exact ⟨n - 1, by omega, hJ _ _ _ ⟨i + 1, by omega, by simp [hl1], by simp [na_cells], hr⟩⟩
    · rw [if_pos hz] at hr
      simp [x_ref23_Term_0, hl1, k2, k3, k7, k8, hlt, hx, hI, hz]
      exact hΦ _ _ _ (.inr ⟨rfl, by simp [hl1, hr]⟩)
  · obtain ⟨_, hr⟩ := hr
    rw [List.drop_eq_nil_of_le (by omega)] at hr
    simp [x_ref23_Term_0, hl1, k7, k8, hlt]
    exact hΦ _ _ _ (.inl ⟨rfl, hr.symm⟩)

theorem pc_rTerm (na : Nar) (S : Lens na) : ∀ (n : Nat) (t : Tm), t.size ≤ n → t.size ≤ 1099511627776 → pc Q n_ref23_Term [narV na, tmV t] = some (.int .i64 (scoT (namesN na) na.roles t)) := by
  have s0 := S.names
  intro n
  induction n with
  | zero => intro t h; have := t.size_pos; omega
  | succ n ih =>
    intro t hn hb
    have hsz := t.kids_size
    have hlen := Tm.length_le t.kids
    have hE := scoT_eq (namesN na) na.roles t
    obtain ⟨kl, kg⟩ := kidsT_le na.roles t
    obtain ⟨r, hNm, m, m', rfl⟩ := pc_Names na ⟨by omega, by omega, by omega⟩
    have hI := pc_index' m (namesN na) t.name (by simp [namesN]; omega)
    have hge := idx_lt0 t.name (namesN na)
    have hlp := loop_rTerm na (namesN na) na.roles t.kids (t.kids.take (kidsT na.roles t).toNat) (by omega) ⟨(kidsT na.roles t).toNat, rfl, by omega⟩ (fun a ha => ih a (by have := Tm.size_le (List.mem_of_mem_take ha); omega) (by have := Tm.size_le (List.mem_of_mem_take ha); omega)) t rfl
    have hKl : (t.kids.take (kidsT na.roles t).toNat).length = (kidsT na.roles t).toNat := by rw [List.length_take]; omega
    clear ih
    have hK : t.kind = 3 → pc Q n_ref23_kids [narV na, tmV t] = some (.int .i64 (kidsT na.roles t)) := pc_kids na (by omega) t
    generalize scoT (namesN na) na.roles t = v at *
    unfold strsV at hNm
    generalize hkt : kidsT na.roles t = kt at *
    refine pcQ res_ref23_Term rfl (by simp [x_ref23_Term]) fun fr hl ha => ?_
    have h0 := ha 0
    have h1 := ha 1
    clear ha
    simp [x_ref23_Term] at hl h0 h1
    by_cases hk : t.kind = 3
    · rw [if_neg (by simp [hk])] at hE
      have hK := hK hk
      by_cases hz : kt < 0
      · rw [if_pos hz] at hE
        simp [x_ref23_Term, hl, h0, h1, dec_t hk, hK, dec_t hz, hE]
      · rw [if_neg hz] at hE
        simp [x_ref23_Term, hl, h0, h1, dec_t hk, hK, dec_f hz]
        have e : (kt.toNat : Int) = kt := by omega
        rw [hKl, e] at hlp
        refine Ends.mono (hlp _ _ ?_ ?_ ?_ ?_ ?_ ?_) ?_ <;> first | (simp [hl]; done) | skip
        rintro e fr1 h1' ⟨K, ⟨rfl, hz⟩ | ⟨rfl, k4⟩⟩
        · have hlfr1 : fr1.length = 43 := K.1.trans (by simp [hl])
          clear K
          simp [hlfr1, hE, hz]
        · simp [k4, hE]
    · rw [if_pos hk] at hE
      cases hb' : (namesN na).any (eqS t.name) with
      | true =>
        rw [hb'] at hge hE
        simp [x_ref23_Term, hl, h0, h1, dec_f hk, hNm, hI, dec_f (show ¬idx (eqS t.name) (namesN na) < 0 from fun h => nomatch (hge.1 h)), hE]
      | false =>
        rw [hb'] at hge hE
        simp [x_ref23_Term, hl, h0, h1, dec_f hk, hNm, hI, dec_t (hge.2 rfl), hE]

theorem pc_rstep (na : Nar) (S : Lens na) (s : Ste) (hs : s.msg.size ≤ 1099511627776) : pc Q n_ref23_step [narV na, stV s] = some (.int .i64 (scoS (namesN na) na.roles s)) := by
  have s0 := S.names
  have hT := pc_rTerm na S _ s.msg (Nat.le_refl _) hs
  have c1 := pc_index' na.rm na.roles s.frm (by omega)
  have c2 := pc_index' na.rm na.roles s.to (by omega)
  have g1 := idx_lt0 s.frm na.roles
  have g2 := idx_lt0 s.to na.roles
  have hE : scoS (namesN na) na.roles s = if twoE na.roles s.frm s.to ≠ 0 then twoE na.roles s.frm s.to else scoT (namesN na) na.roles s.msg := rfl
  have hE2 : twoE na.roles s.frm s.to = if na.roles.any (eqS s.frm) = true ∧ na.roles.any (eqS s.to) = true then (if s.frm = s.to then 1 else 0) else 13 := rfl
  generalize scoS (namesN na) na.roles s = v at *
  generalize scoT (namesN na) na.roles s.msg = v2 at *
  generalize twoE na.roles s.frm s.to = v3 at *
  generalize na.roles.any (eqS s.frm) = b1 at *
  generalize na.roles.any (eqS s.to) = b2 at *
  generalize idx (eqS s.frm) na.roles = i1 at *
  generalize idx (eqS s.to) na.roles = i2 at *
  refine pcQ res_ref23_step rfl (by simp [x_ref23_step]) fun fr hl ha => ?_
  have h0 := ha 0
  have h1 := ha 1
  clear ha
  simp [x_ref23_step] at hl h0 h1
  have q1 : b1 = true → ¬i1 < 0 := fun h h' => by rw [h] at g1; exact nomatch (g1.1 h')
  have q2 : b2 = true → ¬i2 < 0 := fun h h' => by rw [h] at g2; exact nomatch (g2.1 h')
  cases b1 with
  | false =>
    simp at hE2
    simp [hE2] at hE
    simp [x_ref23_step, hl, h0, h1, c1, dec_t (g1.2 rfl), hE]
  | true =>
    cases b2 with
    | false =>
      simp at hE2
      simp [hE2] at hE
      simp [x_ref23_step, hl, h0, h1, c1, dec_f (q1 rfl), c2, dec_t (g2.2 rfl), hE]
    | true =>
      by_cases he : s.frm = s.to
      · simp [he] at hE2
        simp [hE2] at hE
        simp [x_ref23_step, hl, h0, h1, c1, dec_f (q1 rfl), c2, dec_f (q2 rfl), dec_t he, hE]
      · simp [he] at hE2
        simp [hE2] at hE
        simp [x_ref23_step, hl, h0, h1, c1, dec_f (q1 rfl), c2, dec_f (q2 rfl), dec_f he, hT, hE]

theorem loop_rgoal (na : Nar) (ns rs : List ByteArray) (g : Gol) (hlen : g.data.length ≤ 1099511627776) (IH : ∀ t ∈ g.data, pc Q n_ref23_Term [narV na, tmV t] = some (.int .i64 (scoT ns rs t))) (fr : Fr) (h : AH) (hh : h = ⟨[(narV na).cells, (goV g).cells], []⟩) (hl : fr.length = 49) (h2 : look fr 2 = .ptr 0 0) (h3 : look fr 3 = .ptr 1 0) (h5 : look fr 5 = .int .i64 0) :
    Ends (lp (evalCode (lim Q) (ctxF n_ref23_goal) x_ref23_goal_0) (fr, h)) fun e fr' h' => Kp x_ref23_goal_0.wr fr fr' ∧ (e = .exit 0 ∧ firstE (scoT ns rs) g.data = 0 ∨ e = .ret ∧ look fr' 4 = .int .i64 (firstE (scoT ns rs) g.data)) := by
  refine Ends_lpw rfl fr (fun n fr h' => ∃ (i : Nat), i + n = g.data.length ∧ look fr 5 = .int .i64 (i : Nat) ∧ h' = ⟨[(narV na).cells, (goV g).cells], []⟩ ∧ firstE (scoT ns rs) (g.data.drop i) = firstE (scoT ns rs) g.data) ?_ g.data.length h ⟨0, by omega, h5, hh, rfl⟩
  rintro J Φ hJ hΦ n fr1 H1 K ⟨i, hi, k5, hr⟩
  have hl1 : fr1.length = 49 := K.1.trans hl
  have k2 := (K.2 2 (by decide)).trans h2
  have k3 := (K.2 3 (by decide)).trans h3
  clear K
  by_cases hlt : i < g.data.length
  · have hwp : IntKind.i64.wrap ((i : Int) + 1) = (i : Int) + 1 := wrap_id (by omega) (by omega)
    obtain ⟨rfl, hr⟩ := hr
    have hx := nth_tm hlt
    have hI := IH g.data[i] (List.getElem_mem hlt)
    rw [List.drop_eq_getElem_cons hlt] at hr
    simp only [firstE] at hr
    generalize g.data[i] = a at *
    generalize scoT ns rs a = v at *
    by_cases hz : v = 0
    · rw [if_neg (by simp [hz])] at hr
      simp [x_ref23_goal_0, hl1, k2, k3, k5, hlt, hwp, hx, hI, hz]
      exact ⟨n - 1, by omega, hJ _ _ _ ⟨i + 1, by omega, by simp [hl1], by simp [na_cells], hr⟩⟩
    · rw [if_pos hz] at hr
      simp [x_ref23_goal_0, hl1, k2, k3, k5, hlt, hx, hI, hz]
      exact hΦ _ _ _ (.inr ⟨rfl, by simp [hl1, hr]⟩)
  · obtain ⟨rfl, hr⟩ := hr
    rw [List.drop_eq_nil_of_le (by omega)] at hr
    simp [x_ref23_goal_0, hl1, k3, k5, hlt]
    exact hΦ _ _ _ (.inl ⟨rfl, hr.symm⟩)

theorem pc_rgoal (na : Nar) (S : Lens na) (g : Gol) (hd : Tm.sizes g.data ≤ 1099511627776) : pc Q n_ref23_goal [narV na, goV g] = some (.int .i64 (scoG (namesN na) na.roles g)) := by
  have s0 := S.names
  have hlen := Tm.length_le g.data
  have c1 := pc_index' na.rm na.roles g.role (by omega)
  have c2 := pc_index' na.rm na.roles g.wth (by omega)
  have g1 := idx_lt0 g.role na.roles
  have g2 := idx_lt0 g.wth na.roles
  have hlp := loop_rgoal na (namesN na) na.roles g (by omega) (fun t ht => pc_rTerm na S _ t (Nat.le_refl _) (by have := Tm.size_le ht; omega))
  have hE : scoG (namesN na) na.roles g = if na.roles.any (eqS g.role) = false then 13 else if agrB g = true ∧ twoE na.roles g.role g.wth ≠ 0 then twoE na.roles g.role g.wth else firstE (scoT (namesN na) na.roles) g.data := rfl
  have hE2 : twoE na.roles g.role g.wth = if na.roles.any (eqS g.role) = true ∧ na.roles.any (eqS g.wth) = true then (if g.role = g.wth then 1 else 0) else 13 := rfl
  have hA : agrB g = (decide (g.kind = 2) || decide (g.kind = 3)) := rfl
  generalize scoG (namesN na) na.roles g = v at *
  generalize firstE (scoT (namesN na) na.roles) g.data = v2 at *
  generalize twoE na.roles g.role g.wth = v3 at *
  generalize na.roles.any (eqS g.role) = b1 at *
  generalize na.roles.any (eqS g.wth) = b2 at *
  generalize idx (eqS g.role) na.roles = i1 at *
  generalize idx (eqS g.wth) na.roles = i2 at *
  generalize agrB g = ab at *
  refine pcQ res_ref23_goal rfl (by simp [x_ref23_goal]) fun fr hl ha => ?_
  have h0 := ha 0
  have h1 := ha 1
  clear ha
  simp [x_ref23_goal] at hl h0 h1
  have q1 : b1 = true → ¬i1 < 0 := fun h h' => by rw [h] at g1; exact nomatch (g1.1 h')
  have q2 : b2 = true → ¬i2 < 0 := fun h h' => by rw [h] at g2; exact nomatch (g2.1 h')
  cases b1 with
  | false =>
    simp at hE
    simp [x_ref23_goal, hl, h0, h1, c1, dec_t (g1.2 rfl), hE]
  | true =>
    have key : ∀ (fr1 : Fr), v = v2 → fr1.length = 49 → look fr1 2 = .ptr 0 0 → look fr1 3 = .ptr 1 0 → look fr1 5 = .int .i64 0 →
        Ends (lp (evalCode (lim Q) (ctxF n_ref23_goal) x_ref23_goal_0) (fr1, ⟨[[.str na.name, sl na.rm 1 (na.roles.map .str), sl na.fm 3 (na.fresh.map frV), sl na.tm 1 (na.tags.map .str), sl na.sm 7 (na.steps.map stV), sl na.gm 5 (na.goals.map goV)], [.int .i64 g.kind, .str g.role, .str g.wth, sl g.dm 4 (tmVs g.data), .int .i64 g.line]], []⟩)) (BL 0 (SQ (lim Q) (ctxF n_ref23_goal) (.seq (.region false [⟨some 4, .mov (.c (.int .i64 0)), none⟩]) .ret) (FIN [.tmp 4] (.int .i64 v)))) := by
      rintro fr1 rfl hl q2 q3 q5
      refine Ends.mono (hlp fr1 _ rfl hl q2 q3 q5) ?_
      rintro e fr2 h2 ⟨K, ⟨rfl, hz⟩ | ⟨rfl, k4⟩⟩
      · have hl2 : fr2.length = 49 := K.1.trans hl
        simp [hl2, hz]
      · simp [k4]
    have cases2 : ab = true → ((b2 = false ∧ v = 13) ∨ (b2 = true ∧ g.wth = g.role ∧ v = 1) ∨ (b2 = true ∧ ¬g.wth = g.role ∧ v = v2)) := by
      intro h
      subst h
      cases b2 with
      | false =>
        simp at hE2
        simp [hE2] at hE
        exact .inl ⟨rfl, hE⟩
      | true =>
        by_cases he : g.role = g.wth
        · simp [he] at hE2
          simp [hE2] at hE
          exact .inr (.inl ⟨rfl, he.symm, hE⟩)
        · simp [he] at hE2
          simp [hE2] at hE
          exact .inr (.inr ⟨rfl, fun h => he h.symm, hE⟩)
    by_cases k2 : g.kind = 2
    · rcases cases2 (by simp [hA, k2]) with ⟨rfl, hv⟩ | ⟨rfl, he, hv⟩ | ⟨rfl, he, hv⟩
      · simp [x_ref23_goal, hl, h0, h1, c1, dec_f (q1 rfl), dec_t k2, c2, dec_t (g2.2 rfl), hv]
      · simp [x_ref23_goal, hl, h0, h1, c1, dec_f (q1 rfl), dec_t k2, c2, dec_f (q2 rfl), dec_t he, hv]
      · simp [x_ref23_goal, hl, h0, h1, c1, dec_f (q1 rfl), dec_t k2, c2, dec_f (q2 rfl), dec_f he]
        exact key _ hv (by simp [hl]) (by simp [hl]) (by simp [hl]) (by simp [hl])
    · by_cases k3 : g.kind = 3
      · rcases cases2 (by simp [hA, k3]) with ⟨rfl, hv⟩ | ⟨rfl, he, hv⟩ | ⟨rfl, he, hv⟩
        · simp [x_ref23_goal, hl, h0, h1, c1, dec_f (q1 rfl), dec_f k2, dec_t k3, c2, dec_t (g2.2 rfl), hv]
        · simp [x_ref23_goal, hl, h0, h1, c1, dec_f (q1 rfl), dec_f k2, dec_t k3, c2, dec_f (q2 rfl), dec_t he, hv]
        · simp [x_ref23_goal, hl, h0, h1, c1, dec_f (q1 rfl), dec_f k2, dec_t k3, c2, dec_f (q2 rfl), dec_f he]
          exact key _ hv (by simp [hl]) (by simp [hl]) (by simp [hl]) (by simp [hl])
      · have ea : ab = false := by simp [hA, k2, k3]
        simp [ea] at hE
        simp [x_ref23_goal, hl, h0, h1, c1, dec_f (q1 rfl), dec_f k2, dec_f k3]
        exact key _ hE (by simp [hl]) (by simp [hl]) (by simp [hl]) (by simp [hl])
end Go.Abs.Q

/- Contracts: the error of the names (reference). -/
namespace Go.Abs.Q
open Go.Proofs
attribute [local simp] look_set_ne look_set_eq fin tupled code_loop toL_iff toL_dec raw_ref23_index raw_ref23_Names raw_ref23_declared na_cells

theorem loop_rdec0 (m : Bool × Bool) (ns : List ByteArray) (j : Nat) (a : ByteArray) (ha : ns[j]? = some a) (hs : a.size ≤ 1099511627776) (fr : Fr) (h : AH) (hl : fr.length = 92) (h3 : look fr 3 = sl m 1 (ns.map .str)) (h5 : look fr 5 = .int .i64 (j : Nat)) (h7 : look fr 7 = .int .i64 0) :
    Ends (lp (evalCode (lim Q) (ctxF n_ref23_declared) x_ref23_declared_0) (fr, h)) fun e fr' h' => Kp x_ref23_declared_0.wr fr fr' ∧ (e = .exit 2 ∧ h' = h ∧ hashB a = false ∨ e = .ret ∧ look fr' 2 = .int .i64 2 ∧ hashB a = true) := by
  refine Ends_lpw rfl fr (fun n fr h' => ∃ (i : Nat), i + n = (bys a).length ∧ look fr 7 = .int .i64 (i : Nat) ∧ h' = h ∧ ((bys a).drop i).contains 35 = hashB a) ?_ (bys a).length h ⟨0, by omega, h7, rfl, rfl⟩
  rintro J Φ hJ hΦ n fr1 H1 K ⟨i, hi, k7, hr⟩
  have hl1 : fr1.length = 92 := K.1.trans hl
  have k3 := (K.2 3 (by decide)).trans h3
  have k5 := (K.2 5 (by decide)).trans h5
  clear K
  by_cases hlt : i < (bys a).length
  · have hsz := bys_len a
    have hwp : IntKind.i64.wrap ((i : Int) + 1) = (i : Int) + 1 := wrap_id (by omega) (by omega)
    obtain ⟨rfl, hr⟩ := hr
    have hx := nth_map (f := AV.str) ha
    have hlt' : i < a.size := by omega
    have hsi : a[i]'hlt' = (bys a)[i] := by
      have := bys_get a i
      rw [getElem?_pos a i hlt', List.getElem?_eq_getElem hlt] at this
      exact Option.some.inj this
    rw [List.drop_eq_getElem_cons hlt, List.contains_cons] at hr
    generalize (bys a)[i] = c at *
    by_cases hc : c = 35
    · subst hc
      simp [x_ref23_declared_0, hl1, k3, k5, k7, hx, hlt', hsi]
      exact hΦ _ _ _ (.inr ⟨rfl, by simp [hl1], by rw [← hr]; rfl⟩)
    · have hc' : ¬(c.toNat : Int) = 35 := fun h => hc (UInt8.toNat_inj.1 (by have : (35 : UInt8).toNat = 35 := rfl; omega))
      have hb : (35 == c) = false := by simp; exact fun h => hc h.symm
      rw [hb, Bool.false_or] at hr
      simp [x_ref23_declared_0, hl1, k3, k5, k7, hwp, hx, hlt', hsi, hc']
      exact ⟨n - 1, by omega, hJ _ _ _ ⟨i + 1, by omega, by simp [hl1], rfl, hr⟩⟩
  · have hsz := bys_len a
    obtain ⟨rfl, hr⟩ := hr
    rw [List.drop_eq_nil_of_le (by omega)] at hr
    have hx := nth_map (f := AV.str) ha
    have hlt' : ¬i < a.size := by omega
    simp [x_ref23_declared_0, hl1, k3, k5, k7, hx, hlt']
    exact hΦ _ _ _ (.inl ⟨rfl, rfl, hr.symm⟩)

theorem ent_get (na : Nar) {i : Nat} (hi : i < (namesN na).length) : ∃ f, (entN na)[i]? = some ((namesN na)[i], f) ∧
    ((i < na.roles.length ∧ f = none) ∨ (na.roles.length ≤ i ∧ ∃ h : i - na.roles.length < na.fresh.length, f = some (na.fresh[i - na.roles.length]).role) ∨ (na.roles.length + na.fresh.length ≤ i ∧ f = none)) := by
  have hn : (namesN na)[i]? = some (namesN na)[i] := List.getElem?_eq_getElem hi
  generalize (namesN na)[i] = a at *
  unfold namesN at hn hi
  unfold entN
  by_cases h1 : i < na.roles.length
  · rw [List.append_assoc, List.getElem?_append_left h1] at hn
    refine ⟨none, ?_, .inl ⟨h1, rfl⟩⟩
    rw [List.append_assoc, List.getElem?_append_left (by simpa using h1), List.getElem?_map, hn]
    rfl
  · by_cases h2 : i - na.roles.length < na.fresh.length
    · rw [List.append_assoc, List.getElem?_append_right (by omega), List.getElem?_append_left (by simpa using h2), List.getElem?_map, List.getElem?_eq_getElem h2] at hn
      simp only [Option.map_some, Option.some.injEq] at hn
      subst hn
      refine ⟨some (na.fresh[i - na.roles.length]).role, ?_, .inr (.inl ⟨by omega, h2, rfl⟩)⟩
      rw [List.append_assoc, List.getElem?_append_right (by simp; omega), List.length_map, List.getElem?_append_left (by simpa using h2), List.getElem?_map, List.getElem?_eq_getElem h2]
      rfl
    · rw [List.append_assoc, List.getElem?_append_right (by omega), List.getElem?_append_right (by simp; omega)] at hn
      refine ⟨none, ?_, .inr (.inr ⟨by omega, rfl⟩)⟩
      rw [List.append_assoc, List.getElem?_append_right (by simp; omega), List.getElem?_append_right (by simp; omega)]
      simp only [List.length_map, List.getElem?_map] at hn ⊢
      rw [hn]
      rfl

theorem drop_get {α : Type} {l : List α} {i : Nat} {x : α} (h : l[i]? = some x) : l.drop i = x :: l.drop (i + 1) := by
  obtain ⟨h1, h2⟩ := List.getElem?_eq_some_iff.1 h
  subst h2
  exact List.drop_eq_getElem_cons h1

theorem loop_rdec1 (m : Bool × Bool) (na : Nar) (S : Lens na) (hs : ∀ a ∈ namesN na, a.size ≤ 1099511627776) (fr : Fr) (h : AH) (hh : h = ⟨[(narV na).cells], []⟩) (hl : fr.length = 92) (h1 : look fr 1 = .ptr 0 0) (h3 : look fr 3 = sl m 1 ((namesN na).map .str)) (h5 : look fr 5 = .int .i64 0) :
    Ends (lp (evalCode (lim Q) (ctxF n_ref23_declared) x_ref23_declared_1) (fr, h)) fun e fr' h' => Kp x_ref23_declared_1.wr fr fr' ∧ (e = .exit 0 ∧ decE na = 0 ∨ e = .ret ∧ look fr' 2 = .int .i64 (decE na)) := by
  refine Ends_lpw rfl fr (fun n fr h' => ∃ (i : Nat), i + n = (namesN na).length ∧ look fr 5 = .int .i64 (i : Nat) ∧ h' = ⟨[(narV na).cells], []⟩ ∧ decL na.roles ((namesN na).take i) ((entN na).drop i) = decE na) ?_ (namesN na).length h ⟨0, by omega, h5, hh, rfl⟩
  rintro J Φ hJ hΦ n fr1 H1 K ⟨i, hi, k5, hr⟩
  have hl1 : fr1.length = 92 := K.1.trans hl
  have k1 := (K.2 1 (by decide)).trans h1
  have k3 := (K.2 3 (by decide)).trans h3
  clear K
  by_cases hlt : i < (namesN na).length
  · have s0 := S.names
    have hnl : (namesN na).length = na.roles.length + na.fresh.length + na.tags.length := by simp [namesN]; omega
    have hwp : IntKind.i64.wrap ((i : Int) + 1) = (i : Int) + 1 := wrap_id (by omega) (by omega)
    obtain ⟨rfl, hr⟩ := hr
    have hx := nth_map (f := AV.str) (List.getElem?_eq_getElem hlt)
    obtain ⟨f, hg, hf⟩ := ent_get na hlt
    rw [drop_get hg] at hr
    have hin := List.getElem?_eq_getElem hlt
    have hsz := hs _ (List.getElem_mem hlt)
    have hlp := loop_rdec0 m (namesN na) i (namesN na)[i] hin hsz
    have hsl := slc_take ⟨[(narV na).cells], []⟩ m 1 (by omega) ((namesN na).map .str) i (by simp; omega)
    obtain ⟨m2, hsl⟩ : ∃ m2, slcA ⟨[(narV na).cells], []⟩ 1 (sl m 1 ((namesN na).map .str)) (some none) (some (some (i : Int))) (some none) = some (sl m2 1 (((namesN na).take i).map .str), ⟨[(narV na).cells], []⟩) := ⟨_, by rw [hsl, List.map_take]⟩
    rw [na_cells, List.map_take] at hsl
    have hI := pc_index' m2 ((namesN na).take i) (namesN na)[i] (by rw [List.length_take]; omega)
    rw [List.map_take] at hI
    have hge := idx_ge (namesN na)[i] ((namesN na).take i)
    have hnx : ∀ b, nxtE ((namesN na).take i) (namesN na)[i] b = if hashB (namesN na)[i] = true then 2 else if b = true ∧ ((namesN na)[i] = bs [101] ∨ (namesN na)[i] = bs [103]) then 1 else if ((namesN na).take i).any (eqS (namesN na)[i]) = true then 5 else 0 := fun _ => rfl
    have htk : (namesN na).take i ++ [(namesN na)[i]] = (namesN na).take (i + 1) := by rw [List.take_succ_eq_append_getElem hlt]
    generalize (namesN na)[i] = a at *
    generalize hP : ((namesN na).take i).any (eqS a) = pb at *
    generalize hD : decE na = D at *
    have i1 : pb = true → 0 ≤ idx (eqS a) ((namesN na).take i) := fun h => hge.2 h
    have i2 : pb = false → ¬0 ≤ idx (eqS a) ((namesN na).take i) := fun h h' => by rw [h] at hge; exact nomatch (hge.1 h')
    clear hge
    rcases hf with ⟨c1, rfl⟩ | ⟨c1, c2, rfl⟩ | ⟨c1, rfl⟩
    · have d1 : ¬(na.roles.length : Int) ≤ (i : Int) := by omega
      rw [decL_none, htk, hnx] at hr
      simp only [Bool.false_eq_true, false_and, if_false] at hr
      simp [x_ref23_declared_1, hl1, k1, k3, k5, hlt, dec_f (show ¬na.roles.length ≤ i by omega)]
      refine Ends.mono (hlp _ _ ?_ ?_ ?_ ?_) ?_ <;> first | (simp [hl1, k3, k5]; done) | skip
      rintro e fr2 h2 ⟨K, ⟨rfl, rfl, hh2⟩ | ⟨rfl, k2, hh2⟩⟩
      · have hlfr2 : fr2.length = 92 := K.1.trans (by simp [hl1])
        have k1fr2 : look fr2 1 = .ptr 0 0 := (K.2 1 (by decide)).trans (by simp [k1])
        have k3fr2 : look fr2 3 = sl m 1 ((namesN na).map .str) := (K.2 3 (by decide)).trans (by simp [k3])
        have k5fr2 : look fr2 5 = .int .i64 (i : Nat) := (K.2 5 (by decide)).trans (by simp [k5])
        have k6fr2 : look fr2 6 = .bool false := (K.2 6 (by decide)).trans (by simp [hl1])
        clear K
        rw [hh2] at hr
        cases pb with
        | true =>
          simp at hr
          simp [hlfr2, k3fr2, k5fr2, k6fr2, hx, hsl, hI, dec_t (i1 rfl)]
          exact hΦ _ _ _ (.inr ⟨rfl, by simp [hlfr2, hr]⟩)
        | false =>
          simp at hr
          simp [hlfr2, k3fr2, k5fr2, k6fr2, hx, hsl, hI, dec_f (i2 rfl), hwp]
          exact ⟨n - 1, by omega, hJ _ _ _ ⟨i + 1, by omega, by simp [hlfr2], by rw [na_cells], hr⟩⟩
      · rw [hh2] at hr
        simp at hr
        simp
        exact hΦ _ _ _ (.inr ⟨rfl, by rw [k2, hr]⟩)
    · have d1 : (na.roles.length : Int) ≤ (i : Int) := by omega
      have w1 : IntKind.i64.wrap ((na.roles.length : Int) + (na.fresh.length : Int)) = (na.roles.length : Int) + (na.fresh.length : Int) := wrap_id (by omega) (by omega)
      have w2 : IntKind.i64.wrap ((i : Int) - (na.roles.length : Int)) = (i : Int) - (na.roles.length : Int) := wrap_id (by omega) (by omega)
      have d2 : (i : Int) < (na.roles.length : Int) + (na.fresh.length : Int) := by omega
      have hfx := nth_map (f := frV) (List.getElem?_eq_getElem c2)
      have ei : ((i : Int) - (na.roles.length : Int)).toNat = i - na.roles.length := by omega
      have hC := pc_index' na.rm na.roles (na.fresh[i - na.roles.length]).role (by omega)
      have hlt2 := idx_lt0 (na.fresh[i - na.roles.length]).role na.roles
      have d3 : (0 : Int) ≤ (i : Int) - (na.roles.length : Int) := by omega
      rw [decL_some, htk, hnx] at hr
      generalize na.fresh[i - na.roles.length] = fx at *
      generalize na.roles.any (eqS fx.role) = rb at *
      have r1 : rb = true → ¬idx (eqS fx.role) na.roles < 0 := fun h h' => by rw [h] at hlt2; exact nomatch (hlt2.1 h')
      simp [x_ref23_declared_1, hl1, k1, k3, k5, hlt, dec_t (show na.roles.length ≤ i by omega), w1, dec_t d2]
      refine Ends.mono (hlp _ _ ?_ ?_ ?_ ?_) ?_ <;> first | (simp [hl1, k3, k5]; done) | skip
      rintro e fr2 h2 ⟨K, ⟨rfl, rfl, hh2⟩ | ⟨rfl, k2, hh2⟩⟩
      · have hlfr2 : fr2.length = 92 := K.1.trans (by simp [hl1])
        have k1fr2 : look fr2 1 = .ptr 0 0 := (K.2 1 (by decide)).trans (by simp [k1])
        have k3fr2 : look fr2 3 = sl m 1 ((namesN na).map .str) := (K.2 3 (by decide)).trans (by simp [k3])
        have k5fr2 : look fr2 5 = .int .i64 (i : Nat) := (K.2 5 (by decide)).trans (by simp [k5])
        have k6fr2 : look fr2 6 = .bool true := (K.2 6 (by decide)).trans (by simp [hl1])
        clear K
        rw [hh2] at hr
        by_cases he : a = bs [101]
        · rw [if_neg (c := false = true) (by simp), if_pos (c := true = true ∧ (a = bs [101] ∨ a = bs [103])) ⟨rfl, .inl he⟩] at hr
          simp at hr
          simp [hlfr2, k3fr2, k5fr2, k6fr2, hx, dec_t he]
          exact hΦ _ _ _ (.inr ⟨rfl, by simp [hlfr2, hr]⟩)
        by_cases he2 : a = bs [103]
        · rw [if_neg (c := false = true) (by simp), if_pos (c := true = true ∧ (a = bs [101] ∨ a = bs [103])) ⟨rfl, .inr he2⟩] at hr
          simp at hr
          simp [hlfr2, k3fr2, k5fr2, k6fr2, hx, dec_f he, dec_t he2]
          exact hΦ _ _ _ (.inr ⟨rfl, by simp [hlfr2, hr]⟩)
        simp only [he, he2, or_self, and_false, Bool.false_eq_true, if_false] at hr
        cases pb with
        | true =>
          simp at hr
          simp [hlfr2, k3fr2, k5fr2, k6fr2, hx, dec_f he, dec_f he2, hsl, hI, dec_t (i1 rfl)]
          exact hΦ _ _ _ (.inr ⟨rfl, by simp [hlfr2, hr]⟩)
        | false =>
          cases rb with
          | true =>
            simp at hr
            simp [hlfr2, k1fr2, k3fr2, k5fr2, k6fr2, hx, dec_f he, dec_f he2, hsl, hI, dec_f (i2 rfl), hwp, w2, hfx, ei, c1, hC, dec_f (r1 rfl)]
            exact ⟨n - 1, by omega, hJ _ _ _ ⟨i + 1, by omega, by simp [hlfr2], by rw [na_cells], hr⟩⟩
          | false =>
            simp at hr
            simp [hlfr2, k1fr2, k3fr2, k5fr2, k6fr2, hx, dec_f he, dec_f he2, hsl, hI, dec_f (i2 rfl), w2, hfx, ei, c1, hC, dec_t (hlt2.2 rfl)]
            exact hΦ _ _ _ (.inr ⟨rfl, by simp [hlfr2, hr]⟩)
      · rw [hh2] at hr
        simp at hr
        simp
        exact hΦ _ _ _ (.inr ⟨rfl, by rw [k2, hr]⟩)
    · have d1 : (na.roles.length : Int) ≤ (i : Int) := by omega
      have w1 : IntKind.i64.wrap ((na.roles.length : Int) + (na.fresh.length : Int)) = (na.roles.length : Int) + (na.fresh.length : Int) := wrap_id (by omega) (by omega)
      have d2 : ¬(i : Int) < (na.roles.length : Int) + (na.fresh.length : Int) := by omega
      rw [decL_none, htk, hnx] at hr
      simp only [Bool.false_eq_true, false_and, if_false] at hr
      simp [x_ref23_declared_1, hl1, k1, k3, k5, hlt, dec_t (show na.roles.length ≤ i by omega), w1, dec_f d2]
      refine Ends.mono (hlp _ _ ?_ ?_ ?_ ?_) ?_ <;> first | (simp [hl1, k3, k5]; done) | skip
      rintro e fr2 h2 ⟨K, ⟨rfl, rfl, hh2⟩ | ⟨rfl, k2, hh2⟩⟩
      · have hlfr2 : fr2.length = 92 := K.1.trans (by simp [hl1])
        have k1fr2 : look fr2 1 = .ptr 0 0 := (K.2 1 (by decide)).trans (by simp [k1])
        have k3fr2 : look fr2 3 = sl m 1 ((namesN na).map .str) := (K.2 3 (by decide)).trans (by simp [k3])
        have k5fr2 : look fr2 5 = .int .i64 (i : Nat) := (K.2 5 (by decide)).trans (by simp [k5])
        have k6fr2 : look fr2 6 = .bool false := (K.2 6 (by decide)).trans (by simp [hl1])
        clear K
        rw [hh2] at hr
        cases pb with
        | true =>
          simp at hr
          simp [hlfr2, k3fr2, k5fr2, k6fr2, hx, hsl, hI, dec_t (i1 rfl)]
          exact hΦ _ _ _ (.inr ⟨rfl, by simp [hlfr2, hr]⟩)
        | false =>
          simp at hr
          simp [hlfr2, k3fr2, k5fr2, k6fr2, hx, hsl, hI, dec_f (i2 rfl), hwp]
          exact ⟨n - 1, by omega, hJ _ _ _ ⟨i + 1, by omega, by simp [hlfr2], by rw [na_cells], hr⟩⟩
      · rw [hh2] at hr
        simp at hr
        simp
        exact hΦ _ _ _ (.inr ⟨rfl, by rw [k2, hr]⟩)
  · obtain ⟨rfl, hr⟩ := hr
    have hel : (entN na).length = (namesN na).length := by simp [entN, namesN]
    rw [List.drop_eq_nil_of_le (by omega)] at hr
    simp only [decL] at hr
    simp [x_ref23_declared_1, hl1, k3, k5, hlt]
    exact hΦ _ _ _ (.inl ⟨rfl, hr.symm⟩)

theorem pc_rdeclared (na : Nar) (F : Fine na) (S : Lens na) : pc Q n_ref23_declared [narV na] = some (.int .i64 (decE na)) := by
  have s0 := S.names
  obtain ⟨r, hNm, m, m', rfl⟩ := pc_Names na ⟨by omega, by omega, by omega⟩
  unfold strsV at hNm
  have hlp := loop_rdec1 m na S (fun a ha => by
    unfold namesN at ha
    simp only [List.mem_append, List.mem_map] at ha
    rcases ha with (ha | ⟨f, hf, rfl⟩) | ha
    · exact F.roles a ha
    · exact (F.fresh f hf).2
    · exact F.tags a ha)
  generalize decE na = D at *
  refine pcQ res_ref23_declared rfl (by simp [x_ref23_declared]) fun fr hl ha => ?_
  have h0 := ha 0
  clear ha
  simp [x_ref23_declared] at hl h0
  simp [x_ref23_declared, hl, h0, hNm]
  refine Ends.mono (hlp _ _ ?_ ?_ ?_ ?_ ?_) ?_ <;> first | (simp [hl]; done) | skip
  rintro e fr1 h1' ⟨K, ⟨rfl, hz⟩ | ⟨rfl, k4⟩⟩
  · have hlfr1 : fr1.length = 92 := K.1.trans (by simp [hl])
    clear K
    simp [hlfr1, hz]
  · simp [k4]
end Go.Abs.Q

/- Contracts: the error of a narration in its scope (reference). -/
namespace Go.Abs.Q
open Go.Proofs
attribute [local simp] look_set_ne look_set_eq fin tupled code_loop raw_ref23_step raw_ref23_goal raw_ref23_Check raw_ref22_Valid raw_ref23_declared na_cells

theorem loop_rChk1 (na : Nar) (ns rs : List ByteArray) (hlen : na.steps.length ≤ 1099511627776) (IH : ∀ s ∈ na.steps, pc Q n_ref23_step [narV na, stV s] = some (.int .i64 (scoS ns rs s))) (fr : Fr) (h : AH) (hh : h = ⟨[(narV na).cells], []⟩) (hl : fr.length = 66) (h1 : look fr 1 = .ptr 0 0) (h6 : look fr 6 = .int .i64 0) :
    Ends (lp (evalCode (lim Q) (ctxF n_ref23_Check) x_ref23_Check_1) (fr, h)) fun e fr' h' => Kp x_ref23_Check_1.wr fr fr' ∧ (e = .exit 0 ∧ h' = h ∧ lineE (scoS ns rs) Ste.line na.steps = (0, 0) ∨ e = .ret ∧ look fr' 2 = .int .i64 (lineE (scoS ns rs) Ste.line na.steps).1 ∧ look fr' 3 = .int .i64 (lineE (scoS ns rs) Ste.line na.steps).2 ∧ lineE (scoS ns rs) Ste.line na.steps ≠ (0, 0)) := by
  refine Ends_lpw rfl fr (fun n fr h' => ∃ (i : Nat), i + n = na.steps.length ∧ look fr 6 = .int .i64 (i : Nat) ∧ h' = ⟨[(narV na).cells], []⟩ ∧ lineE (scoS ns rs) Ste.line (na.steps.drop i) = lineE (scoS ns rs) Ste.line na.steps) ?_ na.steps.length h ⟨0, by omega, h6, hh, rfl⟩
  rintro J Φ hJ hΦ n fr1 H1 K ⟨i, hi, k6, hr⟩
  have hl1 : fr1.length = 66 := K.1.trans hl
  have k1 := (K.2 1 (by decide)).trans h1
  clear K
  by_cases hlt : i < na.steps.length
  · have hwp : IntKind.i64.wrap ((i : Int) + 1) = (i : Int) + 1 := wrap_id (by omega) (by omega)
    obtain ⟨rfl, hr⟩ := hr
    have hx := nth_map (f := stV) (List.getElem?_eq_getElem hlt)
    have hI := IH na.steps[i] (List.getElem_mem hlt)
    rw [List.drop_eq_getElem_cons hlt] at hr
    simp only [lineE] at hr
    generalize na.steps[i] = t at *
    generalize scoS ns rs t = z at *
    generalize hgl : lineE (scoS ns rs) Ste.line na.steps = L at *
    by_cases hz : z = 0
    · rw [if_neg (by simp [hz])] at hr
      simp [x_ref23_Check_1, hl1, k1, k6, hlt, hwp, hx, hI, hz]
      exact ⟨n - 1, by omega, hJ _ _ _ ⟨i + 1, by omega, by simp [hl1], by simp [na_cells], hr⟩⟩
    · rw [if_pos hz] at hr
      simp [x_ref23_Check_1, hl1, k1, k6, hlt, hx, hI, hz]
      exact hΦ _ _ _ (.inr ⟨rfl, by simp [hl1, ← hr], by simp [hl1, ← hr], by simp [← hr, hz]⟩)
  · obtain ⟨rfl, hr⟩ := hr
    rw [List.drop_eq_nil_of_le (by omega)] at hr
    simp [x_ref23_Check_1, hl1, k1, k6, hlt]
    exact hΦ _ _ _ (.inl ⟨rfl, by rw [hh, na_cells], hr.symm⟩)

theorem loop_rChk0 (na : Nar) (ns rs : List ByteArray) (hlen : na.goals.length ≤ 1099511627776) (IH : ∀ s ∈ na.goals, pc Q n_ref23_goal [narV na, goV s] = some (.int .i64 (scoG ns rs s))) (fr : Fr) (h : AH) (hh : h = ⟨[(narV na).cells], []⟩) (hl : fr.length = 66) (h1 : look fr 1 = .ptr 0 0) (h8 : look fr 8 = .int .i64 0) :
    Ends (lp (evalCode (lim Q) (ctxF n_ref23_Check) x_ref23_Check_0) (fr, h)) fun e fr' h' => Kp x_ref23_Check_0.wr fr fr' ∧ (e = .exit 2 ∧ lineE (scoG ns rs) Gol.line na.goals = (0, 0) ∨ e = .ret ∧ look fr' 2 = .int .i64 (lineE (scoG ns rs) Gol.line na.goals).1 ∧ look fr' 3 = .int .i64 (lineE (scoG ns rs) Gol.line na.goals).2) := by
  refine Ends_lpw rfl fr (fun n fr h' => ∃ (i : Nat), i + n = na.goals.length ∧ look fr 8 = .int .i64 (i : Nat) ∧ h' = ⟨[(narV na).cells], []⟩ ∧ lineE (scoG ns rs) Gol.line (na.goals.drop i) = lineE (scoG ns rs) Gol.line na.goals) ?_ na.goals.length h ⟨0, by omega, h8, hh, rfl⟩
  rintro J Φ hJ hΦ n fr1 H1 K ⟨i, hi, k8, hr⟩
  have hl1 : fr1.length = 66 := K.1.trans hl
  have k1 := (K.2 1 (by decide)).trans h1
  clear K
  by_cases hlt : i < na.goals.length
  · have hwp : IntKind.i64.wrap ((i : Int) + 1) = (i : Int) + 1 := wrap_id (by omega) (by omega)
    obtain ⟨rfl, hr⟩ := hr
    have hx := nth_map (f := goV) (List.getElem?_eq_getElem hlt)
    have hI := IH na.goals[i] (List.getElem_mem hlt)
    rw [List.drop_eq_getElem_cons hlt] at hr
    simp only [lineE] at hr
    generalize na.goals[i] = t at *
    generalize scoG ns rs t = z at *
    generalize hgl : lineE (scoG ns rs) Gol.line na.goals = L at *
    by_cases hz : z = 0
    · rw [if_neg (by simp [hz])] at hr
      simp [x_ref23_Check_0, hl1, k1, k8, hlt, hwp, hx, hI, hz]
      exact ⟨n - 1, by omega, hJ _ _ _ ⟨i + 1, by omega, by simp [hl1], by simp [na_cells], hr⟩⟩
    · rw [if_pos hz] at hr
      simp [x_ref23_Check_0, hl1, k1, k8, hlt, hx, hI, hz]
      exact hΦ _ _ _ (.inr ⟨rfl, by simp [hl1, ← hr], by simp [hl1, ← hr]⟩)
  · obtain ⟨rfl, hr⟩ := hr
    rw [List.drop_eq_nil_of_le (by omega)] at hr
    simp [x_ref23_Check_0, hl1, k1, k8, hlt]
    exact hΦ _ _ _ (.inl ⟨rfl, hr.symm⟩)

theorem pc_rCheck (n : Nar) (F : Fine n) (S : Lens n) : pc Q n_ref23_Check [narV n] = some (.tup [.int .i64 (scoE n).1, .int .i64 (scoE n).2]) := by
  have hV := pc_refnarValid n F
  have hD := pc_rdeclared n F S
  have q1 := loop_rChk1 n (namesN n) n.roles F.stepsL (fun s hs => pc_rstep n S s (F.steps s hs).2.2)
  have q2 := loop_rChk0 n (namesN n) n.roles F.goalsL (fun g hg => pc_rgoal n S g (F.goals g hg).2.2)
  have hE : scoE n = if narE n ≠ 0 then (0, narE n) else if decE n ≠ 0 then (0, decE n)
    else if lineE (scoS (namesN n) n.roles) Ste.line n.steps ≠ (0, 0) then lineE (scoS (namesN n) n.roles) Ste.line n.steps else lineE (scoG (namesN n) n.roles) Gol.line n.goals := rfl
  generalize scoE n = z at *
  generalize narE n = e1 at *
  generalize decE n = e2 at *
  generalize lineE (scoS (namesN n) n.roles) Ste.line n.steps = L1 at *
  generalize lineE (scoG (namesN n) n.roles) Gol.line n.goals = L2 at *
  refine pcQ res_ref23_Check rfl (by simp [x_ref23_Check]) fun fr hl ha => ?_
  have h0 := ha 0
  clear ha
  simp [x_ref23_Check] at hl h0
  by_cases z1 : e1 = 0
  · rw [if_neg (by simp [z1])] at hE
    by_cases z2 : e2 = 0
    · rw [if_neg (by simp [z2])] at hE
      simp [x_ref23_Check, hl, h0, hV, z1, hD, z2]
      refine Ends.mono (q1 _ _ ?_ ?_ ?_ ?_) ?_ <;> first | (simp [hl]; done) | rfl | skip
      rintro e fr1 h1 ⟨K, ⟨rfl, rfl, hz⟩ | ⟨rfl, k2, k3, hz⟩⟩
      · have hlfr1 : fr1.length = 66 := K.1.trans (by simp [hl])
        have k1fr1 : look fr1 1 = .ptr 0 0 := (K.2 1 (by decide)).trans (by simp [hl])
        clear K
        rw [if_neg (by simp [hz])] at hE
        simp
        refine Ends.mono (q2 _ _ ?_ ?_ ?_ ?_) ?_ <;> first | (simp [hlfr1, k1fr1]; done) | rfl | skip
        rintro e fr2 h2 ⟨K, ⟨rfl, hz⟩ | ⟨rfl, k2, k3⟩⟩
        · have hlfr2 : fr2.length = 66 := K.1.trans (by simp [hlfr1])
          clear K
          simp [hlfr2, hE, hz]
        · simp [k2, k3, hE]
      · rw [if_pos hz] at hE
        simp [k2, k3, hE]
    · rw [if_pos z2] at hE
      simp [x_ref23_Check, hl, h0, hV, z1, hD, z2, hE]
  · rw [if_pos z1] at hE
    simp [x_ref23_Check, hl, h0, hV, z1, hE]
end Go.Abs.Q

/- Contracts: terms with sorts (reference). -/
namespace Go.Abs.Q
open Go.Proofs
attribute [local simp] look_set_ne look_set_eq fin tupled code_loop raw_ref23_index raw_ref23_Names raw_ref23_sorted na_cells

theorem Grw_frz1 {sz : Nat} {acc : List AV} {v : AV} {h : AH} (hg : Grw sz acc v h) : ∃ m, frz1 h true v = some (sl m sz acc) := by
  obtain ⟨m, hm⟩ := Grw_frz hg
  refine ⟨m, ?_⟩
  rcases hg with ⟨rfl, rfl⟩ | ⟨_, k, rfl, _⟩ <;> exact hm
theorem Grw_frzB {sz : Nat} {acc : List AV} {v : AV} {h : AH} (hg : Grw sz acc v h) : ∃ m, ∀ B : List (List AV), frz1 ⟨B, h.fams⟩ true v = some (sl m sz acc) := by
  rcases hg with ⟨rfl, rfl⟩ | ⟨_, k, rfl, h3⟩
  · exact ⟨(true, false), fun B => by rw [frz1_nil]; exact congrArg some (sl_nil_any _ rfl _ _)⟩
  · exact ⟨_, fun B => frz_row (h := ⟨B, h.fams⟩) h3 rfl⟩
mutual
/-- Are the names of all atoms known? -/
def knT (ns : List ByteArray) : Tm → Bool
  | .mk k nm _ _ l => (decide (k ≠ 2) || ns.any (eqS nm)) && knTs ns l
def knTs (ns : List ByteArray) : List Tm → Bool
  | [] => true
  | t :: l => knT ns t && knTs ns l
end
theorem knTs_mem (ns : List ByteArray) {l : List Tm} (h : knTs ns l = true) : ∀ t ∈ l, knT ns t = true := by
  induction l with
  | nil => intro t ht; cases ht
  | cons a l ih =>
    simp only [knTs, Bool.and_eq_true] at h
    intro t ht
    rcases List.mem_cons.1 ht with rfl | ht
    · exact h.1
    · exact ih h.2 t ht
@[simp] theorem tm_flatA (t : Tm) : flatA (tmV t) = true := by cases t; rfl

theorem loop_sorted (na : Nar) (f : ByteArray → Int) (m : Bool × Bool) (l : List Tm) (hlen : l.length ≤ 1099511627776) (IH : ∀ t ∈ l, ∃ t', pc Q n_ref23_sorted [narV na, tmV t] = some (tmV t') ∧ erT t' = srtT f t) (x0 x1 x2 : AV) (C : List AV) (fr : Fr) (h : AH) (hh : h.boxes = [(narV na).cells, [x0, x1, x2, sl m 4 (tmVs l)], C]) (h7 : look fr 7 = .vs true 0 []) (hl : fr.length = 45) (h2 : look fr 2 = .ptr 0 0) (h3 : look fr 3 = .ptr 1 0) (h8 : look fr 8 = .int .i64 0) :
    Ends (lp (evalCode (lim Q) (ctxF n_ref23_sorted) x_ref23_sorted_0) (fr, h)) fun e fr' h' => Kp x_ref23_sorted_0.wr fr fr' ∧ e = .exit 0 ∧ h'.boxes = h.boxes ∧ ∃ done : List Tm, Grw 4 (tmVs done) (look fr' 7) h' ∧ erTs done = srtTs f l := by
  refine Ends_lpw rfl fr (fun n fr h' => ∃ (i : Nat), i + n = l.length ∧ look fr 8 = .int .i64 (i : Nat) ∧ h'.boxes = h.boxes ∧ (∃ done : List Tm, Grw 4 (tmVs done) (look fr 7) h' ∧ erTs done = srtTs f (l.take i) ∧ done.length = i)) ?_ l.length h ⟨0, by omega, h8, rfl, [], by rw [h7]; exact Grw_nil _ _, by simp [erTs, srtTs], rfl⟩
  rintro J Φ hJ hΦ n fr1 H1 K ⟨i, hi, k8, hr⟩
  have hl1 : fr1.length = 45 := K.1.trans hl
  have k2 := (K.2 2 (by decide)).trans h2
  have k3 := (K.2 3 (by decide)).trans h3
  clear K
  by_cases hlt : i < l.length
  · have hwp : IntKind.i64.wrap ((i : Int) + 1) = (i : Int) + 1 := wrap_id (by omega) (by omega)
    obtain ⟨hB, done, hg, hd, hdl⟩ := hr
    obtain ⟨bx, fams⟩ := H1
    rw [hh] at hB hJ
    simp only at hB
    subst hB
    have hx := nth_tm hlt
    obtain ⟨t', hI, ht⟩ := IH l[i] (List.getElem_mem hlt)
    obtain ⟨v', h', ha, hg', hbx⟩ := Grw_one (c := ctxF n_ref23_sorted) (bytes := 56) (x := tmV t') hg rfl (true, true) (by simp; omega) (by simp; omega)
    have e2 : erTs (done ++ [t']) = srtTs f (l.take (i + 1)) := by
      rw [List.take_succ_eq_append_getElem hlt, erTs_map, List.map_append, ← erTs_map, hd, srtTs_map, srtTs_map, List.map_append, List.map_cons, List.map_nil, List.map_cons, List.map_nil, ht]
    have hg2 : Grw 4 (tmVs (done ++ [t'])) v' h' := by rw [tmVs_app1]; exact hg'
    clear ht hd
    generalize l[i] = t at *
    rw [na_cells] at ha
    simp [x_ref23_sorted_0, hl1, k2, k3, k8, hlt, hwp, hx, hI, sliceParts, ha]
    exact ⟨n - 1, by omega, hJ _ _ _ ⟨i + 1, by omega, by simp [hl1], by rw [hbx, na_cells], done ++ [t'], by simp [hl1]; exact hg2, e2, by simp [hdl]⟩⟩
  · obtain ⟨hB, done, hg, hd, hdl⟩ := hr
    obtain ⟨bx, fams⟩ := H1
    rw [hh] at hB hΦ
    simp only at hB
    subst hB
    rw [List.take_of_length_le (by omega)] at hd
    simp [x_ref23_sorted_0, hl1, k3, k8, hlt]
    exact hΦ _ _ _ ⟨rfl, by rw [na_cells], done, by simp; exact hg, hd⟩

theorem pc_sorted (na : Nar) (S : Lens na) : ∀ (n : Nat) (t : Tm), t.size ≤ n → t.size ≤ 1099511627776 → nodesE t = 0 → knT (namesN na) t = true → ∃ t', pc Q n_ref23_sorted [narV na, tmV t] = some (tmV t') ∧ erT t' = srtT (lookS (namesN na) (sortsN na)) t := by
  have s0 := S.names
  intro n
  induction n with
  | zero => intro t h; have := t.size_pos; omega
  | succ n ih =>
    intro t hn hb hne hkn
    obtain ⟨k, nm, s, m, kids⟩ := t
    have hsz : Tm.size (.mk k nm s m kids) = 1 + Tm.sizes kids := rfl
    have hlen := Tm.length_le kids
    obtain ⟨hne1, hne2⟩ := nodes_kids hne
    simp only [knT, Bool.and_eq_true, Bool.or_eq_true, decide_eq_true_eq] at hkn
    have hkm := knTs_mem _ hkn.2
    have hlp := loop_sorted na (lookS (namesN na) (sortsN na)) m kids (by omega) (fun t ht => ih t (by have := Tm.size_le ht; omega) (by have := Tm.size_le ht; omega) (nodesEs_mem hne2 t ht) (hkm t ht))
    clear ih
    obtain ⟨r, hNm, m1, m2, rfl⟩ := pc_Names na ⟨by omega, by omega, by omega⟩
    unfold strsV at hNm
    have hI := pc_index' m1 (namesN na) nm (by simp [namesN]; omega)
    suffices h : ∃ v, pc Q n_ref23_sorted [narV na, tmV (.mk k nm s m kids)] = some v ∧ ∃ t', v = tmV t' ∧ erT t' = srtT (lookS (namesN na) (sortsN na)) (.mk k nm s m kids) by
      obtain ⟨v, h1, t', rfl, h2⟩ := h
      exact ⟨t', h1, h2⟩
    refine pc_ends_ex (C := Q) ((Q_spec _).trans rfl) ((Q_code _).trans res_ref23_sorted) (by simp [x_ref23_sorted]) fun Ψ hΨ fr hl ha => ?_
    rw [Q_ctx]
    have h0 := ha 0
    have h1 := ha 1
    clear ha
    simp [x_ref23_sorted, tmV] at hl h0 h1
    by_cases hk : k = 2
    · have hany : (namesN na).any (eqS nm) = true := by
        rcases hkn.1 with h | h
        · exact absurd hk h
        · exact h
      have hge : 0 ≤ idx (eqS nm) (namesN na) := (idx_ge _ _).2 hany
      have hlt : idx (eqS nm) (namesN na) < (0 : Nat) + (namesN na).length := idxFrom_lt (eqS nm) (namesN na) 0
      have hix : (idx (eqS nm) (namesN na)).toNat < (sortsN na).length := by rw [← namesN_len]; omega
      have hx := nth_map (f := AV.int .i64) (List.getElem?_eq_getElem hix)
      have hls : lookS (namesN na) (sortsN na) nm = (sortsN na)[(idx (eqS nm) (namesN na)).toNat] := by
        unfold lookS
        rw [if_pos hany, List.getD_eq_getElem?_getD, List.getElem?_eq_getElem hix]
        rfl
      rw [← hls] at hx
      simp [x_ref23_sorted, hl, h0, h1, dec_t hk, hNm, hI, hge, hx]
      refine Ends.mono (hlp (.int .i64 k) (.str nm) (.int .i64 (lookS (namesN na) (sortsN na) nm)) [.int .i64 0, .str (bs []), .int .i64 0, .vs true 0 []] _ _ ?_ ?_ ?_ ?_ ?_ ?_) ?_ <;> first | (simp [hl]; done) | skip
      rintro e fr1 ⟨bx, fams⟩ ⟨K, rfl, hB, done, hg, hd⟩
      simp only at hB
      subst hB
      have hlfr1 : fr1.length = 45 := K.1.trans (by simp [hl])
      have k3fr1 : look fr1 3 = .ptr 1 0 := (K.2 3 (by decide)).trans (by simp [hl])
      have k4fr1 : look fr1 4 = .ptr 2 0 := (K.2 4 (by decide)).trans (by simp [hl])
      clear K
      obtain ⟨c1, c2, c3⟩ := Grw_cells hg
      obtain ⟨mm, hz⟩ := Grw_frzB hg
      generalize hv7 : look fr1 7 = v7 at *
      simp [hlfr1, k3fr1, k4fr1, hv7, c1, c2, hz]
      exact hΨ _ ⟨.mk k nm (lookS (namesN na) (sortsN na) nm) mm done, rfl, by simp [erT, srtT, hk, hd]⟩
    · simp [x_ref23_sorted, hl, h0, h1, dec_f hk]
      refine Ends.mono (hlp (.int .i64 k) (.str nm) (.int .i64 s) [.int .i64 0, .str (bs []), .int .i64 0, .vs true 0 []] _ _ ?_ ?_ ?_ ?_ ?_ ?_) ?_ <;> first | (simp [hl]; done) | skip
      rintro e fr1 ⟨bx, fams⟩ ⟨K, rfl, hB, done, hg, hd⟩
      simp only at hB
      subst hB
      have hlfr1 : fr1.length = 45 := K.1.trans (by simp [hl])
      have k3fr1 : look fr1 3 = .ptr 1 0 := (K.2 3 (by decide)).trans (by simp [hl])
      have k4fr1 : look fr1 4 = .ptr 2 0 := (K.2 4 (by decide)).trans (by simp [hl])
      clear K
      obtain ⟨c1, c2, c3⟩ := Grw_cells hg
      obtain ⟨mm, hz⟩ := Grw_frzB hg
      generalize hv7 : look fr1 7 = v7 at *
      simp [hlfr1, k3fr1, k4fr1, hv7, c1, c2, hz]
      exact hΨ _ ⟨.mk k nm s mm done, rfl, by simp [erT, srtT, hk, hd]⟩
end Go.Abs.Q

/- Contracts: narrations with sorts (reference). -/
namespace Go.Abs.Q
open Go.Proofs
attribute [local simp] look_set_ne look_set_eq fin tupled code_loop raw_ref23_sorted raw_ref23_Check raw_ref23_Resolve

/-- A list that grows in a heap whose older rows stay. -/
structure Grx (sz : Nat) (acc : List AV) (v : AV) (h0 h : AH) : Prop where
  g : Grw sz acc v h
  low : ∀ j, j < h0.fams.length → h.fams[j]? = h0.fams[j]?
  row : ∀ k n o l, v = .sl k n o l → h0.fams.length ≤ k

theorem Grx_nil (sz : Nat) (h0 h : AH) (e : h.fams = h0.fams) : Grx sz [] (.vs true 0 []) h0 h := ⟨Grw_nil _ _, fun j _ => by rw [e], fun k n o l h => by cases h⟩
theorem low_le {h0 h : AH} (hl : ∀ j, j < h0.fams.length → h.fams[j]? = h0.fams[j]?) : h0.fams.length ≤ h.fams.length := by
  apply Classical.byContradiction
  intro hc
  have h1 := hl h.fams.length (by omega)
  rw [List.getElem?_eq_none (Nat.le_refl _), List.getElem?_eq_getElem (by omega)] at h1
  cases h1
theorem Grw_low {sz : Nat} {acc : List AV} {v : AV} {h h' : AH} (hg : Grw sz acc v h) (hl : ∀ j, j < h.fams.length → h'.fams[j]? = h.fams[j]?) : Grw sz acc v h' := by
  rcases hg with hg | ⟨h1, k, h2, h3⟩
  · exact .inl hg
  · exact .inr ⟨h1, k, h2, by rw [hl k (getq_lt h3)]; exact h3⟩
theorem Grx_low {sz : Nat} {acc : List AV} {v : AV} {h0 h h' : AH} (hg : Grx sz acc v h0 h) (hl : ∀ j, j < h.fams.length → h'.fams[j]? = h.fams[j]?) : Grx sz acc v h0 h' :=
  ⟨Grw_low hg.g hl, fun j hj => by rw [hl j (by have := low_le hg.low; omega)]; exact hg.low j hj, hg.row⟩
theorem Grx_app {c : Ctx} {sz bytes : Nat} {acc ys : List AV} {v x : AV} {h0 h : AH} (hg : Grx sz acc v h0 h) (hm : c.mutApp = false) (hx : elems h sz x = some ys)
    (hb : (acc.length + ys.length) * bytes ≤ roomA ∧ acc.length + ys.length ≤ maxLen) : ∃ v' h', appendA c h sz bytes v x = some (v', h') ∧ Grx sz (acc ++ ys) v' h0 h' ∧ h'.boxes = h.boxes := by
  obtain ⟨hg, hlow, hrow⟩ := hg
  obtain ⟨v', h', h1, h2, h3⟩ := Grw_app (c := c) (bytes := bytes) hg hm hx hb
  refine ⟨v', h', h1, ⟨h2, ?_, ?_⟩, h3⟩
  · rcases hg with ⟨rfl, rfl⟩ | ⟨hne, k, rfl, hk⟩
    · rw [app_nil, hx, Option.bind_some] at h1
      split at h1
      · cases h1; exact hlow
      · split at h1
        · cases h1
          intro j hj
          have := low_le hlow
          rw [← hlow j hj]
          exact List.getElem?_append_left (by omega)
        · cases h1
    · rw [app_view, hx, Option.bind_some, hk, Option.bind_some] at h1
      split at h1
      · cases h1
        intro j hj
        have := hrow _ _ _ _ rfl
        rw [← hlow j hj]
        exact List.getElem?_set_ne (by omega)
      · cases h1
  · rcases hg with ⟨rfl, rfl⟩ | ⟨hne, k, rfl, hk⟩
    · rw [app_nil, hx, Option.bind_some] at h1
      split at h1
      · cases h1; intro _ _ _ _ e; cases e
      · split at h1
        · cases h1
          intro _ _ _ _ e
          cases e
          exact low_le hlow
        · cases h1
    · rw [app_view, hx, Option.bind_some, hk, Option.bind_some] at h1
      split at h1
      · cases h1
        intro _ _ _ _ e
        cases e
        exact hrow _ _ _ _ rfl
      · cases h1
theorem Grx_one {c : Ctx} {sz bytes : Nat} {acc : List AV} {v x : AV} {h0 h : AH} (hg : Grx sz acc v h0 h) (hm : c.mutApp = false) (m : Bool × Bool)
    (hb : (acc.length + 1) * bytes ≤ 140737488355328) (hb' : acc.length ≤ 1099511627776) : ∃ v' h', appendA c h sz bytes v (sl m sz [x]) = some (v', h') ∧ Grx sz (acc ++ [x]) v' h0 h' ∧ h'.boxes = h.boxes :=
  Grx_app hg hm (sl_elems h m sz [x]) (by simp only [roomA, maxLen, List.length_singleton]; omega)
theorem Grw_frzA {sz : Nat} {acc : List AV} {v : AV} {h : AH} (hg : Grw sz acc v h) : ∃ m, ∀ (B : List (List AV)) (am : Bool), frz1 ⟨B, h.fams⟩ am v = some (sl m sz acc) := by
  rcases hg with ⟨rfl, rfl⟩ | ⟨_, k, rfl, h3⟩
  · exact ⟨(true, false), fun B am => by rw [frz1_nil]; exact congrArg some (sl_nil_any _ rfl _ _)⟩
  · refine ⟨(false, true), fun B am => ?_⟩
    rw [frz1_view]
    simp only [h3, Option.bind_some]
    rw [if_pos (by simp), List.drop_zero, List.take_of_length_le (Nat.le_refl _)]

theorem loop_rsv2 (na : Nar) (f : ByteArray → Int) (hlen : na.steps.length ≤ 1048576) (IH : ∀ s ∈ na.steps, ∃ t', pc Q n_ref23_sorted [narV na, tmV s.msg] = some (tmV t') ∧ erT t' = srtT f s.msg) (A1 : List AV) (o0 o1 o2 o3 o5 : AV) (fr : Fr) (h : AH) (hh : h.boxes = [(narV na).cells, A1, [o0, o1, o2, o3, .vs true 0 [], o5]]) (hl : fr.length = 96) (h1 : look fr 1 = .ptr 0 0) (h7 : look fr 7 = .ptr 2 0) (h8 : look fr 8 = .int .i64 0) :
    Ends (lp (evalCode (lim Q) (ctxF n_ref23_Resolve) x_ref23_Resolve_2) (fr, h)) fun e fr' h' => Kp x_ref23_Resolve_2.wr fr fr' ∧ e = .exit 0 ∧ ∃ (B : List (List AV)) (v : AV) (done : List Ste), h'.boxes = (narV na).cells :: A1 :: [o0, o1, o2, o3, v, o5] :: B ∧ Grx 7 (done.map stV) v h h' ∧ done.map erS = na.steps.map (srtS f) := by
  refine Ends_lpw rfl fr (fun n fr h' => ∃ (i : Nat), i + n = na.steps.length ∧ look fr 8 = .int .i64 (i : Nat) ∧ (∃ (B : List (List AV)) (v : AV) (done : List Ste), h'.boxes = (narV na).cells :: A1 :: [o0, o1, o2, o3, v, o5] :: B ∧ Grx 7 (done.map stV) v h h' ∧ done.map erS = (na.steps.take i).map (srtS f) ∧ done.length = i)) ?_ na.steps.length h ⟨0, by omega, h8, [], _, [], hh, Grx_nil _ _ _ rfl, by simp, by simp⟩
  rintro J Φ hJ hΦ n fr1 H1 K ⟨i, hi, k8, hr⟩
  have hl1 : fr1.length = 96 := K.1.trans hl
  have k1 := (K.2 1 (by decide)).trans h1
  have k7 := (K.2 7 (by decide)).trans h7
  clear K
  by_cases hlt : i < na.steps.length
  · have hwp : IntKind.i64.wrap ((i : Int) + 1) = (i : Int) + 1 := wrap_id (by omega) (by omega)
    obtain ⟨B, v, done, hB, hg, hd, hdl⟩ := hr
    obtain ⟨bx, fams⟩ := H1
    simp only at hB
    subst hB
    have hx := nth_map (f := stV) (List.getElem?_eq_getElem hlt)
    obtain ⟨t', hI, ht⟩ := IH na.steps[i] (List.getElem_mem hlt)
    obtain ⟨v', h', ha, hg', hbx⟩ := Grx_one (c := ctxF n_ref23_Resolve) (bytes := 96) (x := stV ⟨na.steps[i].frm, na.steps[i].to, t', na.steps[i].line⟩) (h := ⟨(narV na).cells :: A1 :: [o0, o1, o2, o3, v, o5] :: (B ++ [(stV ⟨na.steps[i].frm, na.steps[i].to, t', na.steps[i].line⟩).cells]), fams⟩) (Grx_low hg fun _ _ => rfl) rfl (true, true) (by simp; omega) (by simp; omega)
    have e2 : (done ++ [Ste.mk na.steps[i].frm na.steps[i].to t' na.steps[i].line]).map erS = (na.steps.take (i + 1)).map (srtS f) := by
      rw [List.take_succ_eq_append_getElem hlt, List.map_append, hd, List.map_append, List.map_cons, List.map_nil, List.map_cons, List.map_nil]
      simp only [erS, ht, srtS]
    have e3 : (done.map stV ++ [stV ⟨na.steps[i].frm, na.steps[i].to, t', na.steps[i].line⟩]) = (done ++ [Ste.mk na.steps[i].frm na.steps[i].to t' na.steps[i].line]).map stV := by simp
    rw [e3] at hg'
    have e6 := st_mk na.steps[i].frm na.steps[i].to t' na.steps[i].line
    clear hd ht
    generalize hY : done ++ [Ste.mk na.steps[i].frm na.steps[i].to t' na.steps[i].line] = Y at *
    have hYl : Y.length = i + 1 := by rw [← hY]; simp [hdl]
    clear hY e3
    generalize na.steps[i] = s at *
    obtain ⟨bx', fams'⟩ := h'
    simp only at hbx
    subst hbx
    simp only [st_cells, na_cells] at ha
    obtain ⟨c1, c2, -⟩ := Grw_cells hg'.g
    simp [x_ref23_Resolve_2, hl1, k1, k7, k8, hlt, hwp, hx, hI, sliceParts, e6, ha, na_cells, c1, c2]
    exact ⟨n - 1, by omega, hJ _ _ _ ⟨i + 1, by omega, by simp [hl1], _, v', Y, rfl, Grx_low hg' fun _ _ => rfl, e2, hYl⟩⟩
  · obtain ⟨B, v, done, hB, hg, hd, hdl⟩ := hr
    obtain ⟨bx, fams⟩ := H1
    simp only at hB
    subst hB
    rw [List.take_of_length_le (by omega)] at hd
    simp [x_ref23_Resolve_2, hl1, k1, k8, hlt, na_cells]
    exact hΦ _ _ _ ⟨rfl, B, v, done, rfl, Grx_low hg fun _ _ => rfl, hd⟩

theorem loop_rsv0 (na : Nar) (f : ByteArray → Int) (j : Nat) (g : Gol) (hj : nth (na.goals.map goV) j = some (goV g)) (hjl : j < na.goals.length) (hlen : g.data.length ≤ 1048576) (IH : ∀ t ∈ g.data, ∃ t', pc Q n_ref23_sorted [narV na, tmV t] = some (tmV t') ∧ erT t' = srtT f t) (p : Nat) (hp0 : 0 ≠ p) (g0 g1 g2 g4 : AV) (fr : Fr) (h : AH) (hb0 : h.boxes[0]? = some (narV na).cells) (hbp : h.boxes[p]? = some [g0, g1, g2, .vs true 0 [], g4]) (hl : fr.length = 96) (h1 : look fr 1 = .ptr 0 0) (h10 : look fr 10 = .int .i64 j) (h11 : look fr 11 = .ptr p 0) (h12 : look fr 12 = .int .i64 0) :
    Ends (lp (evalCode (lim Q) (ctxF n_ref23_Resolve) x_ref23_Resolve_0) (fr, h)) fun e fr' h' => Kp x_ref23_Resolve_0.wr fr fr' ∧ e = .exit 4 ∧ ∃ (v : AV) (done : List Tm), h'.boxes = h.boxes.set p [g0, g1, g2, v, g4] ∧ Grx 4 (tmVs done) v h h' ∧ erTs done = srtTs f g.data := by
  refine Ends_lpw rfl fr (fun n fr h' => ∃ (i : Nat), i + n = g.data.length ∧ look fr 12 = .int .i64 (i : Nat) ∧ (∃ (v : AV) (done : List Tm), h'.boxes = h.boxes.set p [g0, g1, g2, v, g4] ∧ Grx 4 (tmVs done) v h h' ∧ erTs done = srtTs f (g.data.take i) ∧ done.length = i)) ?_ g.data.length h ⟨0, by omega, h12, _, [], (set_same hbp).symm, Grx_nil _ _ _ rfl, by simp [erTs, srtTs], rfl⟩
  rintro J Φ hJ hΦ n fr1 H1 K ⟨i, hi, k12, hr⟩
  have hl1 : fr1.length = 96 := K.1.trans hl
  have k1 := (K.2 1 (by decide)).trans h1
  have k10 := (K.2 10 (by decide)).trans h10
  have k11 := (K.2 11 (by decide)).trans h11
  clear K
  by_cases hlt : i < g.data.length
  · have hwp : IntKind.i64.wrap ((i : Int) + 1) = (i : Int) + 1 := wrap_id (by omega) (by omega)
    obtain ⟨v, done, hB, hg, hd, hdl⟩ := hr
    obtain ⟨bx, fams⟩ := H1
    simp only at hB
    subst hB
    have hx := nth_tm hlt
    obtain ⟨t', hI, ht⟩ := IH g.data[i] (List.getElem_mem hlt)
    have hpl := getq_lt hbp
    have q1 : ∀ X, (h.boxes.set p X)[0]? = some (narV na).cells := fun X => by rw [List.getElem?_set_ne (Ne.symm hp0)]; exact hb0
    have q2 : ∀ X, (h.boxes.set p X)[p]? = some X := fun X => List.getElem?_set_self hpl
    obtain ⟨v', h', ha, hg', hbx⟩ := Grx_one (c := ctxF n_ref23_Resolve) (bytes := 56) (x := tmV t') hg rfl (true, true) (by simp; omega) (by simp; omega)
    have e2 : erTs (done ++ [t']) = srtTs f (g.data.take (i + 1)) := by
      rw [List.take_succ_eq_append_getElem hlt, erTs_map, List.map_append, ← erTs_map, hd, srtTs_map, srtTs_map, List.map_append, List.map_cons, List.map_nil, List.map_cons, List.map_nil, ht]
    have hg2 : Grx 4 (tmVs (done ++ [t'])) v' h h' := by rw [tmVs_app1]; exact hg'
    clear ht hd
    generalize g.data[i] = t at *
    obtain ⟨bx', fams'⟩ := h'
    simp only at hbx
    subst hbx
    rw [na_cells] at q1
    obtain ⟨c1, c2, -⟩ := Grw_cells hg'.g
    simp [x_ref23_Resolve_0, hl1, k1, k10, k11, k12, hlt, hwp, hx, hI, hj, sliceParts, q1, q2, ha, c1, c2]
    exact ⟨n - 1, by omega, hJ _ _ _ ⟨i + 1, by omega, by simp [hl1], v', done ++ [t'], by simp, Grx_low hg2 fun _ _ => rfl, e2, by simp [hdl]⟩⟩
  · obtain ⟨v, done, hB, hg, hd, hdl⟩ := hr
    obtain ⟨bx, fams⟩ := H1
    simp only at hB
    subst hB
    have hpl := getq_lt hbp
    have q1 : ∀ X, (h.boxes.set p X)[0]? = some (narV na).cells := fun X => by rw [List.getElem?_set_ne (Ne.symm hp0)]; exact hb0
    rw [List.take_of_length_le (by omega)] at hd
    rw [na_cells] at q1
    simp [x_ref23_Resolve_0, hl1, k1, k10, k12, hlt, hj, q1]
    exact hΦ _ _ _ ⟨rfl, v, done, rfl, Grx_low hg fun _ _ => rfl, hd⟩
end Go.Abs.Q

namespace Go.Abs.Q
open Go.Proofs
attribute [local simp] look_set_ne look_set_eq fin tupled code_loop raw_ref23_sorted raw_ref23_Check raw_ref23_Resolve

theorem loop_rsv1 (na : Nar) (f : ByteArray → Int) (hlen : na.goals.length ≤ 1048576) (hdl : ∀ g ∈ na.goals, g.data.length ≤ 1048576) (IH : ∀ g ∈ na.goals, ∀ t ∈ g.data, ∃ t', pc Q n_ref23_sorted [narV na, tmV t] = some (tmV t') ∧ erT t' = srtT f t) (A1 : List AV) (o0 o1 o2 o3 o4 : AV) (D : List (List AV)) (fr : Fr) (h : AH) (hh : h.boxes = (narV na).cells :: A1 :: [o0, o1, o2, o3, o4, .vs true 0 []] :: D) (hl : fr.length = 96) (h1 : look fr 1 = .ptr 0 0) (h7 : look fr 7 = .ptr 2 0) (h10 : look fr 10 = .int .i64 0) :
    Ends (lp (evalCode (lim Q) (ctxF n_ref23_Resolve) x_ref23_Resolve_1) (fr, h)) fun e fr' h' => Kp x_ref23_Resolve_1.wr fr fr' ∧ e = .exit 2 ∧ ∃ (B : List (List AV)) (v : AV) (done : List Gol), h'.boxes = (narV na).cells :: A1 :: [o0, o1, o2, o3, o4, v] :: B ∧ Grx 5 (done.map goV) v h h' ∧ done.map erG = na.goals.map (srtG f) := by
  refine Ends_lpw rfl fr (fun n fr h' => ∃ (i : Nat), i + n = na.goals.length ∧ look fr 10 = .int .i64 (i : Nat) ∧ (∃ (B : List (List AV)) (v : AV) (done : List Gol), h'.boxes = (narV na).cells :: A1 :: [o0, o1, o2, o3, o4, v] :: B ∧ Grx 5 (done.map goV) v h h' ∧ done.map erG = (na.goals.take i).map (srtG f) ∧ done.length = i)) ?_ na.goals.length h ⟨0, by omega, h10, D, _, [], hh, Grx_nil _ _ _ rfl, rfl, rfl⟩
  rintro J Φ hJ hΦ n fr1 H1 K ⟨i, hi, k10, hr⟩
  have hl1 : fr1.length = 96 := K.1.trans hl
  have k1 := (K.2 1 (by decide)).trans h1
  have k7 := (K.2 7 (by decide)).trans h7
  clear K
  by_cases hlt : i < na.goals.length
  · have hwp : IntKind.i64.wrap ((i : Int) + 1) = (i : Int) + 1 := wrap_id (by omega) (by omega)
    obtain ⟨B, v, done, hB, hg, hd, hdn⟩ := hr
    obtain ⟨bx, fams⟩ := H1
    simp only at hB
    subst hB
    have hx := nth_map (f := goV) (List.getElem?_eq_getElem hlt)
    have q1 := loop_rsv0 na f i na.goals[i] hx hlt (hdl _ (List.getElem_mem hlt)) (IH _ (List.getElem_mem hlt)) (B.length + 3) (by omega) (.int .i64 na.goals[i].kind) (.str na.goals[i].role) (.str na.goals[i].wth) (.int .i64 na.goals[i].line)
    have e2 : ∀ g', erG g' = srtG f na.goals[i] → (done ++ [g']).map erG = (na.goals.take (i + 1)).map (srtG f) := by
      intro g' he
      rw [List.take_succ_eq_append_getElem hlt, List.map_append, hd, List.map_append, List.map_cons, List.map_nil, List.map_cons, List.map_nil, he]
    clear hd
    generalize na.goals[i] = g at *
    simp [x_ref23_Resolve_1, hl1, k1, k10, hlt, hx, na_cells]
    refine Ends.mono (q1 _ _ ?_ ?_ ?_ ?_ ?_ ?_ ?_) ?_ <;> first | (simp [hl1, k1, k10, na_cells]; done) | skip
    rintro e fr2 ⟨bx2, fams2⟩ ⟨K, rfl, vd, dd, hB2, hgd, hdd⟩
    have hlfr2 : fr2.length = 96 := K.1.trans (by simp [hl1])
    have k1fr2 : look fr2 1 = .ptr 0 0 := (K.2 1 (by decide)).trans (by simp [k1])
    have k7fr2 : look fr2 7 = .ptr 2 0 := (K.2 7 (by decide)).trans (by simp [k7])
    have k10fr2 : look fr2 10 = .int .i64 (i : Nat) := (K.2 10 (by decide)).trans (by simp [k10])
    have k11fr2 : look fr2 11 = .ptr (B.length + 3) 0 := (K.2 11 (by decide)).trans (by simp [hl1])
    clear K
    have hg2 := Grx_low hg (h' := ⟨bx2, fams2⟩) (fun j hj => hgd.low j hj)
    simp at hB2
    subst hB2
    obtain ⟨m, hz⟩ := Grw_frzA hgd.g
    simp only at hz
    obtain ⟨v', ⟨bx', fams'⟩, ha, hg', hbx⟩ := Grx_one (c := ctxF n_ref23_Resolve) (bytes := 72) (x := goV ⟨g.kind, g.role, g.wth, m, dd, g.line⟩) hg2 rfl (true, true) (by simp; omega) (by simp; omega)
    simp only at hbx
    subst hbx
    have e3 : done.map goV ++ [goV ⟨g.kind, g.role, g.wth, m, dd, g.line⟩] = (done ++ [Gol.mk g.kind g.role g.wth m dd g.line]).map goV := by simp
    rw [e3] at hg'
    have e4 := e2 ⟨g.kind, g.role, g.wth, m, dd, g.line⟩ (by simp [erG, srtG, hdd])
    have e6 := go_mk g.kind g.role g.wth m dd g.line
    obtain ⟨c1, c2, -⟩ := Grw_cells hg'.g
    simp [hlfr2, k7fr2, k10fr2, k11fr2, hz, sliceParts, e6, ha, hwp, c1, c2]
    exact ⟨n - 1, by omega, hJ _ _ _ ⟨i + 1, by omega, by simp [hlfr2], _, v', _, rfl, Grx_low hg' fun _ _ => rfl, e4, by simp [hdn]⟩⟩
  · obtain ⟨B, v, done, hB, hg, hd, hdn⟩ := hr
    obtain ⟨bx, fams⟩ := H1
    simp only at hB
    subst hB
    rw [List.take_of_length_le (by omega)] at hd
    simp [x_ref23_Resolve_1, hl1, k1, k10, hlt, na_cells]
    exact hΦ _ _ _ ⟨rfl, B, v, done, rfl, Grx_low hg fun _ _ => rfl, hd⟩

/-! Terms without errors: the names of all atoms are known. -/
theorem kn_role {ns rs : List ByteArray} (hrs : ∀ a, rs.any (eqS a) = true → ns.any (eqS a) = true) {t : Tm} (hn : nodesE t = 0) (h : roleT rs t = true) : knT ns t = true := by
  obtain ⟨k, nm, s, m, l⟩ := t
  obtain ⟨h1, _⟩ := nodes_kids hn
  rw [roleT, Bool.and_eq_true] at h
  have hk : k = 2 := of_decide_eq_true h.1
  have hr : rs.any (eqS nm) = true := h.2
  have hl : l = [] := List.eq_nil_of_length_eq_zero ((nodeE_name h1).2.1 (.inr hk))
  subst hl
  simp [knT, knTs, hrs nm hr]
theorem kn_priv {ns rs : List ByteArray} (hrs : ∀ a, rs.any (eqS a) = true → ns.any (eqS a) = true) {t : Tm} (hn : nodesE t = 0) (h : privT rs t = true) : knT ns t = true := by
  obtain ⟨k, nm, s, m, l⟩ := t
  obtain ⟨_, h2⟩ := nodes_kids hn
  rw [privT, Bool.and_eq_true, appT, Bool.and_eq_true, Bool.and_eq_true] at h
  obtain ⟨⟨⟨hk, _⟩, hl⟩, hf⟩ := h
  have hk : k = 3 := of_decide_eq_true hk
  have hl : (l.length : Int) = 1 := of_decide_eq_true hl
  replace hf : fstB (roleT rs) l = true := hf
  subst hk
  replace hl : l.length = 1 := by omega
  match l, hl, hf with
  | [a], _, hf => simp [knT, knTs, kn_role hrs (nodesEs_mem h2 a (by simp)) hf]
theorem kn_pub {ns rs : List ByteArray} (hrs : ∀ a, rs.any (eqS a) = true → ns.any (eqS a) = true) {t : Tm} (hn : nodesE t = 0) (h : pubT rs t = true) : knT ns t = true := by
  obtain ⟨k, nm, s, m, l⟩ := t
  obtain ⟨_, h2⟩ := nodes_kids hn
  rw [pubT, Bool.and_eq_true, appT, Bool.and_eq_true, Bool.and_eq_true] at h
  obtain ⟨⟨⟨hk, _⟩, hl⟩, hf⟩ := h
  have hk : k = 3 := of_decide_eq_true hk
  have hl : (l.length : Int) = 1 := of_decide_eq_true hl
  replace hf : fstB (privT rs) l = true := hf
  subst hk
  replace hl : l.length = 1 := by omega
  match l, hl, hf with
  | [a], _, hf => simp [knT, knTs, kn_priv hrs (nodesEs_mem h2 a (by simp)) hf]
theorem app_eq (nm s) (m : Bool × Bool) (l : List Tm) (x : ByteArray) (n : Int) : (appT (.mk 3 nm s m l) x n = true) = (nm = x ∧ (l.length : Int) = n) := by
  rw [appT, Bool.and_eq_true, Bool.and_eq_true]
  exact propext ⟨fun h => ⟨of_decide_eq_true h.1.2, of_decide_eq_true h.2⟩, fun h => ⟨⟨decide_eq_true (p := (3 : Int) = 3) rfl, decide_eq_true (p := nm = x) h.1⟩, decide_eq_true (p := (l.length : Int) = n) h.2⟩⟩
theorem kids_eq (rs : List ByteArray) (nm s) (m : Bool × Bool) (l : List Tm) : kidsT rs (.mk 3 nm s m l) =
    if (nm = bs [112, 97, 105, 114] ∧ (l.length : Int) = 2) ∨ (nm = bs [101, 110, 99] ∧ (l.length : Int) = 2) then 2
    else if nm = bs [104, 97, 115, 104] ∧ (l.length : Int) = 1 then 1
    else if ((nm = bs [97, 101, 110, 99] ∧ (l.length : Int) = 2) ∧ sndB (pubT rs) l = true) ∨ ((nm = bs [115, 105, 103, 110] ∧ (l.length : Int) = 2) ∧ sndB (privT rs) l = true) then 1
    else if pubT rs (.mk 3 nm s m l) = true ∨ shkT rs (.mk 3 nm s m l) = true then 0 else -1 := by
  unfold kidsT
  simp only [app_eq]
  rfl
theorem kn_sco {ns rs : List ByteArray} (hrs : ∀ a, rs.any (eqS a) = true → ns.any (eqS a) = true) : ∀ (n : Nat) (t : Tm), t.size ≤ n → nodesE t = 0 → scoT ns rs t = 0 → knT ns t = true := by
  intro n
  induction n with
  | zero => intro t h; have := t.size_pos; omega
  | succ n ih =>
    intro t hn hne hs
    obtain ⟨k, nm, s, m, l⟩ := t
    have hsz : Tm.size (.mk k nm s m l) = 1 + Tm.sizes l := rfl
    obtain ⟨h1, h2⟩ := nodes_kids hne
    by_cases hk : k = 3
    · subst hk
      rw [scoT_eq] at hs
      simp only [Tm.kind, ne_eq, not_true, if_false] at hs
      split at hs
      · omega
      · rename_i hkd
        have hall := firstE_zero hs
        suffices hl : knTs ns l = true by simp [knT, hl]
        have one : ∀ t ∈ l, scoT ns rs t = 0 → knT ns t = true := fun t ht h0 => ih t (by have := Tm.size_le ht; omega) (nodesEs_mem h2 t ht) h0
        rw [kids_eq] at hall hkd
        simp only [Tm.kids] at hall
        by_cases c1 : nm = bs [112, 97, 105, 114] ∧ (l.length : Int) = 2 ∨ nm = bs [101, 110, 99] ∧ (l.length : Int) = 2
        · rw [if_pos c1] at hall
          have hl : l.length = 2 := by omega
          match l, hl, hall, one with
          | [a, b], _, hall, one => simp [knTs, one a (by simp) (hall a (by simp)), one b (by simp) (hall b (by simp))]
        · rw [if_neg c1] at hall hkd
          by_cases c2 : nm = bs [104, 97, 115, 104] ∧ (l.length : Int) = 1
          · rw [if_pos c2] at hall
            have hl : l.length = 1 := by omega
            match l, hl, hall, one with
            | [a], _, hall, one => simp [knTs, one a (by simp) (hall a (by simp))]
          · rw [if_neg c2] at hall hkd
            by_cases c3 : (nm = bs [97, 101, 110, 99] ∧ (l.length : Int) = 2) ∧ sndB (pubT rs) l = true ∨ (nm = bs [115, 105, 103, 110] ∧ (l.length : Int) = 2) ∧ sndB (privT rs) l = true
            · rw [if_pos c3] at hall
              have hl : l.length = 2 := by omega
              match l, hl, hall, one, c3, h2 with
              | [a, b], _, hall, one, c3, h2 =>
                have hb : knT ns b = true := by
                  rcases c3 with c3 | c3
                  · exact kn_pub hrs (nodesEs_mem h2 b (by simp)) c3.2
                  · exact kn_priv hrs (nodesEs_mem h2 b (by simp)) c3.2
                simp [knTs, one a (by simp) (hall a (by simp)), hb]
            · rw [if_neg c3] at hall hkd
              by_cases c4 : pubT rs (.mk 3 nm s m l) = true ∨ shkT rs (.mk 3 nm s m l) = true
              · rcases c4 with c4 | c4
                · have := kn_pub hrs hne c4
                  simpa [knT] using this
                · rw [shkT, Bool.and_eq_true, Bool.and_eq_true, Bool.and_eq_true, app_eq] at c4
                  obtain ⟨⟨⟨⟨_, hl⟩, ha⟩, hb⟩, _⟩ := c4
                  replace ha : fstB (roleT rs) l = true := ha
                  replace hb : sndB (roleT rs) l = true := hb
                  have hl : l.length = 2 := by omega
                  match l, hl, ha, hb, h2 with
                  | [a, b], _, ha, hb, h2 => simp [knTs, kn_role hrs (nodesEs_mem h2 a (by simp)) ha, kn_role hrs (nodesEs_mem h2 b (by simp)) hb]
              · rw [if_neg c4] at hkd
                omega
    · have hb := (nodeE_name h1)
      have hl : l = [] := List.eq_nil_of_length_eq_zero (hb.2.1 (by rcases hb.2.2.1 with h | h | h <;> omega))
      subst hl
      rw [scoT_eq] at hs
      simp only [Tm.kind, ne_eq, hk, not_false_eq_true, if_true, Tm.name] at hs
      by_cases h : ns.any (eqS nm) = true
      · simp [knT, knTs, h]
      · replace hs : (if ns.any (eqS nm) = true then (0 : Int) else 13) = 0 := hs
        rw [if_neg h] at hs
        omega
theorem roles_known (n : Nar) : ∀ a, n.roles.any (eqS a) = true → (namesN n).any (eqS a) = true := by
  intro a h
  unfold namesN
  rw [List.any_append, List.any_append, h, Bool.true_or, Bool.true_or]
theorem scoS_msg {ns rs : List ByteArray} {s : Ste} (h : scoS ns rs s = 0) : scoT ns rs s.msg = 0 := by
  unfold scoS at h
  split at h
  · rename_i h1; exact absurd h h1
  · exact h
theorem scoG_data {ns rs : List ByteArray} {g : Gol} (h : scoG ns rs g = 0) : ∀ t ∈ g.data, scoT ns rs t = 0 := by
  unfold scoG at h
  split at h
  · omega
  · split at h
    · rename_i h1; exact absurd h h1.2
    · exact firstE_zero h

theorem pc_rResolve (n : Nar) (F : Fine n) (S : Lens n) : ∃ r, pc Q n_ref23_Resolve [narV n] = some (.tup [narV r, .int .i64 (scoE n).1, .int .i64 (scoE n).2]) ∧ ((scoE n).2 = 0 → erN r = srtN (lookS (namesN n) (sortsN n)) n) := by
  suffices h : ∃ v, pc Q n_ref23_Resolve [narV n] = some v ∧ ∃ r, v = .tup [narV r, .int .i64 (scoE n).1, .int .i64 (scoE n).2] ∧ ((scoE n).2 = 0 → erN r = srtN (lookS (namesN n) (sortsN n)) n) by
    obtain ⟨v, h1, r, rfl, h2⟩ := h
    exact ⟨r, h1, h2⟩
  have hC := pc_rCheck n F S
  have nb := na_cells n
  by_cases hz : (scoE n).2 = 0
  · obtain ⟨hz0, hR⟩ := scoE_zero hz
    obtain ⟨k1, k2, k3⟩ := narE_zero hR.nar
    have hrk := roles_known n
    have q1 := loop_rsv2 n (lookS (namesN n) (sortsN n)) S.steps (fun s hs => pc_sorted n S _ _ (Nat.le_refl _) (F.steps s hs).2.2 (msg_nodes (ste_msg (k2 s hs))) (kn_sco hrk _ _ (Nat.le_refl _) (msg_nodes (ste_msg (k2 s hs))) (scoS_msg (hR.steps s hs))))
    have q2 := loop_rsv1 n (lookS (namesN n) (sortsN n)) S.goals S.data (fun g hg t ht => pc_sorted n S _ _ (Nat.le_refl _) (by have := (F.goals g hg).2.2; have := Tm.size_le ht; omega) (msg_nodes (gol_data (k3 g hg) t ht)) (kn_sco hrk _ _ (Nat.le_refl _) (msg_nodes (gol_data (k3 g hg) t ht)) (scoG_data (hR.goals g hg) t ht)))
    rw [hz0] at hC ⊢
    refine pc_ends_ex (C := Q) ((Q_spec _).trans rfl) ((Q_code _).trans res_ref23_Resolve) (by simp [x_ref23_Resolve]) fun Ψ hΨ fr hl ha => ?_
    rw [Q_ctx]
    have h0 := ha 0
    clear ha
    simp [x_ref23_Resolve] at hl h0
    simp [x_ref23_Resolve, hl, h0, nb, hC]
    refine Ends.mono (q1 [.str (bs []), .vs true 0 [], .vs true 0 [], .vs true 0 [], .vs true 0 [], .vs true 0 []] (.str n.name) (sl n.rm 1 (n.roles.map .str)) (sl n.fm 3 (n.fresh.map frV)) (sl n.tm 1 (n.tags.map .str)) (.vs true 0 []) _ _ ?_ ?_ ?_ ?_ ?_) ?_ <;> first | (simp [hl, nb]; done) | skip
    rintro e fr1 ⟨bx1, fams1⟩ ⟨K, rfl, B, v, done, hB, hg, hd⟩
    have hlfr1 : fr1.length = 96 := K.1.trans (by simp [hl])
    have k1fr1 : look fr1 1 = .ptr 0 0 := (K.2 1 (by decide)).trans (by simp [hl])
    have k2fr1 : look fr1 2 = .ptr 1 0 := (K.2 2 (by decide)).trans (by simp [hl])
    have k7fr1 : look fr1 7 = .ptr 2 0 := (K.2 7 (by decide)).trans (by simp [hl])
    clear K
    simp only at hB
    subst hB
    simp
    refine Ends.mono (q2 [.str (bs []), .vs true 0 [], .vs true 0 [], .vs true 0 [], .vs true 0 [], .vs true 0 []] (.str n.name) (sl n.rm 1 (n.roles.map .str)) (sl n.fm 3 (n.fresh.map frV)) (sl n.tm 1 (n.tags.map .str)) v B _ _ ?_ ?_ ?_ ?_ ?_) ?_ <;> first | (simp [hlfr1, k1fr1, k7fr1]; done) | rfl | skip
    rintro e fr2 ⟨bx2, fams2⟩ ⟨K, rfl, B2, v2, done2, hB2, hg2, hd2⟩
    have hlfr2 : fr2.length = 96 := K.1.trans (by simp [hlfr1])
    have k1fr2 : look fr2 1 = .ptr 0 0 := (K.2 1 (by decide)).trans (by simp [k1fr1])
    have k2fr2 : look fr2 2 = .ptr 1 0 := (K.2 2 (by decide)).trans (by simp [k2fr1])
    have k7fr2 : look fr2 7 = .ptr 2 0 := (K.2 7 (by decide)).trans (by simp [k7fr1])
    clear K
    simp only at hB2
    subst hB2
    have hg1 := Grw_low hg.g hg2.low
    obtain ⟨m1, z1⟩ := Grw_frzA hg1
    obtain ⟨m2, z2⟩ := Grw_frzA hg2.g
    simp only at z1 z2
    simp [hlfr2, k2fr2, k7fr2, z1, z2]
    exact hΨ _ ⟨⟨n.name, n.rm, n.roles, n.fm, n.fresh, n.tm, n.tags, m1, done, m2, done2⟩, rfl, fun _ => by simp [erN, srtN, hd, hd2]⟩
  · refine pc_ends_ex (C := Q) ((Q_spec _).trans rfl) ((Q_code _).trans res_ref23_Resolve) (by simp [x_ref23_Resolve]) fun Ψ hΨ fr hl ha => ?_
    rw [Q_ctx]
    have h0 := ha 0
    clear ha
    simp [x_ref23_Resolve] at hl h0
    simp [x_ref23_Resolve, hl, h0, nb, hC, hz, fillParts, buildParts]
    exact hΨ _ ⟨noN, by rw [← noN_eq, sl_nil_any (true, false) rfl 1 1], fun h => absurd h hz⟩
end Go.Abs.Q
