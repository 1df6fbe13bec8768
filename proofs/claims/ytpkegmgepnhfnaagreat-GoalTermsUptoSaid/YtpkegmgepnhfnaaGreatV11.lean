/- Contracts: the error of a narration. -/
import Derived.Test.YtpkegmgepnhfnaaGreatV10
/- Contracts: raw terms, messages, goals. -/
namespace Go.Abs.Q
open Go.Proofs
attribute [local simp] look_set_ne look_set_eq fin tupled code_loop raw_term_Valid raw_ref01_Valid raw_term_Size raw_ref01_Size raw_lexer_IsName raw_ref21_IsName raw_syntax_raw raw_ref22_raw raw_syntax_rawTerm raw_ref22_Raw raw_syntax_message raw_ref22_message raw_syntax_agreement raw_ref22_agreement raw_syntax_goal raw_ref22_goal

/-- The first error. -/
def firstE {α : Type} (g : α → Int) : List α → Int
  | [] => 0
  | a :: l => if g a ≠ 0 then g a else firstE g l
theorem firstE_zero {α : Type} {g : α → Int} : ∀ {l : List α}, firstE g l = 0 → ∀ a ∈ l, g a = 0
  | [], _, a, ha => by cases ha
  | b :: l, h, a, ha => by
    simp only [firstE] at h
    by_cases hb : g b = 0
    · rw [if_neg (by simp [hb])] at h
      rcases List.mem_cons.1 ha with rfl | ha
      · exact hb
      · exact firstE_zero h a ha
    · rw [if_pos hb] at h
      exact absurd h hb
mutual
def rawE : Tm → Int
  | .mk k nm s _ l => if k = 1 ∨ s ≠ 0 then 10 else if lexN nm = false then 2 else rawEs l
def rawEs : List Tm → Int
  | [] => 0
  | t :: l => if rawE t ≠ 0 then rawE t else rawEs l
end
def rawTE (t : Tm) : Int := if validT t ≠ 0 then validT t else rawE t
def msgE (t : Tm) : Int := if rawTE t ≠ 0 then rawTE t else if 40 < t.size then 3 else 0

theorem nodes_kids {k : Int} {nm : ByteArray} {s : Int} {m : Bool × Bool} {l : List Tm} (h : nodesE (.mk k nm s m l) = 0) : nodeE k s nm l.length = 0 ∧ nodesEs l = 0 := by
  have e : nodesE (.mk k nm s m l) = if nodeE k s nm l.length ≠ 0 then nodeE k s nm l.length else nodesEs l := rfl
  rw [e] at h
  by_cases hz : nodeE k s nm l.length = 0
  · rw [if_neg (by simp [hz])] at h
    exact ⟨hz, h⟩
  · rw [if_pos hz] at h
    exact absurd h hz
theorem nodesEs_mem : ∀ {l : List Tm}, nodesEs l = 0 → ∀ t ∈ l, nodesE t = 0
  | [], _, t, ht => by cases ht
  | b :: l, h, t, ht => by
    simp only [nodesEs] at h
    by_cases hb : nodesE b = 0
    · rw [if_neg (by simp [hb])] at h
      rcases List.mem_cons.1 ht with rfl | ht
      · exact hb
      · exact nodesEs_mem h t ht
    · rw [if_pos hb] at h
      exact absurd h hb
theorem nodeE_name {k s : Int} {nm : ByteArray} {n : Nat} (h : nodeE k s nm n = 0) : nameB nm = true ∧ (k = 1 ∨ k = 2 → n = 0) ∧ (k = 1 ∨ k = 2 ∨ k = 3) ∧ n ≤ 8 := by
  unfold nodeE at h
  split at h
  · omega
  · rename_i hb
    split at h
    · omega
    · rename_i hn
      split at h
      · omega
      · exact ⟨by simpa using hn, by omega, by omega, by omega⟩
theorem nameB_size {s : ByteArray} (h : nameB s = true) : s.size ≤ 24 := (name_good h).2.1

theorem loop_raw (m : Bool × Bool) (kids : List Tm) (IH : ∀ t ∈ kids, pc Q n_syntax_raw [tmV t] = some (.int .i64 (rawE t))) (hlen : kids.length ≤ 1099511627776)
    (fr : Fr) (h : AH) (hl : fr.length = 31) (h19 : look fr 19 = sl m 4 (tmVs kids)) (h20 : look fr 20 = .int .i64 kids.length) (h21 : look fr 21 = .int .i64 0) :
    Ends (lp (evalCode (lim Q) (ctxF n_syntax_raw) x_syntax_raw_0) (fr, h)) fun e fr' h' => Kp x_syntax_raw_0.wr fr fr' ∧ (e = .exit 0 ∧ rawEs kids = 0 ∨ e = .ret ∧ look fr' 2 = .int .i64 (rawEs kids)) := by
  refine Ends_lpw rfl fr (fun n fr h' => ∃ (i : Nat), i + n = kids.length ∧ look fr 21 = .int .i64 (i : Nat) ∧ rawEs (kids.drop i) = rawEs kids) ?_ kids.length h ⟨0, by omega, h21, rfl⟩
  rintro J Φ hJ hΦ n fr1 h1' K ⟨i, hi, k21, hr⟩
  have hl1 : fr1.length = 31 := K.1.trans hl
  have k19 := (K.2 19 (by decide)).trans h19
  have k20 := (K.2 20 (by decide)).trans h20
  by_cases hlt : i < kids.length
  · have hx := nth_tm hlt
    have hw : IntKind.i64.wrap ((i : Int) + 1) = (i : Int) + 1 := wrap_id (by omega) (by omega)
    have hI := IH kids[i] (List.getElem_mem hlt)
    rw [List.drop_eq_getElem_cons hlt] at hr
    simp only [rawEs] at hr
    generalize kids[i] = t at *
    obtain ⟨tk, tn, ts, tm, tl⟩ := t
    simp only [tmV] at hI hx
    generalize rawE (.mk tk tn ts tm tl) = e at *
    by_cases hz : e = 0
    · rw [if_neg (by simp [hz])] at hr
      simp [x_syntax_raw_0, hl1, k19, k20, k21, hlt, hx, hI, hw, hz]
      exact ⟨n - 1, by omega, hJ _ _ _ ⟨i + 1, by omega, by simp [hl1], hr⟩⟩
    · rw [if_pos hz] at hr
      simp [x_syntax_raw_0, hl1, k19, k20, k21, hlt, hx, hI, hz]
      exact hΦ _ _ _ (.inr ⟨rfl, by simp [hl1, hr]⟩)
  · rw [List.drop_eq_nil_of_le (by omega)] at hr
    simp [x_syntax_raw_0, hl1, k20, k21, hlt]
    exact hΦ _ _ _ (.inl ⟨rfl, hr.symm⟩)

theorem pc_raw : ∀ (n : Nat) (t : Tm), t.size ≤ n → t.size ≤ 1099511627776 → nodesE t = 0 → pc Q n_syntax_raw [tmV t] = some (.int .i64 (rawE t)) := by
  intro n
  induction n with
  | zero => intro t h; have := t.size_pos; omega
  | succ n ih =>
    intro t hn hb hne
    obtain ⟨k, nm, s, m, kids⟩ := t
    have hsz : Tm.size (.mk k nm s m kids) = 1 + Tm.sizes kids := rfl
    have hlen := Tm.length_le kids
    obtain ⟨hne1, hne2⟩ := nodes_kids hne
    have hnb := (nodeE_name hne1).1
    have hN := pc_lexIsName nm (by have := nameB_size hnb; omega)
    have hnE : rawE (.mk k nm s m kids) = if k = 1 ∨ s ≠ 0 then 10 else if lexN nm = false then 2 else rawEs kids := rfl
    have hlp := loop_raw m kids (fun t ht => ih t (by have := Tm.size_le ht; omega) (by have := Tm.size_le ht; omega) (nodesEs_mem hne2 t ht)) (by omega)
    refine pcQ res_syntax_raw rfl (by simp [x_syntax_raw]) fun fr hl ha => ?_
    have h0 := ha 0
    clear ha ih
    simp [x_syntax_raw, tmV] at hl h0
    generalize rawE (.mk k nm s m kids) = v at *
    by_cases hk : k = 1
    · rw [if_pos (.inl hk)] at hnE
      subst hnE
      simp [x_syntax_raw, hl, h0, dec_t hk]
    by_cases hs : s = 0
    · rw [if_neg (by simp [hk, hs])] at hnE
      cases hn : lexN nm with
      | false =>
        rw [hn] at hN
        rw [if_pos hn] at hnE
        subst hnE
        simp [x_syntax_raw, hl, h0, dec_f hk, dec_t hs, hN]
      | true =>
        rw [hn] at hN
        rw [if_neg (by simp [hn])] at hnE
        simp [x_syntax_raw, hl, h0, dec_f hk, dec_t hs, hN]
        refine Ends.mono (hlp _ _ ?_ ?_ ?_ ?_) ?_ <;> first | (simp [hl]; done) | skip
        rintro e fr1 h1 ⟨K, ⟨rfl, hz⟩ | ⟨rfl, k2⟩⟩
        · have hl1 : fr1.length = 31 := K.1.trans (by simp [hl])
          simp [hl1, hnE, hz]
        · simp [k2, hnE]
    · rw [if_pos (.inr hs)] at hnE
      subst hnE
      simp [x_syntax_raw, hl, h0, dec_f hk, dec_f hs]

theorem loop_refraw (B : List AV) (m : Bool × Bool) (kids : List Tm) (hB : ∃ a b c, B = [a, b, c, sl m 4 (tmVs kids)]) (IH : ∀ t ∈ kids, pc Q n_ref22_raw [tmV t] = some (.int .i64 (rawE t))) (hlen : kids.length ≤ 1099511627776)
    (fr : Fr) (h : AH) (hh : h = ⟨[B], []⟩) (hl : fr.length = 33) (h1 : look fr 1 = .ptr 0 0) (h3 : look fr 3 = .int .i64 0) :
    Ends (lp (evalCode (lim Q) (ctxF n_ref22_raw) x_ref22_raw_0) (fr, h)) fun e fr' h' => Kp x_ref22_raw_0.wr fr fr' ∧ (e = .exit 0 ∧ rawEs kids = 0 ∨ e = .ret ∧ look fr' 2 = .int .i64 (rawEs kids)) := by
  obtain ⟨b0, b1, b2, rfl⟩ := hB
  refine Ends_lpw rfl fr (fun n fr h' => ∃ (i : Nat), i + n = kids.length ∧ look fr 3 = .int .i64 (i : Nat) ∧ h' = ⟨[[b0, b1, b2, sl m 4 (tmVs kids)]], []⟩ ∧ rawEs (kids.drop i) = rawEs kids) ?_ kids.length h ⟨0, by omega, h3, hh, rfl⟩
  rintro J Φ hJ hΦ n fr1 h1' K ⟨i, hi, k3, rfl, hr⟩
  have hl1 : fr1.length = 33 := K.1.trans hl
  have k1 := (K.2 1 (by decide)).trans h1
  by_cases hlt : i < kids.length
  · have hx := nth_tm hlt
    have hw : IntKind.i64.wrap ((i : Int) + 1) = (i : Int) + 1 := wrap_id (by omega) (by omega)
    have hI := IH kids[i] (List.getElem_mem hlt)
    rw [List.drop_eq_getElem_cons hlt] at hr
    simp only [rawEs] at hr
    generalize kids[i] = t at *
    obtain ⟨tk, tn, ts, tm, tl⟩ := t
    simp only [tmV] at hI hx
    generalize rawE (.mk tk tn ts tm tl) = e at *
    by_cases hz : e = 0
    · rw [if_neg (by simp [hz])] at hr
      simp [x_ref22_raw_0, hl1, k1, k3, hlt, hx, hI, hw, hz]
      exact ⟨n - 1, by omega, hJ _ _ _ ⟨i + 1, by omega, by simp [hl1], rfl, hr⟩⟩
    · rw [if_pos hz] at hr
      simp [x_ref22_raw_0, hl1, k1, k3, hlt, hx, hI, hz]
      exact hΦ _ _ _ (.inr ⟨rfl, by simp [hl1, hr]⟩)
  · rw [List.drop_eq_nil_of_le (by omega)] at hr
    simp [x_ref22_raw_0, hl1, k1, k3, hlt]
    exact hΦ _ _ _ (.inl ⟨rfl, hr.symm⟩)

theorem pc_refraw : ∀ (n : Nat) (t : Tm), t.size ≤ n → t.size ≤ 1099511627776 → pc Q n_ref22_raw [tmV t] = some (.int .i64 (rawE t)) := by
  intro n
  induction n with
  | zero => intro t h; have := t.size_pos; omega
  | succ n ih =>
    intro t hn hb
    obtain ⟨k, nm, s, m, kids⟩ := t
    have hsz : Tm.size (.mk k nm s m kids) = 1 + Tm.sizes kids := rfl
    have hlen := Tm.length_le kids
    have hN := pc_refIsName nm
    have hnE : rawE (.mk k nm s m kids) = if k = 1 ∨ s ≠ 0 then 10 else if lexN nm = false then 2 else rawEs kids := rfl
    have hlp := loop_refraw [.int .i64 k, .str nm, .int .i64 s, sl m 4 (tmVs kids)] m kids ⟨_, _, _, rfl⟩ (fun t ht => ih t (by have := Tm.size_le ht; omega) (by have := Tm.size_le ht; omega)) (by omega)
    refine pcQ res_ref22_raw rfl (by simp [x_ref22_raw]) fun fr hl ha => ?_
    have h0 := ha 0
    clear ha ih
    simp [x_ref22_raw, tmV] at hl h0
    generalize rawE (.mk k nm s m kids) = v at *
    by_cases hk : k = 1
    · rw [if_pos (.inl hk)] at hnE
      subst hnE
      simp [x_ref22_raw, hl, h0, dec_t hk]
    by_cases hs : s = 0
    · rw [if_neg (by simp [hk, hs])] at hnE
      cases hn : lexN nm with
      | false =>
        rw [hn] at hN
        rw [if_pos hn] at hnE
        subst hnE
        simp [x_ref22_raw, hl, h0, dec_f hk, dec_t hs, hN]
      | true =>
        rw [hn] at hN
        rw [if_neg (by simp [hn])] at hnE
        simp [x_ref22_raw, hl, h0, dec_f hk, dec_t hs, hN]
        refine Ends.mono (hlp _ _ ?_ ?_ ?_ ?_) ?_ <;> first | (simp [hl, hs]; done) | skip
        rintro e fr1 h1 ⟨K, ⟨rfl, hz⟩ | ⟨rfl, k2⟩⟩
        · have hl1 : fr1.length = 33 := K.1.trans (by simp [hl])
          simp [hl1, hnE, hz]
        · simp [k2, hnE]
    · rw [if_pos (.inr hs)] at hnE
      subst hnE
      simp [x_ref22_raw, hl, h0, dec_f hk, dec_f hs]

theorem pc_rawTerm (t : Tm) (hb : t.size ≤ 1099511627776) : pc Q n_syntax_rawTerm [tmV t] = some (.int .i64 (rawTE t)) := by
  have hV := pc_termValid t hb
  have hR := fun h => pc_raw _ t (Nat.le_refl _) hb h
  have hz : validT t = 0 → nodesE t = 0 := by
    unfold validT
    split
    · rename_i h; exact fun k => absurd k h
    · rename_i h; exact fun _ => by simpa using h
  refine pcQ res_syntax_rawTerm rfl (by simp [x_syntax_rawTerm]) fun fr hl ha => ?_
  have h0 := ha 0
  clear ha
  have hv : rawTE t = if validT t ≠ 0 then validT t else rawE t := rfl
  generalize rawTE t = v at *
  generalize validT t = w at *
  generalize rawE t = y at *
  generalize nodesE t = z at *
  obtain ⟨k, nm, s, m, kids⟩ := t
  simp [x_syntax_rawTerm, tmV] at hl h0 hV hR
  by_cases hw : w = 0
  · subst hw
    rw [if_neg (by simp)] at hv
    subst hv
    have hR' := hR (hz rfl)
    simp [x_syntax_rawTerm, hl, h0, hV, hR']
  · rw [if_pos hw] at hv
    subst hv
    simp [x_syntax_rawTerm, hl, h0, hV, hw]

theorem pc_refRaw (t : Tm) (hb : t.size ≤ 1099511627776) : pc Q n_ref22_Raw [tmV t] = some (.int .i64 (rawTE t)) := by
  have hV := pc_refTermValid t hb
  have hR := pc_refraw _ t (Nat.le_refl _) hb
  refine pcQ res_ref22_Raw rfl (by simp [x_ref22_Raw]) fun fr hl ha => ?_
  have h0 := ha 0
  clear ha
  have hv : rawTE t = if validT t ≠ 0 then validT t else rawE t := rfl
  generalize rawTE t = v at *
  generalize validT t = w at *
  generalize rawE t = y at *
  obtain ⟨k, nm, s, m, kids⟩ := t
  simp [x_ref22_Raw, tmV] at hl h0 hV hR
  by_cases hw : w = 0
  · subst hw
    rw [if_neg (by simp)] at hv
    subst hv
    simp [x_ref22_Raw, hl, h0, hV, hR]
  · rw [if_pos hw] at hv
    subst hv
    simp [x_ref22_Raw, hl, h0, hV, hw]

theorem pc_message (t : Tm) (hb : t.size ≤ 1099511627776) : pc Q n_syntax_message [tmV t] = some (.int .i64 (msgE t)) := by
  have hV := pc_rawTerm t hb
  have hS := pc_Size _ t (Nat.le_refl _) hb
  refine pcQ res_syntax_message rfl (by simp [x_syntax_message]) fun fr hl ha => ?_
  have h0 := ha 0
  clear ha
  have hv : msgE t = if rawTE t ≠ 0 then rawTE t else if 40 < t.size then 3 else 0 := rfl
  generalize msgE t = v at *
  generalize rawTE t = w at *
  generalize t.size = z at *
  obtain ⟨k, nm, s, m, kids⟩ := t
  simp [x_syntax_message, tmV] at hl h0 hV hS
  by_cases hw : w = 0
  · subst hw
    rw [if_neg (by simp)] at hv
    by_cases h4 : (40 : Int) < (z : Int)
    · rw [if_pos (by omega)] at hv
      subst hv
      simp [x_syntax_message, hl, h0, hV, hS, dec_t h4]
    · rw [if_neg (by omega)] at hv
      subst hv
      simp [x_syntax_message, hl, h0, hV, hS, dec_f h4]
  · rw [if_pos hw] at hv
    subst hv
    simp [x_syntax_message, hl, h0, hV, hw]

theorem pc_refmessage (t : Tm) (hb : t.size ≤ 1099511627776) : pc Q n_ref22_message [tmV t] = some (.int .i64 (msgE t)) := by
  have hV := pc_refRaw t hb
  have hS := pc_refSize _ t (Nat.le_refl _) hb
  refine pcQ res_ref22_message rfl (by simp [x_ref22_message]) fun fr hl ha => ?_
  have h0 := ha 0
  clear ha
  have hv : msgE t = if rawTE t ≠ 0 then rawTE t else if 40 < t.size then 3 else 0 := rfl
  generalize msgE t = v at *
  generalize rawTE t = w at *
  generalize t.size = z at *
  obtain ⟨k, nm, s, m, kids⟩ := t
  simp [x_ref22_message, tmV] at hl h0 hV hS
  by_cases hw : w = 0
  · subst hw
    rw [if_neg (by simp)] at hv
    by_cases h4 : (40 : Int) < (z : Int)
    · rw [if_pos (by omega)] at hv
      subst hv
      simp [x_ref22_message, hl, h0, hV, hS, dec_t h4]
    · rw [if_neg (by omega)] at hv
      subst hv
      simp [x_ref22_message, hl, h0, hV, hS, dec_f h4]
  · rw [if_pos hw] at hv
    subst hv
    simp [x_ref22_message, hl, h0, hV, hw]

/-- A goal. -/
structure Gol where
  kind : Int
  role : ByteArray
  wth : ByteArray
  dm : Bool × Bool
  data : List Tm
  line : Int
def goV (g : Gol) : AV := .agg [.int .i64 g.kind, .str g.role, .str g.wth, sl g.dm 4 (tmVs g.data), .int .i64 g.line]
def agrB (g : Gol) : Bool := decide (g.kind = 2) || decide (g.kind = 3)
def golE (g : Gol) : Int :=
  if g.kind < 1 ∨ 5 < g.kind then 10 else if lexN g.role = false ∨ agrB g = true ∧ lexN g.wth = false then 2 else if agrB g = false ∧ g.wth ≠ bs [] then 1
  else if g.data.length < 1 ∨ 4 < g.data.length ∨ agrB g = false ∧ 1 < g.data.length then 6 else firstE msgE g.data

theorem pc_agreement (g : Gol) : pc Q n_syntax_agreement [goV g] = some (.bool (agrB g)) := by
  refine pcQ res_syntax_agreement rfl (by simp [x_syntax_agreement]) fun fr hl ha => ?_
  have h0 := ha 0
  clear ha
  simp [x_syntax_agreement, goV] at hl h0
  unfold agrB
  by_cases h2 : g.kind = 2
  · simp [x_syntax_agreement, hl, h0, dec_t h2]
  · simp [x_syntax_agreement, hl, h0, dec_f h2]
theorem pc_refagreement (g : Gol) : pc Q n_ref22_agreement [goV g] = some (.bool (agrB g)) := by
  refine pcQ res_ref22_agreement rfl (by simp [x_ref22_agreement]) fun fr hl ha => ?_
  have h0 := ha 0
  clear ha
  simp [x_ref22_agreement, goV] at hl h0
  unfold agrB
  by_cases h2 : g.kind = 2
  · simp [x_ref22_agreement, hl, h0, dec_t h2]
  · simp [x_ref22_agreement, hl, h0, dec_f h2]
end Go.Abs.Q

/- Contracts: the error of a goal. -/
namespace Go.Abs.Q
open Go.Proofs
attribute [local simp] look_set_ne look_set_eq fin tupled code_loop raw_lexer_IsName raw_ref21_IsName raw_syntax_message raw_ref22_message raw_syntax_agreement raw_ref22_agreement raw_syntax_goal raw_ref22_goal

theorem loop_goal (m : Bool × Bool) (kids : List Tm) (IH : ∀ t ∈ kids, pc Q n_syntax_message [tmV t] = some (.int .i64 (msgE t))) (hlen : kids.length ≤ 1099511627776)
    (fr : Fr) (h : AH) (hl : fr.length = 76) (h19 : look fr 64 = sl m 4 (tmVs kids)) (h20 : look fr 65 = .int .i64 kids.length) (h21 : look fr 66 = .int .i64 0) :
    Ends (lp (evalCode (lim Q) (ctxF n_syntax_goal) x_syntax_goal_0) (fr, h)) fun e fr' h' => Kp x_syntax_goal_0.wr fr fr' ∧ (e = .exit 1 ∧ firstE msgE kids = 0 ∨ e = .ret ∧ look fr' 2 = .int .i64 (firstE msgE kids)) := by
  refine Ends_lpw rfl fr (fun n fr h' => ∃ (i : Nat), i + n = kids.length ∧ look fr 66 = .int .i64 (i : Nat) ∧ firstE msgE (kids.drop i) = firstE msgE kids) ?_ kids.length h ⟨0, by omega, h21, rfl⟩
  rintro J Φ hJ hΦ n fr1 h1' K ⟨i, hi, k21, hr⟩
  have hl1 : fr1.length = 76 := K.1.trans hl
  have k19 := (K.2 64 (by decide)).trans h19
  have k20 := (K.2 65 (by decide)).trans h20
  by_cases hlt : i < kids.length
  · have hx := nth_tm hlt
    have hw : IntKind.i64.wrap ((i : Int) + 1) = (i : Int) + 1 := wrap_id (by omega) (by omega)
    have hI := IH kids[i] (List.getElem_mem hlt)
    rw [List.drop_eq_getElem_cons hlt] at hr
    simp only [firstE] at hr
    generalize kids[i] = t at *
    generalize msgE t = e at *
    obtain ⟨tk, tn, ts, tm, tl⟩ := t
    simp only [tmV] at hI hx
    by_cases hz : e = 0
    · rw [if_neg (by simp [hz])] at hr
      simp [x_syntax_goal_0, hl1, k19, k20, k21, hlt, hx, hI, hw, hz]
      exact ⟨n - 1, by omega, hJ _ _ _ ⟨i + 1, by omega, by simp [hl1], hr⟩⟩
    · rw [if_pos hz] at hr
      simp [x_syntax_goal_0, hl1, k19, k20, k21, hlt, hx, hI, hz]
      exact hΦ _ _ _ (.inr ⟨rfl, by simp [hl1, hr]⟩)
  · rw [List.drop_eq_nil_of_le (by omega)] at hr
    simp [x_syntax_goal_0, hl1, k20, k21, hlt]
    exact hΦ _ _ _ (.inl ⟨rfl, hr.symm⟩)

theorem loop_refgoal (B : List AV) (m : Bool × Bool) (kids : List Tm) (hB : ∃ a b c d, B = [a, b, c, sl m 4 (tmVs kids), d]) (IH : ∀ t ∈ kids, pc Q n_ref22_message [tmV t] = some (.int .i64 (msgE t))) (hlen : kids.length ≤ 1099511627776)
    (fr : Fr) (h : AH) (hh : h = ⟨[B], []⟩) (hl : fr.length = 72) (h1 : look fr 1 = .ptr 0 0) (h3 : look fr 3 = .int .i64 0) :
    Ends (lp (evalCode (lim Q) (ctxF n_ref22_goal) x_ref22_goal_0) (fr, h)) fun e fr' h' => Kp x_ref22_goal_0.wr fr fr' ∧ (e = .exit 0 ∧ firstE msgE kids = 0 ∨ e = .ret ∧ look fr' 2 = .int .i64 (firstE msgE kids)) := by
  obtain ⟨b0, b1, b2, b3, rfl⟩ := hB
  refine Ends_lpw rfl fr (fun n fr h' => ∃ (i : Nat), i + n = kids.length ∧ look fr 3 = .int .i64 (i : Nat) ∧ h' = ⟨[[b0, b1, b2, sl m 4 (tmVs kids), b3]], []⟩ ∧ firstE msgE (kids.drop i) = firstE msgE kids) ?_ kids.length h ⟨0, by omega, h3, hh, rfl⟩
  rintro J Φ hJ hΦ n fr1 h1' K ⟨i, hi, k3, rfl, hr⟩
  have hl1 : fr1.length = 72 := K.1.trans hl
  have k1 := (K.2 1 (by decide)).trans h1
  by_cases hlt : i < kids.length
  · have hx := nth_tm hlt
    have hw : IntKind.i64.wrap ((i : Int) + 1) = (i : Int) + 1 := wrap_id (by omega) (by omega)
    have hI := IH kids[i] (List.getElem_mem hlt)
    rw [List.drop_eq_getElem_cons hlt] at hr
    simp only [firstE] at hr
    generalize kids[i] = t at *
    generalize msgE t = e at *
    obtain ⟨tk, tn, ts, tm, tl⟩ := t
    simp only [tmV] at hI hx
    by_cases hz : e = 0
    · rw [if_neg (by simp [hz])] at hr
      simp [x_ref22_goal_0, hl1, k1, k3, hlt, hx, hI, hw, hz]
      exact ⟨n - 1, by omega, hJ _ _ _ ⟨i + 1, by omega, by simp [hl1], rfl, hr⟩⟩
    · rw [if_pos hz] at hr
      simp [x_ref22_goal_0, hl1, k1, k3, hlt, hx, hI, hz]
      exact hΦ _ _ _ (.inr ⟨rfl, by simp [hl1, hr]⟩)
  · rw [List.drop_eq_nil_of_le (by omega)] at hr
    simp [x_ref22_goal_0, hl1, k1, k3, hlt]
    exact hΦ _ _ _ (.inl ⟨rfl, hr.symm⟩)

theorem pc_syngoal (g : Gol) (hr : g.role.size ≤ 1099511627776) (hw : g.wth.size ≤ 1099511627776) (hd : Tm.sizes g.data ≤ 1099511627776) : pc Q n_syntax_goal [goV g] = some (.int .i64 (golE g)) := by
  have hA := pc_agreement g
  have hR := pc_lexIsName g.role hr
  have hW := pc_lexIsName g.wth hw
  have hlen := Tm.length_le g.data
  have hlp := loop_goal g.dm g.data (fun t ht => pc_message t (by have := Tm.size_le ht; omega)) (by omega)
  refine pcQ res_syntax_goal rfl (by simp [x_syntax_goal]) fun fr hl ha => ?_
  have h0 := ha 0
  clear ha
  have hv : golE g = if g.kind < 1 ∨ 5 < g.kind then 10 else if lexN g.role = false ∨ agrB g = true ∧ lexN g.wth = false then 2 else if agrB g = false ∧ g.wth ≠ bs [] then 1
    else if g.data.length < 1 ∨ 4 < g.data.length ∨ agrB g = false ∧ 1 < g.data.length then 6 else firstE msgE g.data := rfl
  generalize golE g = v at *
  obtain ⟨k, r, w, m, d, ln⟩ := g
  simp only [goV] at *
  generalize agrB ⟨k, r, w, m, d, ln⟩ = ag at *
  generalize lexN r = rb at *
  generalize lexN w = wb at *
  generalize firstE msgE d = fe at *
  simp [x_syntax_goal] at hl h0
  by_cases c1 : k < 1
  · rw [if_pos (.inl c1)] at hv
    subst hv
    simp [x_syntax_goal, hl, h0, dec_t c1]
  by_cases c2 : 5 < k
  · rw [if_pos (.inr c2)] at hv
    subst hv
    simp [x_syntax_goal, hl, h0, dec_f c1, dec_t c2]
  rw [if_neg (by omega)] at hv
  cases rb with
  | false =>
    rw [if_pos (.inl rfl)] at hv
    subst hv
    simp [x_syntax_goal, hl, h0, dec_f c1, dec_f c2, hR]
  | true =>
    have eW : decide (w.toList = (bs []).toList) = decide (w = bs []) := toL_dec _ _
    cases ag with
    | true =>
      cases wb with
      | false =>
        rw [if_pos (.inr ⟨rfl, rfl⟩)] at hv
        subst hv
        simp [x_syntax_goal, hl, h0, dec_f c1, dec_f c2, hR, hA, hW]
      | true =>
        rw [if_neg (by simp), if_neg (by simp)] at hv
        by_cases n1 : (d.length : Int) < 1
        · rw [if_pos (.inl (by omega))] at hv
          subst hv
          simp [x_syntax_goal, hl, h0, dec_f c1, dec_f c2, hR, hA, hW, dec_t n1]
        · by_cases n4 : (4 : Int) < (d.length : Int)
          · rw [if_pos (.inr (.inl (by omega)))] at hv
            subst hv
            simp [x_syntax_goal, hl, h0, dec_f c1, dec_f c2, hR, hA, hW, dec_f n1, dec_t n4]
          · rw [if_neg (by rintro (q | q | q); omega; omega; simp at q)] at hv
            simp [x_syntax_goal, hl, h0, dec_f c1, dec_f c2, hR, hA, hW, dec_f n1, dec_f n4]
            refine Ends.mono (hlp _ _ ?_ ?_ ?_ ?_) ?_ <;> first | (simp [hl]; done) | skip
            rintro e fr1 h1 ⟨K, ⟨rfl, hz⟩ | ⟨rfl, k2⟩⟩
            · have hl1 : fr1.length = 76 := K.1.trans (by simp [hl])
              simp [hl1, hv, hz]
            · simp [k2, hv]
    | false =>
      rw [if_neg (by simp)] at hv
      by_cases cw : w = bs []
      · rw [if_neg (by simp [cw])] at hv
        by_cases n1 : (d.length : Int) = 1
        · rw [if_neg (by rintro (q | q | q); omega; omega; omega)] at hv
          simp [x_syntax_goal, hl, h0, dec_f c1, dec_f c2, hR, hA, eW, dec_t cw, dec_t n1]
          refine Ends.mono (hlp _ _ ?_ ?_ ?_ ?_) ?_ <;> first | (simp [hl]; done) | skip
          rintro e fr1 h1 ⟨K, ⟨rfl, hz⟩ | ⟨rfl, k2⟩⟩
          · have hl1 : fr1.length = 76 := K.1.trans (by simp [hl])
            simp [hl1, hv, hz]
          · simp [k2, hv]
        · rw [if_pos (by
            by_cases q : d.length < 1
            · exact .inl q
            · exact .inr (.inr ⟨rfl, by omega⟩))] at hv
          subst hv
          simp [x_syntax_goal, hl, h0, dec_f c1, dec_f c2, hR, hA, eW, dec_t cw, dec_f n1]
      · rw [if_pos ⟨rfl, cw⟩] at hv
        subst hv
        simp [x_syntax_goal, hl, h0, dec_f c1, dec_f c2, hR, hA, eW, dec_f cw]

theorem pc_refgoal (g : Gol) (hd : Tm.sizes g.data ≤ 1099511627776) : pc Q n_ref22_goal [goV g] = some (.int .i64 (golE g)) := by
  have hA := pc_refagreement g
  have hR := pc_refIsName g.role
  have hW := pc_refIsName g.wth
  have hlen := Tm.length_le g.data
  have hlp := loop_refgoal [.int .i64 g.kind, .str g.role, .str g.wth, sl g.dm 4 (tmVs g.data), .int .i64 g.line] g.dm g.data ⟨_, _, _, _, rfl⟩ (fun t ht => pc_refmessage t (by have := Tm.size_le ht; omega)) (by omega)
  refine pcQ res_ref22_goal rfl (by simp [x_ref22_goal]) fun fr hl ha => ?_
  have h0 := ha 0
  clear ha
  have hv : golE g = if g.kind < 1 ∨ 5 < g.kind then 10 else if lexN g.role = false ∨ agrB g = true ∧ lexN g.wth = false then 2 else if agrB g = false ∧ g.wth ≠ bs [] then 1
    else if g.data.length < 1 ∨ 4 < g.data.length ∨ agrB g = false ∧ 1 < g.data.length then 6 else firstE msgE g.data := rfl
  generalize golE g = v at *
  obtain ⟨k, r, w, m, d, ln⟩ := g
  simp only [goV] at *
  generalize agrB ⟨k, r, w, m, d, ln⟩ = ag at *
  generalize lexN r = rb at *
  generalize lexN w = wb at *
  generalize firstE msgE d = fe at *
  simp [x_ref22_goal] at hl h0
  by_cases c1 : k < 1
  · rw [if_pos (.inl c1)] at hv
    subst hv
    simp [x_ref22_goal, hl, h0, dec_t c1]
  by_cases c2 : 5 < k
  · rw [if_pos (.inr c2)] at hv
    subst hv
    simp [x_ref22_goal, hl, h0, dec_f c1, dec_t c2]
  rw [if_neg (by omega)] at hv
  cases rb with
  | false =>
    rw [if_pos (.inl rfl)] at hv
    subst hv
    simp [x_ref22_goal, hl, h0, dec_f c1, dec_f c2, hR]
  | true =>
    have eW : decide (w.toList = (bs []).toList) = decide (w = bs []) := toL_dec _ _
    cases ag with
    | true =>
      cases wb with
      | false =>
        rw [if_pos (.inr ⟨rfl, rfl⟩)] at hv
        subst hv
        simp [x_ref22_goal, hl, h0, dec_f c1, dec_f c2, hR, hA, hW]
      | true =>
        rw [if_neg (by simp), if_neg (by simp)] at hv
        by_cases n1 : (d.length : Int) < 1
        · rw [if_pos (.inl (by omega))] at hv
          subst hv
          simp [x_ref22_goal, hl, h0, dec_f c1, dec_f c2, hR, hA, hW, dec_t n1]
        · by_cases n4 : (4 : Int) < (d.length : Int)
          · rw [if_pos (.inr (.inl (by omega)))] at hv
            subst hv
            simp [x_ref22_goal, hl, h0, dec_f c1, dec_f c2, hR, hA, hW, dec_f n1, dec_t n4]
          · rw [if_neg (by rintro (q | q | q); omega; omega; simp at q)] at hv
            simp [x_ref22_goal, hl, h0, dec_f c1, dec_f c2, hR, hA, hW, dec_f n1, dec_f n4]
            refine Ends.mono (hlp _ _ rfl ?_ ?_ ?_) ?_ <;> first | (simp [hl]; done) | skip
            rintro e fr1 h1 ⟨K, ⟨rfl, hz⟩ | ⟨rfl, k2⟩⟩
            · have hl1 : fr1.length = 72 := K.1.trans (by simp [hl])
              simp [hl1, hv, hz]
            · simp [k2, hv]
    | false =>
      rw [if_neg (by simp)] at hv
      by_cases cw : w = bs []
      · rw [if_neg (by simp [cw])] at hv
        by_cases n1 : (d.length : Int) < 1
        · rw [if_pos (.inl (by omega))] at hv
          subst hv
          simp [x_ref22_goal, hl, h0, dec_f c1, dec_f c2, hR, hA, eW, dec_t cw, dec_t n1]
        · by_cases n4 : (4 : Int) < (d.length : Int)
          · rw [if_pos (.inr (.inl (by omega)))] at hv
            subst hv
            simp [x_ref22_goal, hl, h0, dec_f c1, dec_f c2, hR, hA, eW, dec_t cw, dec_f n1, dec_t n4]
          · by_cases n2 : (1 : Int) < (d.length : Int)
            · rw [if_pos (.inr (.inr ⟨rfl, by omega⟩))] at hv
              subst hv
              simp [x_ref22_goal, hl, h0, dec_f c1, dec_f c2, hR, hA, eW, dec_t cw, dec_f n1, dec_f n4, dec_t n2]
            · rw [if_neg (by rintro (q | q | q); omega; omega; omega)] at hv
              simp [x_ref22_goal, hl, h0, dec_f c1, dec_f c2, hR, hA, eW, dec_t cw, dec_f n1, dec_f n4, dec_f n2]
              refine Ends.mono (hlp _ _ ?_ ?_ ?_ ?_) ?_ <;> first | (simp [hl, cw]; done) | skip
              rintro e fr1 h1 ⟨K, ⟨rfl, hz⟩ | ⟨rfl, k2⟩⟩
              · have hl1 : fr1.length = 72 := K.1.trans (by simp [hl])
                simp [hl1, hv, hz]
              · simp [k2, hv]
      · rw [if_pos ⟨rfl, cw⟩] at hv
        subst hv
        simp [x_ref22_goal, hl, h0, dec_f c1, dec_f c2, hR, hA, eW, dec_f cw]
end Go.Abs.Q

/- Contracts: the error of a narration. -/
namespace Go.Abs.Q
open Go.Proofs
attribute [local simp] look_set_ne look_set_eq fin tupled code_loop raw_lexer_IsName raw_ref21_IsName raw_syntax_message raw_ref22_message raw_syntax_goal raw_ref22_goal raw_syntax_wrong raw_slices_IndexFunc_string raw_slices_ContainsFunc_string raw_ref22_names raw_ref22_numbers raw_syntax_head raw_syntax_Valid raw_ref22_Valid

theorem pc_wrong (s : ByteArray) (hs : s.size ≤ 1099511627776) : pc Q n_syntax_wrong [.str s] = some (.bool (!lexN s)) := by
  have hN := pc_lexIsName s hs
  refine pcQ res_syntax_wrong rfl (by simp [x_syntax_wrong]) fun fr hl ha => ?_
  have h0 := ha 0
  clear ha
  simp [x_syntax_wrong] at hl h0
  simp [x_syntax_wrong, hl, h0, hN]

def wrgB (s : ByteArray) : Bool := !lexN s

theorem loop_IndexFunc (m : Bool × Bool) (l : List ByteArray) (hs : ∀ s ∈ l, s.size ≤ 1099511627776) (hlen : l.length ≤ 1099511627776) (fr : Fr) (h : AH) (hl : fr.length = 19)
    (h0 : look fr 0 = sl m 1 (l.map AV.str)) (h1 : look fr 1 = .fn n_syntax_wrong []) (h7 : look fr 7 = .int .i64 l.length) (h8 : look fr 8 = .int .i64 0) :
    Ends (lp (evalCode (lim Q) (ctxF n_slices_IndexFunc_string) x_slices_IndexFunc_string_0) (fr, h)) fun e fr' h' => Kp x_slices_IndexFunc_string_0.wr fr fr' ∧ (e = .exit 0 ∧ idx wrgB l = -1 ∨ e = .ret ∧ look fr' 4 = .int .i64 (idx wrgB l)) := by
  refine Ends_lpw rfl fr (fun n fr h => ∃ i, i + n = l.length ∧ look fr 8 = .int .i64 (i : Nat) ∧ idxFrom wrgB i (l.drop i) = idx wrgB l) ?_ l.length h ⟨0, by omega, h8, rfl⟩
  rintro J Φ hJ hΦ n fr1 h1' K ⟨i, hi, k8, hr⟩
  have hl1 : fr1.length = 19 := K.1.trans hl
  have k0 := (K.2 0 (by decide)).trans h0
  have k1 := (K.2 1 (by decide)).trans h1
  have k7 := (K.2 7 (by decide)).trans h7
  by_cases hlt : i < l.length
  · have hx := nth_map (f := AV.str) (List.getElem?_eq_getElem hlt)
    have hw : IntKind.i64.wrap ((i : Int) + 1) = (i : Int) + 1 := wrap_id (by omega) (by omega)
    have hW := pc_wrong l[i] (hs _ (List.getElem_mem hlt))
    rw [List.drop_eq_getElem_cons hlt] at hr
    simp only [idxFrom] at hr
    generalize l[i] = a at *
    have hwe : wrgB a = !lexN a := rfl
    rw [← hwe] at hW
    generalize wrgB a = b at *
    cases b with
    | true =>
      rw [if_pos rfl] at hr
      simp [x_slices_IndexFunc_string_0, hl1, k0, k1, k7, k8, hlt, hx, hW]
      exact hΦ _ _ _ (.inr ⟨rfl, by simp [hl1]; exact hr⟩)
    | false =>
      rw [if_neg (by simp)] at hr
      simp [x_slices_IndexFunc_string_0, hl1, k0, k1, k7, k8, hlt, hx, hw, hW]
      exact ⟨n - 1, by omega, hJ _ _ _ ⟨i + 1, by omega, by simp [hl1], hr⟩⟩
  · rw [List.drop_eq_nil_of_le (by omega)] at hr
    simp [x_slices_IndexFunc_string_0, hl1, k7, k8, hlt]
    exact hΦ _ _ _ (.inl ⟨rfl, hr.symm⟩)

theorem pc_IndexFuncW (m : Bool × Bool) (l : List ByteArray) (hs : ∀ s ∈ l, s.size ≤ 1099511627776) (hlen : l.length ≤ 1099511627776) : pc Q n_slices_IndexFunc_string [strsV m l, .fn n_syntax_wrong []] = some (.int .i64 (idx wrgB l)) := by
  refine pcQ res_slices_IndexFunc_string rfl (by simp [x_slices_IndexFunc_string]) fun fr hl ha => ?_
  have h0 := ha 0
  have h1 := ha 1
  clear ha
  simp [x_slices_IndexFunc_string, strsV] at hl h0 h1
  simp [x_slices_IndexFunc_string, hl, h0]
  refine (loop_IndexFunc m l hs hlen _ _ (by simp [hl]) (by simp [h0]) (by simp [h1]) (by simp [hl]) (by simp [hl])).mono ?_
  rintro e fr' h' ⟨K, ⟨rfl, he⟩ | ⟨rfl, h4⟩⟩
  · have hl' : fr'.length = 19 := K.1.trans (by simp [hl])
    simp [hl', he]
  · simp [h4]

theorem pc_ContainsW (m : Bool × Bool) (l : List ByteArray) (hs : ∀ s ∈ l, s.size ≤ 1099511627776) (hlen : l.length ≤ 1099511627776) : pc Q n_slices_ContainsFunc_string [strsV m l, .fn n_syntax_wrong []] = some (.bool (l.any wrgB)) := by
  have hI := pc_IndexFuncW m l hs hlen
  have he : decide (0 ≤ idx wrgB l) = l.any wrgB := by
    rw [Bool.eq_iff_iff, decide_eq_true_iff, idx, idxFrom_ge]
  refine pcQ res_slices_ContainsFunc_string rfl (by simp [x_slices_ContainsFunc_string]) fun fr hl ha => ?_
  have h0 := ha 0
  have h1 := ha 1
  clear ha
  simp [x_slices_ContainsFunc_string, strsV] at hl h0 h1 hI
  simp [x_slices_ContainsFunc_string, hl, h0, h1, hI]
  exact he

theorem loop_names (m : Bool × Bool) (l : List ByteArray) (hlen : l.length ≤ 1099511627776) (fr : Fr) (h : AH) (hl : fr.length = 16) (h0 : look fr 0 = sl m 1 (l.map AV.str)) (h3 : look fr 3 = .int .i64 0) :
    Ends (lp (evalCode (lim Q) (ctxF n_ref22_names) x_ref22_names_0) (fr, h)) fun e fr' h' => Kp x_ref22_names_0.wr fr fr' ∧ (e = .exit 0 ∧ l.any wrgB = false ∨ e = .ret ∧ look fr' 2 = .bool false ∧ l.any wrgB = true) := by
  refine Ends_lpw rfl fr (fun n fr h => ∃ i, i + n = l.length ∧ look fr 3 = .int .i64 (i : Nat) ∧ (l.drop i).any wrgB = l.any wrgB) ?_ l.length h ⟨0, by omega, h3, rfl⟩
  rintro J Φ hJ hΦ n fr1 h1' K ⟨i, hi, k3, hr⟩
  have hl1 : fr1.length = 16 := K.1.trans hl
  have k0 := (K.2 0 (by decide)).trans h0
  by_cases hlt : i < l.length
  · have hx := nth_map (f := AV.str) (List.getElem?_eq_getElem hlt)
    have hw : IntKind.i64.wrap ((i : Int) + 1) = (i : Int) + 1 := wrap_id (by omega) (by omega)
    have hN := pc_refIsName l[i]
    rw [List.drop_eq_getElem_cons hlt, List.any_cons] at hr
    generalize l[i] = a at *
    have hwe : wrgB a = !lexN a := rfl
    rw [hwe] at hr
    generalize lexN a = b at *
    generalize hq : l.any wrgB = q at *
    cases b with
    | false =>
      simp [x_ref22_names_0, hl1, k0, k3, hlt, hx, hN]
      exact hΦ _ _ _ (.inr ⟨rfl, by simp [hl1], by rw [← hr]; rfl⟩)
    | true =>
      simp only [Bool.not_true, Bool.false_or] at hr
      simp [x_ref22_names_0, hl1, k0, k3, hlt, hx, hw, hN]
      exact ⟨n - 1, by omega, hJ _ _ _ ⟨i + 1, by omega, by simp [hl1], hr⟩⟩
  · rw [List.drop_eq_nil_of_le (by omega)] at hr
    simp [x_ref22_names_0, hl1, k0, k3, hlt]
    exact hΦ _ _ _ (.inl ⟨rfl, hr.symm⟩)

theorem pc_names (m : Bool × Bool) (l : List ByteArray) (hlen : l.length ≤ 1099511627776) : pc Q n_ref22_names [strsV m l] = some (.bool (!l.any wrgB)) := by
  refine pcQ res_ref22_names rfl (by simp [x_ref22_names]) fun fr hl ha => ?_
  have h0 := ha 0
  clear ha
  simp [x_ref22_names, strsV] at hl h0
  have hlp := loop_names m l hlen
  generalize l.any wrgB = b at *
  simp [x_ref22_names]
  refine (hlp _ _ (by simp [hl]) (by simp [h0]) (by simp [hl])).mono ?_
  rintro e fr' h' ⟨K, ⟨rfl, he⟩ | ⟨rfl, h2, he⟩⟩
  · have hl' : fr'.length = 16 := K.1.trans (by simp [hl])
    simp [hl', he]
  · simp [h2, he]

/-- A fresh value, a step, a narration. -/
structure Fre where
  role : ByteArray
  name : ByteArray
  sort : Int
def frV (f : Fre) : AV := .agg [.str f.role, .str f.name, .int .i64 f.sort]
structure Ste where
  frm : ByteArray
  to : ByteArray
  msg : Tm
  line : Int
def stV (s : Ste) : AV := .agg ([.str s.frm, .str s.to] ++ (tmV s.msg).cells ++ [.int .i64 s.line])
structure Nar where
  name : ByteArray
  rm : Bool × Bool
  roles : List ByteArray
  fm : Bool × Bool
  fresh : List Fre
  tm : Bool × Bool
  tags : List ByteArray
  sm : Bool × Bool
  steps : List Ste
  gm : Bool × Bool
  goals : List Gol
def narV (n : Nar) : AV := .agg [.str n.name, sl n.rm 1 (n.roles.map .str), sl n.fm 3 (n.fresh.map frV), sl n.tm 1 (n.tags.map .str), sl n.sm 7 (n.steps.map stV), sl n.gm 5 (n.goals.map goV)]

def freE (f : Fre) : Int := if lexN f.role = false ∨ lexN f.name = false then 2 else if f.sort < 2 ∨ 4 < f.sort then 10 else 0
def steE (s : Ste) : Int := if lexN s.frm = false ∨ lexN s.to = false then 2 else msgE s.msg
def numE (n : Nar) : Int :=
  if n.roles.length < 2 then 8 else if 4 < n.roles.length ∨ 12 < n.fresh.length ∨ 8 < n.tags.length then 3 else if n.steps.length = 0 then 8 else if 8 < n.steps.length ∨ 8 < n.goals.length then 3 else 0
def headE (n : Nar) : Int :=
  if lexN n.name = false then 2 else if numE n ≠ 0 then numE n else if n.roles.any wrgB = true then 2 else if firstE freE n.fresh ≠ 0 then firstE freE n.fresh else if n.tags.any wrgB = true then 2 else 0
def narE (n : Nar) : Int := if headE n ≠ 0 then headE n else if firstE steE n.steps ≠ 0 then firstE steE n.steps else firstE golE n.goals

/-- Nothing is too large. -/
structure Fine (n : Nar) : Prop where
  name : n.name.size ≤ 1099511627776
  roles : ∀ s ∈ n.roles, s.size ≤ 1099511627776
  rolesL : n.roles.length ≤ 1099511627776
  fresh : ∀ f ∈ n.fresh, f.role.size ≤ 1099511627776 ∧ f.name.size ≤ 1099511627776
  freshL : n.fresh.length ≤ 1099511627776
  tags : ∀ s ∈ n.tags, s.size ≤ 1099511627776
  tagsL : n.tags.length ≤ 1099511627776
  steps : ∀ s ∈ n.steps, s.frm.size ≤ 1099511627776 ∧ s.to.size ≤ 1099511627776 ∧ s.msg.size ≤ 1099511627776
  stepsL : n.steps.length ≤ 1099511627776
  goals : ∀ g ∈ n.goals, g.role.size ≤ 1099511627776 ∧ g.wth.size ≤ 1099511627776 ∧ Tm.sizes g.data ≤ 1099511627776
  goalsL : n.goals.length ≤ 1099511627776

theorem loop_head (m : Bool × Bool) (l : List Fre) (hs : ∀ f ∈ l, f.role.size ≤ 1099511627776 ∧ f.name.size ≤ 1099511627776) (hlen : l.length ≤ 1099511627776) (B : List AV)
    (fr : Fr) (h : AH) (hh : h = ⟨[B], []⟩) (hl : fr.length = 80) (h19 : look fr 52 = sl m 3 (l.map frV)) (h20 : look fr 53 = .int .i64 l.length) (h21 : look fr 54 = .int .i64 0) :
    Ends (lp (evalCode (lim Q) (ctxF n_syntax_head) x_syntax_head_0) (fr, h)) fun e fr' h' => Kp x_syntax_head_0.wr fr fr' ∧ (∃ bx, h' = ⟨B :: bx, []⟩) ∧ (e = .exit 1 ∧ firstE freE l = 0 ∨ e = .ret ∧ look fr' 2 = .int .i64 (firstE freE l) ∧ firstE freE l ≠ 0) := by
  refine Ends_lpw rfl fr (fun n fr h' => ∃ (i : Nat), i + n = l.length ∧ look fr 54 = .int .i64 (i : Nat) ∧ (∃ bx, h' = ⟨B :: bx, []⟩) ∧ firstE freE (l.drop i) = firstE freE l) ?_ l.length h ⟨0, by omega, h21, ⟨[], hh⟩, rfl⟩
  rintro J Φ hJ hΦ n fr1 h1' K ⟨i, hi, k21, ⟨bx, rfl⟩, hr⟩
  have hl1 : fr1.length = 80 := K.1.trans hl
  have k19 := (K.2 52 (by decide)).trans h19
  have k20 := (K.2 53 (by decide)).trans h20
  by_cases hlt : i < l.length
  · have hx := nth_map (f := frV) (List.getElem?_eq_getElem hlt)
    have hw : IntKind.i64.wrap ((i : Int) + 1) = (i : Int) + 1 := wrap_id (by omega) (by omega)
    obtain ⟨s1, s2⟩ := hs _ (List.getElem_mem hlt)
    have hR := pc_wrong l[i].role s1
    have hN := pc_wrong l[i].name s2
    rw [List.drop_eq_getElem_cons hlt] at hr
    simp only [firstE] at hr
    generalize l[i] = f at *
    have hfe : freE f = if lexN f.role = false ∨ lexN f.name = false then 2 else if f.sort < 2 ∨ 4 < f.sort then 10 else 0 := rfl
    generalize freE f = e at *
    obtain ⟨r, nm, so⟩ := f
    simp only [frV] at *
    generalize lexN r = rb at *
    generalize lexN nm = nb at *
    generalize firstE freE l = tot at *
    have fin2 : e ≠ 0 → e = tot := fun q => by rw [if_pos q] at hr; exact hr
    cases rb with
    | false =>
      rw [if_pos (.inl rfl)] at hfe
      have := fin2 (by omega)
      simp [x_syntax_head_0, hl1, k19, k20, k21, hlt, hx, hR]
      exact hΦ _ _ _ ⟨⟨_, rfl⟩, .inr ⟨rfl, by simp [hl1]; omega, by omega⟩⟩
    | true =>
      cases nb with
      | false =>
        rw [if_pos (.inr rfl)] at hfe
        have := fin2 (by omega)
        simp [x_syntax_head_0, hl1, k19, k20, k21, hlt, hx, hR, hN]
        exact hΦ _ _ _ ⟨⟨_, rfl⟩, .inr ⟨rfl, by simp [hl1]; omega, by omega⟩⟩
      | true =>
        rw [if_neg (by simp)] at hfe
        by_cases c1 : so < 2
        · rw [if_pos (.inl c1)] at hfe
          have := fin2 (by omega)
          simp [x_syntax_head_0, hl1, k19, k20, k21, hlt, hx, hR, hN, dec_t c1]
          exact hΦ _ _ _ ⟨⟨_, rfl⟩, .inr ⟨rfl, by simp [hl1]; omega, by omega⟩⟩
        · by_cases c2 : 4 < so
          · rw [if_pos (.inr c2)] at hfe
            have := fin2 (by omega)
            simp [x_syntax_head_0, hl1, k19, k20, k21, hlt, hx, hR, hN, dec_f c1, dec_t c2]
            exact hΦ _ _ _ ⟨⟨_, rfl⟩, .inr ⟨rfl, by simp [hl1]; omega, by omega⟩⟩
          · rw [if_neg (by omega)] at hfe
            rw [if_neg (by simp [hfe])] at hr
            simp [x_syntax_head_0, hl1, k19, k20, k21, hlt, hx, hw, hR, hN, dec_f c1, dec_f c2]
            exact ⟨n - 1, by omega, hJ _ _ _ ⟨i + 1, by omega, by simp [hl1], ⟨_, rfl⟩, hr⟩⟩
  · rw [List.drop_eq_nil_of_le (by omega)] at hr
    simp [x_syntax_head_0, hl1, k20, k21, hlt]
    exact hΦ _ _ _ ⟨⟨_, rfl⟩, .inl ⟨rfl, hr.symm⟩⟩

theorem pc_head (n : Nar) (F : Fine n) : pc Q n_syntax_head [narV n] = some (.int .i64 (headE n)) := by
  have hN := pc_wrong n.name F.name
  have hR := pc_ContainsW n.rm n.roles F.roles F.rolesL
  have hT := pc_ContainsW n.tm n.tags F.tags F.tagsL
  have hlp := loop_head n.fm n.fresh F.fresh F.freshL
  refine pcQ res_syntax_head rfl (by simp [x_syntax_head]) fun fr hl ha => ?_
  have h0 := ha 0
  clear ha
  have hv : headE n = if lexN n.name = false then 2 else if numE n ≠ 0 then numE n else if n.roles.any wrgB = true then 2 else if firstE freE n.fresh ≠ 0 then firstE freE n.fresh else if n.tags.any wrgB = true then 2 else 0 := rfl
  have hq : numE n = if n.roles.length < 2 then 8 else if 4 < n.roles.length ∨ 12 < n.fresh.length ∨ 8 < n.tags.length then 3 else if n.steps.length = 0 then 8 else if 8 < n.steps.length ∨ 8 < n.goals.length then 3 else 0 := rfl
  generalize headE n = v at *
  generalize numE n = q at *
  clear F
  obtain ⟨name, rm, roles, fm, fresh, tm, tags, sm, steps, gm, goals⟩ := n
  simp only [narV, strsV] at *
  generalize lexN name = nb at *
  generalize roles.any wrgB = rb at *
  generalize tags.any wrgB = tb at *
  generalize firstE freE fresh = fe at *
  simp [x_syntax_head] at hl h0
  cases nb with
  | false =>
    rw [if_pos rfl] at hv
    subst hv
    simp [x_syntax_head, hl, h0, hN]
  | true =>
    rw [if_neg (by simp)] at hv
    by_cases c1 : (roles.length : Int) < 2
    · rw [if_pos (by omega)] at hq
      rw [if_pos (by omega)] at hv
      subst hv hq
      simp [x_syntax_head, hl, h0, hN, dec_t c1]
    rw [if_neg (by omega)] at hq
    by_cases c2 : (4 : Int) < (roles.length : Int)
    · rw [if_pos (.inl (by omega))] at hq
      rw [if_pos (by omega)] at hv
      subst hv hq
      simp [x_syntax_head, hl, h0, hN, dec_f c1, dec_t c2]
    by_cases c3 : (12 : Int) < (fresh.length : Int)
    · rw [if_pos (.inr (.inl (by omega)))] at hq
      rw [if_pos (by omega)] at hv
      subst hv hq
      simp [x_syntax_head, hl, h0, hN, dec_f c1, dec_f c2, dec_t c3]
    by_cases c4 : (8 : Int) < (tags.length : Int)
    · rw [if_pos (.inr (.inr (by omega)))] at hq
      rw [if_pos (by omega)] at hv
      subst hv hq
      simp [x_syntax_head, hl, h0, hN, dec_f c1, dec_f c2, dec_f c3, dec_t c4]
    rw [if_neg (by omega)] at hq
    by_cases c5 : (steps.length : Int) = 0
    · rw [if_pos (by omega)] at hq
      rw [if_pos (by omega)] at hv
      subst hv hq
      have c5' : steps = [] := List.eq_nil_of_length_eq_zero (by omega)
      subst c5'
      simp [x_syntax_head, hl, h0, hN, dec_f c1, dec_f c2, dec_f c3, dec_f c4]
    rw [if_neg (by omega)] at hq
    have c5n : ¬steps = [] := fun e => c5 (by rw [e]; rfl)
    by_cases c6 : (8 : Int) < (steps.length : Int)
    · rw [if_pos (.inl (by omega))] at hq
      rw [if_pos (by omega)] at hv
      subst hv hq
      simp [x_syntax_head, hl, h0, hN, dec_f c1, dec_f c2, dec_f c3, dec_f c4, c5n, dec_t c6]
    by_cases c7 : (8 : Int) < (goals.length : Int)
    · rw [if_pos (.inr (by omega))] at hq
      rw [if_pos (by omega)] at hv
      subst hv hq
      simp [x_syntax_head, hl, h0, hN, dec_f c1, dec_f c2, dec_f c3, dec_f c4, c5n, dec_f c6, dec_t c7]
    rw [if_neg (by omega)] at hq
    rw [if_neg (by omega)] at hv
    cases rb with
    | true =>
      rw [if_pos rfl] at hv
      subst hv
      simp [x_syntax_head, hl, h0, hN, dec_f c1, dec_f c2, dec_f c3, dec_f c4, c5n, dec_f c6, dec_f c7, hR]
    | false =>
      rw [if_neg (by simp)] at hv
      simp [x_syntax_head, hl, h0, hN, dec_f c1, dec_f c2, dec_f c3, dec_f c4, c5n, dec_f c6, dec_f c7, hR]
      refine Ends.mono (hlp _ _ _ rfl ?_ ?_ ?_ ?_) ?_ <;> first | (simp [hl]; done) | skip
      rintro e fr1 h1 ⟨K, ⟨bx, rfl⟩, ⟨rfl, hz⟩ | ⟨rfl, k2, hz⟩⟩
      · have hl1 : fr1.length = 80 := K.1.trans (by simp [hl])
        have k1 : look fr1 1 = .ptr 0 0 := (K.2 1 (by decide)).trans (by simp [hl])
        rw [if_neg (by omega)] at hv
        cases tb with
        | true =>
          rw [if_pos rfl] at hv
          subst hv
          simp [hl1, k1, hT]
        | false =>
          rw [if_neg (by simp)] at hv
          subst hv
          simp [hl1, k1, hT]
      · rw [if_pos hz] at hv
        simp [k2, hv]
end Go.Abs.Q

namespace Go.Abs.Q
open Go.Proofs
attribute [local simp] look_set_ne look_set_eq fin tupled code_loop raw_lexer_IsName raw_ref21_IsName raw_syntax_message raw_ref22_message raw_syntax_goal raw_ref22_goal raw_syntax_wrong raw_ref22_names raw_ref22_numbers raw_syntax_head raw_syntax_Valid raw_ref22_Valid

theorem loop_steps (m : Bool × Bool) (l : List Ste) (hs : ∀ s ∈ l, s.frm.size ≤ 1099511627776 ∧ s.to.size ≤ 1099511627776 ∧ s.msg.size ≤ 1099511627776) (hlen : l.length ≤ 1099511627776) (B : List AV)
    (fr : Fr) (h : AH) (hh : h = ⟨[B], []⟩) (hl : fr.length = 50) (h16 : look fr 16 = sl m 7 (l.map stV)) (h17 : look fr 17 = .int .i64 l.length) (h18 : look fr 18 = .int .i64 0) :
    Ends (lp (evalCode (lim Q) (ctxF n_syntax_Valid) x_syntax_Valid_1) (fr, h)) fun e fr' h' => Kp x_syntax_Valid_1.wr fr fr' ∧ (∃ bx, h' = ⟨B :: bx, []⟩) ∧ (e = .exit 0 ∧ firstE steE l = 0 ∨ e = .ret ∧ look fr' 2 = .int .i64 (firstE steE l) ∧ firstE steE l ≠ 0) := by
  refine Ends_lpw rfl fr (fun n fr h' => ∃ (i : Nat), i + n = l.length ∧ look fr 18 = .int .i64 (i : Nat) ∧ (∃ bx, h' = ⟨B :: bx, []⟩) ∧ firstE steE (l.drop i) = firstE steE l) ?_ l.length h ⟨0, by omega, h18, ⟨[], hh⟩, rfl⟩
  rintro J Φ hJ hΦ n fr1 h1' K ⟨i, hi, k18, ⟨bx, rfl⟩, hr⟩
  have hl1 : fr1.length = 50 := K.1.trans hl
  have k16 := (K.2 16 (by decide)).trans h16
  have k17 := (K.2 17 (by decide)).trans h17
  by_cases hlt : i < l.length
  · have hx := nth_map (f := stV) (List.getElem?_eq_getElem hlt)
    have hw : IntKind.i64.wrap ((i : Int) + 1) = (i : Int) + 1 := wrap_id (by omega) (by omega)
    obtain ⟨s1, s2, s3⟩ := hs _ (List.getElem_mem hlt)
    have hR := pc_wrong l[i].frm s1
    have hN := pc_wrong l[i].to s2
    have hM := pc_message l[i].msg s3
    rw [List.drop_eq_getElem_cons hlt] at hr
    simp only [firstE] at hr
    generalize l[i] = f at *
    have hfe : steE f = if lexN f.frm = false ∨ lexN f.to = false then 2 else msgE f.msg := rfl
    generalize steE f = e at *
    obtain ⟨r, nm, t, ln⟩ := f
    simp only at *
    generalize lexN r = rb at *
    generalize lexN nm = nb at *
    generalize msgE t = me at *
    obtain ⟨tk, tn, ts, tm, tl⟩ := t
    simp only [stV, tmV, cells_agg, List.cons_append, List.nil_append] at hx hM
    generalize firstE steE l = tot at *
    have fin2 : e ≠ 0 → e = tot := fun q => by rw [if_pos q] at hr; exact hr
    cases rb with
    | false =>
      rw [if_pos (.inl rfl)] at hfe
      have := fin2 (by omega)
      simp [x_syntax_Valid_1, hl1, k16, k17, k18, hlt, hx, hR]
      exact hΦ _ _ _ ⟨⟨_, rfl⟩, .inr ⟨rfl, by simp [hl1]; omega, by omega⟩⟩
    | true =>
      cases nb with
      | false =>
        rw [if_pos (.inr rfl)] at hfe
        have := fin2 (by omega)
        simp [x_syntax_Valid_1, hl1, k16, k17, k18, hlt, hx, hR, hN]
        exact hΦ _ _ _ ⟨⟨_, rfl⟩, .inr ⟨rfl, by simp [hl1]; omega, by omega⟩⟩
      | true =>
        rw [if_neg (by simp)] at hfe
        by_cases hz : me = 0
        · rw [if_neg (by simp [hfe, hz])] at hr
          simp [x_syntax_Valid_1, hl1, k16, k17, k18, hlt, hx, hw, hR, hN, hM, hz]
          exact ⟨n - 1, by omega, hJ _ _ _ ⟨i + 1, by omega, by simp [hl1], ⟨_, rfl⟩, hr⟩⟩
        · have := fin2 (by omega)
          simp [x_syntax_Valid_1, hl1, k16, k17, k18, hlt, hx, hR, hN, hM, hz]
          exact hΦ _ _ _ ⟨⟨_, rfl⟩, .inr ⟨rfl, by simp [hl1]; omega, by omega⟩⟩
  · rw [List.drop_eq_nil_of_le (by omega)] at hr
    simp [x_syntax_Valid_1, hl1, k17, k18, hlt]
    exact hΦ _ _ _ ⟨⟨_, rfl⟩, .inl ⟨rfl, hr.symm⟩⟩

theorem loop_goals (m : Bool × Bool) (l : List Gol) (hs : ∀ g ∈ l, g.role.size ≤ 1099511627776 ∧ g.wth.size ≤ 1099511627776 ∧ Tm.sizes g.data ≤ 1099511627776) (hlen : l.length ≤ 1099511627776)
    (fr : Fr) (h : AH) (hl : fr.length = 50) (h16 : look fr 38 = sl m 5 (l.map goV)) (h17 : look fr 39 = .int .i64 l.length) (h18 : look fr 40 = .int .i64 0) :
    Ends (lp (evalCode (lim Q) (ctxF n_syntax_Valid) x_syntax_Valid_0) (fr, h)) fun e fr' h' => Kp x_syntax_Valid_0.wr fr fr' ∧ (e = .exit 2 ∧ firstE golE l = 0 ∨ e = .ret ∧ look fr' 2 = .int .i64 (firstE golE l)) := by
  refine Ends_lpw rfl fr (fun n fr h' => ∃ (i : Nat), i + n = l.length ∧ look fr 40 = .int .i64 (i : Nat) ∧ firstE golE (l.drop i) = firstE golE l) ?_ l.length h ⟨0, by omega, h18, rfl⟩
  rintro J Φ hJ hΦ n fr1 h1' K ⟨i, hi, k18, hr⟩
  have hl1 : fr1.length = 50 := K.1.trans hl
  have k16 := (K.2 38 (by decide)).trans h16
  have k17 := (K.2 39 (by decide)).trans h17
  by_cases hlt : i < l.length
  · have hx := nth_map (f := goV) (List.getElem?_eq_getElem hlt)
    have hw : IntKind.i64.wrap ((i : Int) + 1) = (i : Int) + 1 := wrap_id (by omega) (by omega)
    obtain ⟨s1, s2, s3⟩ := hs _ (List.getElem_mem hlt)
    have hM := pc_syngoal l[i] s1 s2 s3
    rw [List.drop_eq_getElem_cons hlt] at hr
    simp only [firstE] at hr
    generalize l[i] = f at *
    generalize golE f = e at *
    simp only [goV] at hx hM
    by_cases hz : e = 0
    · rw [if_neg (by simp [hz])] at hr
      simp [x_syntax_Valid_0, hl1, k16, k17, k18, hlt, hx, hw, hM, hz]
      exact ⟨n - 1, by omega, hJ _ _ _ ⟨i + 1, by omega, by simp [hl1], hr⟩⟩
    · rw [if_pos hz] at hr
      simp [x_syntax_Valid_0, hl1, k16, k17, k18, hlt, hx, hM, hz]
      exact hΦ _ _ _ (.inr ⟨rfl, by simp [hl1, hr]⟩)
  · rw [List.drop_eq_nil_of_le (by omega)] at hr
    simp [x_syntax_Valid_0, hl1, k17, k18, hlt]
    exact hΦ _ _ _ (.inl ⟨rfl, hr.symm⟩)

theorem pc_narValid (n : Nar) (F : Fine n) : pc Q n_syntax_Valid [narV n] = some (.int .i64 (narE n)) := by
  have hH := pc_head n F
  have hS := loop_steps n.sm n.steps F.steps F.stepsL
  have hG := loop_goals n.gm n.goals F.goals F.goalsL
  refine pcQ res_syntax_Valid rfl (by simp [x_syntax_Valid]) fun fr hl ha => ?_
  have h0 := ha 0
  clear ha
  have hv : narE n = if headE n ≠ 0 then headE n else if firstE steE n.steps ≠ 0 then firstE steE n.steps else firstE golE n.goals := rfl
  generalize narE n = v at *
  generalize headE n = q at *
  clear F
  obtain ⟨name, rm, roles, fm, fresh, tm, tags, sm, steps, gm, goals⟩ := n
  simp only [narV] at *
  generalize firstE steE steps = se at *
  generalize firstE golE goals = ge at *
  simp [x_syntax_Valid] at hl h0
  by_cases hq : q = 0
  · subst hq
    rw [if_neg (by simp)] at hv
    simp [x_syntax_Valid, hl, h0, hH]
    refine Ends.mono (hS _ _ _ rfl ?_ ?_ ?_ ?_) ?_ <;> first | (simp [hl]; done) | skip
    rintro e fr1 h1 ⟨K, ⟨bx, rfl⟩, ⟨rfl, hz⟩ | ⟨rfl, k2, hz⟩⟩
    · have hl1 : fr1.length = 50 := K.1.trans (by simp [hl])
      have k1 : look fr1 1 = .ptr 0 0 := (K.2 1 (by decide)).trans (by simp [hl])
      rw [if_neg (by omega)] at hv
      clear K
      simp [hl1, k1]
      refine Ends.mono (hG _ _ ?_ ?_ ?_ ?_) ?_ <;> first | (simp [hl1]; done) | skip
      rintro e fr2 h2 ⟨K, ⟨rfl, hz⟩ | ⟨rfl, k2⟩⟩
      · have hl2 : fr2.length = 50 := K.1.trans (by simp [hl1])
        simp [hl2, hv, hz]
      · simp [k2, hv]
    · rw [if_pos hz] at hv
      simp [k2, hv]
  · rw [if_pos hq] at hv
    subst hv
    simp [x_syntax_Valid, hl, h0, hH, hq]

theorem pc_numbers (n : Nar) : pc Q n_ref22_numbers [narV n] = some (.int .i64 (numE n)) := by
  refine pcQ res_ref22_numbers rfl (by simp [x_ref22_numbers]) fun fr hl ha => ?_
  have h0 := ha 0
  clear ha
  have hq : numE n = if n.roles.length < 2 then 8 else if 4 < n.roles.length ∨ 12 < n.fresh.length ∨ 8 < n.tags.length then 3 else if n.steps.length = 0 then 8 else if 8 < n.steps.length ∨ 8 < n.goals.length then 3 else 0 := rfl
  generalize numE n = q at *
  obtain ⟨name, rm, roles, fm, fresh, tm, tags, sm, steps, gm, goals⟩ := n
  simp only [narV] at *
  simp [x_ref22_numbers] at hl h0
  by_cases c1 : (roles.length : Int) < 2
  · rw [if_pos (by omega)] at hq
    subst hq
    simp [x_ref22_numbers, hl, h0, dec_t c1]
  rw [if_neg (by omega)] at hq
  by_cases c2 : (4 : Int) < (roles.length : Int)
  · rw [if_pos (.inl (by omega))] at hq
    subst hq
    simp [x_ref22_numbers, hl, h0, dec_f c1, dec_t c2]
  by_cases c3 : (12 : Int) < (fresh.length : Int)
  · rw [if_pos (.inr (.inl (by omega)))] at hq
    subst hq
    simp [x_ref22_numbers, hl, h0, dec_f c1, dec_f c2, dec_t c3]
  by_cases c4 : (8 : Int) < (tags.length : Int)
  · rw [if_pos (.inr (.inr (by omega)))] at hq
    subst hq
    simp [x_ref22_numbers, hl, h0, dec_f c1, dec_f c2, dec_f c3, dec_t c4]
  rw [if_neg (by omega)] at hq
  by_cases c5 : (steps.length : Int) = 0
  · rw [if_pos (by omega)] at hq
    subst hq
    have c5' : steps = [] := List.eq_nil_of_length_eq_zero (by omega)
    subst c5'
    simp [x_ref22_numbers, hl, h0, dec_f c1, dec_f c2, dec_f c3, dec_f c4]
  rw [if_neg (by omega)] at hq
  have c5n : ¬steps = [] := fun e => c5 (by rw [e]; rfl)
  by_cases c6 : (8 : Int) < (steps.length : Int)
  · rw [if_pos (.inl (by omega))] at hq
    subst hq
    simp [x_ref22_numbers, hl, h0, dec_f c1, dec_f c2, dec_f c3, dec_f c4, c5n, dec_t c6]
  by_cases c7 : (8 : Int) < (goals.length : Int)
  · rw [if_pos (.inr (by omega))] at hq
    subst hq
    simp [x_ref22_numbers, hl, h0, dec_f c1, dec_f c2, dec_f c3, dec_f c4, c5n, dec_f c6, dec_t c7]
  rw [if_neg (by omega)] at hq
  subst hq
  simp [x_ref22_numbers, hl, h0, dec_f c1, dec_f c2, dec_f c3, dec_f c4, c5n, dec_f c6, dec_f c7]

theorem pc_names2 (a b : ByteArray) : pc Q n_ref22_names [sl (true, true) 1 [.str a, .str b]] = some (.bool (lexN a && lexN b)) := by
  have h := pc_names (true, true) [a, b] (by simp)
  simp only [strsV, List.map_cons, List.map_nil, List.any_cons, List.any_nil, wrgB, Bool.or_false, Bool.not_or, Bool.not_not] at h
  exact h

theorem rloop_fresh (m : Bool × Bool) (l : List Fre) (hlen : l.length ≤ 1099511627776) (b0 b1 b3 b4 b5 : AV)
    (fr : Fr) (h : AH) (hh : h = ⟨[[b0, b1, sl m 3 (l.map frV), b3, b4, b5]], []⟩) (hl : fr.length = 107) (h1 : look fr 1 = .ptr 0 0) (h4 : look fr 4 = .int .i64 0) :
    Ends (lp (evalCode (lim Q) (ctxF n_ref22_Valid) x_ref22_Valid_2) (fr, h)) fun e fr' h' => Kp x_ref22_Valid_2.wr fr fr' ∧ (∃ bx, h' = ⟨[b0, b1, sl m 3 (l.map frV), b3, b4, b5] :: bx, []⟩) ∧ (e = .exit 0 ∧ firstE freE l = 0 ∨ e = .ret ∧ look fr' 2 = .int .i64 (firstE freE l) ∧ firstE freE l ≠ 0) := by
  refine Ends_lpw rfl fr (fun n fr h' => ∃ (i : Nat), i + n = l.length ∧ look fr 4 = .int .i64 (i : Nat) ∧ (∃ bx, h' = ⟨[b0, b1, sl m 3 (l.map frV), b3, b4, b5] :: bx, []⟩) ∧ firstE freE (l.drop i) = firstE freE l) ?_ l.length h ⟨0, by omega, h4, ⟨[], hh⟩, rfl⟩
  rintro J Φ hJ hΦ n fr1 h1' K ⟨i, hi, k4, ⟨bx, rfl⟩, hr⟩
  have hl1 : fr1.length = 107 := K.1.trans hl
  have k1 := (K.2 1 (by decide)).trans h1
  by_cases hlt : i < l.length
  · have hx := nth_map (f := frV) (List.getElem?_eq_getElem hlt)
    have hw : IntKind.i64.wrap ((i : Int) + 1) = (i : Int) + 1 := wrap_id (by omega) (by omega)
    have hN := pc_names2 l[i].role l[i].name
    rw [List.drop_eq_getElem_cons hlt] at hr
    simp only [firstE] at hr
    generalize l[i] = f at *
    have hfe : freE f = if lexN f.role = false ∨ lexN f.name = false then 2 else if f.sort < 2 ∨ 4 < f.sort then 10 else 0 := rfl
    generalize freE f = e at *
    obtain ⟨r, nm, so⟩ := f
    simp only [frV] at *
    have hrb : (lexN r && lexN nm) = false ↔ (lexN r = false ∨ lexN nm = false) := by cases lexN r <;> cases lexN nm <;> decide
    generalize lexN r = rb at *
    generalize lexN nm = nb at *
    generalize (rb && nb) = ab at *
    generalize firstE freE l = tot at *
    have fin2 : e ≠ 0 → e = tot := fun q => by rw [if_pos q] at hr; exact hr
    cases ab with
    | false =>
      rw [if_pos (hrb.1 rfl)] at hfe
      have := fin2 (by omega)
      simp [x_ref22_Valid_2, hl1, k1, k4, hlt, hx, sliceParts, hN]
      exact hΦ _ _ _ ⟨⟨_, rfl⟩, .inr ⟨rfl, by simp [hl1]; omega, by omega⟩⟩
    | true =>
      rw [if_neg (fun q => by simpa using hrb.2 q)] at hfe
      by_cases c1 : so = 2
      · rw [if_neg (by omega)] at hfe
        rw [if_neg (by simp [hfe])] at hr
        simp [x_ref22_Valid_2, hl1, k1, k4, hlt, hx, hw, sliceParts, hN, dec_t c1]
        exact ⟨n - 1, by omega, hJ _ _ _ ⟨i + 1, by omega, by simp [hl1], ⟨_, rfl⟩, hr⟩⟩
      · by_cases c2 : so = 3
        · rw [if_neg (by omega)] at hfe
          rw [if_neg (by simp [hfe])] at hr
          simp [x_ref22_Valid_2, hl1, k1, k4, hlt, hx, hw, sliceParts, hN, dec_f c1, dec_t c2]
          exact ⟨n - 1, by omega, hJ _ _ _ ⟨i + 1, by omega, by simp [hl1], ⟨_, rfl⟩, hr⟩⟩
        · by_cases c3 : so = 4
          · rw [if_neg (by omega)] at hfe
            rw [if_neg (by simp [hfe])] at hr
            simp [x_ref22_Valid_2, hl1, k1, k4, hlt, hx, hw, sliceParts, hN, dec_f c1, dec_f c2, dec_t c3]
            exact ⟨n - 1, by omega, hJ _ _ _ ⟨i + 1, by omega, by simp [hl1], ⟨_, rfl⟩, hr⟩⟩
          · rw [if_pos (by omega)] at hfe
            have := fin2 (by omega)
            simp [x_ref22_Valid_2, hl1, k1, k4, hlt, hx, sliceParts, hN, dec_f c1, dec_f c2, dec_f c3]
            exact hΦ _ _ _ ⟨⟨_, rfl⟩, .inr ⟨rfl, by simp [hl1]; omega, by omega⟩⟩
  · rw [List.drop_eq_nil_of_le (by omega)] at hr
    simp [x_ref22_Valid_2, hl1, k1, k4, hlt]
    exact hΦ _ _ _ ⟨⟨_, rfl⟩, .inl ⟨rfl, hr.symm⟩⟩

theorem rloop_steps (m : Bool × Bool) (l : List Ste) (hs : ∀ s ∈ l, s.frm.size ≤ 1099511627776 ∧ s.to.size ≤ 1099511627776 ∧ s.msg.size ≤ 1099511627776) (hlen : l.length ≤ 1099511627776) (b0 b1 b2 b3 b5 : AV) (bx : List (List AV))
    (fr : Fr) (h : AH) (hh : h = ⟨[b0, b1, b2, b3, sl m 7 (l.map stV), b5] :: bx, []⟩) (hl : fr.length = 107) (h1 : look fr 1 = .ptr 0 0) (h6 : look fr 6 = .int .i64 0) :
    Ends (lp (evalCode (lim Q) (ctxF n_ref22_Valid) x_ref22_Valid_1) (fr, h)) fun e fr' h' => Kp x_ref22_Valid_1.wr fr fr' ∧ h' = h ∧ (e = .exit 2 ∧ firstE steE l = 0 ∨ e = .ret ∧ look fr' 2 = .int .i64 (firstE steE l) ∧ firstE steE l ≠ 0) := by
  refine Ends_lpw rfl fr (fun n fr h' => ∃ (i : Nat), i + n = l.length ∧ look fr 6 = .int .i64 (i : Nat) ∧ h' = h ∧ firstE steE (l.drop i) = firstE steE l) ?_ l.length h ⟨0, by omega, h6, rfl, rfl⟩
  rintro J Φ hJ hΦ n fr1 h1' K ⟨i, hi, k6, rfl, hr⟩
  subst hh
  have hl1 : fr1.length = 107 := K.1.trans hl
  have k1 := (K.2 1 (by decide)).trans h1
  by_cases hlt : i < l.length
  · have hx := nth_map (f := stV) (List.getElem?_eq_getElem hlt)
    have hw : IntKind.i64.wrap ((i : Int) + 1) = (i : Int) + 1 := wrap_id (by omega) (by omega)
    obtain ⟨s1, s2, s3⟩ := hs _ (List.getElem_mem hlt)
    have hN := pc_names2 l[i].frm l[i].to
    have hM := pc_refmessage l[i].msg s3
    rw [List.drop_eq_getElem_cons hlt] at hr
    simp only [firstE] at hr
    generalize l[i] = f at *
    have hfe : steE f = if lexN f.frm = false ∨ lexN f.to = false then 2 else msgE f.msg := rfl
    generalize steE f = e at *
    obtain ⟨r, nm, t, ln⟩ := f
    simp only at *
    have hrb : (lexN r && lexN nm) = false ↔ (lexN r = false ∨ lexN nm = false) := by cases lexN r <;> cases lexN nm <;> decide
    generalize lexN r = rb at *
    generalize lexN nm = nb at *
    generalize (rb && nb) = ab at *
    generalize msgE t = me at *
    obtain ⟨tk, tn, ts, tm, tl⟩ := t
    simp only [stV, tmV, cells_agg, List.cons_append, List.nil_append] at hx hM
    generalize firstE steE l = tot at *
    have fin2 : e ≠ 0 → e = tot := fun q => by rw [if_pos q] at hr; exact hr
    cases ab with
    | false =>
      rw [if_pos (hrb.1 rfl)] at hfe
      have := fin2 (by omega)
      simp [x_ref22_Valid_1, hl1, k1, k6, hlt, hx, sliceParts, hN]
      exact hΦ _ _ _ ⟨rfl, .inr ⟨rfl, by simp [hl1]; omega, by omega⟩⟩
    | true =>
      rw [if_neg (fun q => by simpa using hrb.2 q)] at hfe
      by_cases hz : me = 0
      · rw [if_neg (by simp [hfe, hz])] at hr
        simp [x_ref22_Valid_1, hl1, k1, k6, hlt, hx, hw, sliceParts, hN, hM, hz]
        exact ⟨n - 1, by omega, hJ _ _ _ ⟨i + 1, by omega, by simp [hl1], rfl, hr⟩⟩
      · have := fin2 (by omega)
        simp [x_ref22_Valid_1, hl1, k1, k6, hlt, hx, sliceParts, hN, hM, hz]
        exact hΦ _ _ _ ⟨rfl, .inr ⟨rfl, by simp [hl1]; omega, by omega⟩⟩
  · rw [List.drop_eq_nil_of_le (by omega)] at hr
    simp [x_ref22_Valid_1, hl1, k1, k6, hlt]
    exact hΦ _ _ _ ⟨rfl, .inl ⟨rfl, hr.symm⟩⟩

theorem rloop_goals (m : Bool × Bool) (l : List Gol) (hs : ∀ g ∈ l, Tm.sizes g.data ≤ 1099511627776) (hlen : l.length ≤ 1099511627776) (b0 b1 b2 b3 b4 : AV) (bx : List (List AV))
    (fr : Fr) (h : AH) (hh : h = ⟨[b0, b1, b2, b3, b4, sl m 5 (l.map goV)] :: bx, []⟩) (hl : fr.length = 107) (h1 : look fr 1 = .ptr 0 0) (h8 : look fr 8 = .int .i64 0) :
    Ends (lp (evalCode (lim Q) (ctxF n_ref22_Valid) x_ref22_Valid_0) (fr, h)) fun e fr' h' => Kp x_ref22_Valid_0.wr fr fr' ∧ (e = .exit 4 ∧ firstE golE l = 0 ∨ e = .ret ∧ look fr' 2 = .int .i64 (firstE golE l)) := by
  refine Ends_lpw rfl fr (fun n fr h' => ∃ (i : Nat), i + n = l.length ∧ look fr 8 = .int .i64 (i : Nat) ∧ h' = h ∧ firstE golE (l.drop i) = firstE golE l) ?_ l.length h ⟨0, by omega, h8, rfl, rfl⟩
  rintro J Φ hJ hΦ n fr1 h1' K ⟨i, hi, k8, rfl, hr⟩
  subst hh
  have hl1 : fr1.length = 107 := K.1.trans hl
  have k1 := (K.2 1 (by decide)).trans h1
  by_cases hlt : i < l.length
  · have hx := nth_map (f := goV) (List.getElem?_eq_getElem hlt)
    have hw : IntKind.i64.wrap ((i : Int) + 1) = (i : Int) + 1 := wrap_id (by omega) (by omega)
    have hM := pc_refgoal l[i] (hs _ (List.getElem_mem hlt))
    rw [List.drop_eq_getElem_cons hlt] at hr
    simp only [firstE] at hr
    generalize l[i] = f at *
    generalize golE f = e at *
    simp only [goV] at hx hM
    by_cases hz : e = 0
    · rw [if_neg (by simp [hz])] at hr
      simp [x_ref22_Valid_0, hl1, k1, k8, hlt, hx, hw, hM, hz]
      exact ⟨n - 1, by omega, hJ _ _ _ ⟨i + 1, by omega, by simp [hl1], rfl, hr⟩⟩
    · rw [if_pos hz] at hr
      simp [x_ref22_Valid_0, hl1, k1, k8, hlt, hx, hM, hz]
      exact hΦ _ _ _ (.inr ⟨rfl, by simp [hl1, hr]⟩)
  · rw [List.drop_eq_nil_of_le (by omega)] at hr
    simp [x_ref22_Valid_0, hl1, k1, k8, hlt]
    exact hΦ _ _ _ (.inl ⟨rfl, hr.symm⟩)

theorem pc_refnarValid (n : Nar) (F : Fine n) : pc Q n_ref22_Valid [narV n] = some (.int .i64 (narE n)) := by
  have hN := pc_refIsName n.name
  have hU := pc_numbers n
  have hR := pc_names n.rm n.roles F.rolesL
  have hT := pc_names n.tm n.tags F.tagsL
  have hS := rloop_steps n.sm n.steps F.steps F.stepsL
  have hG := rloop_goals n.gm n.goals (fun g hg => (F.goals g hg).2.2) F.goalsL
  have hFr := rloop_fresh n.fm n.fresh F.freshL
  refine pcQ res_ref22_Valid rfl (by simp [x_ref22_Valid]) fun fr hl ha => ?_
  have h0 := ha 0
  clear ha
  have hv : narE n = if headE n ≠ 0 then headE n else if firstE steE n.steps ≠ 0 then firstE steE n.steps else firstE golE n.goals := rfl
  have hhd : headE n = if lexN n.name = false then 2 else if numE n ≠ 0 then numE n else if n.roles.any wrgB = true then 2 else if firstE freE n.fresh ≠ 0 then firstE freE n.fresh else if n.tags.any wrgB = true then 2 else 0 := rfl
  generalize narE n = v at *
  generalize headE n = q at *
  generalize numE n = u at *
  clear F
  obtain ⟨name, rm, roles, fm, fresh, tm, tags, sm, steps, gm, goals⟩ := n
  simp only [narV, strsV] at *
  generalize lexN name = nb at *
  generalize roles.any wrgB = rb at *
  generalize tags.any wrgB = tb at *
  generalize firstE freE fresh = fe at *
  generalize firstE steE steps = se at *
  generalize firstE golE goals = ge at *
  simp [x_ref22_Valid] at hl h0
  cases nb with
  | false =>
    rw [if_pos rfl] at hhd
    rw [if_pos (by omega)] at hv
    subst hv hhd
    simp [x_ref22_Valid, hl, h0, hN]
  | true =>
    rw [if_neg (by simp)] at hhd
    by_cases hu : u = 0
    · subst hu
      rw [if_neg (by simp)] at hhd
      cases rb with
      | true =>
        rw [if_pos rfl] at hhd
        rw [if_pos (by omega)] at hv
        subst hv hhd
        simp [x_ref22_Valid, hl, h0, hN, hU, hR]
      | false =>
        rw [if_neg (by simp)] at hhd
        simp [x_ref22_Valid, hl, h0, hN, hU, hR]
        refine Ends.mono (hFr _ _ _ _ _ _ _ rfl ?_ ?_ ?_) ?_ <;> first | (simp [hl]; done) | skip
        rintro e fr1 h1 ⟨K, ⟨bx, rfl⟩, ⟨rfl, hz⟩ | ⟨rfl, k2, hz⟩⟩
        · have hl1 : fr1.length = 107 := K.1.trans (by simp [hl])
          have k1 : look fr1 1 = .ptr 0 0 := (K.2 1 (by decide)).trans (by simp [hl])
          clear K
          rw [if_neg (by omega)] at hhd
          cases tb with
          | true =>
            rw [if_pos rfl] at hhd
            rw [if_pos (by omega)] at hv
            subst hv hhd
            simp [hl1, k1, hT]
          | false =>
            rw [if_neg (by simp)] at hhd
            rw [if_neg (by omega)] at hv
            simp [hl1, k1, hT]
            refine Ends.mono (hS _ _ _ _ _ bx _ _ rfl ?_ ?_ ?_) ?_ <;> first | (simp [hl1, k1]; done) | skip
            rintro e fr2 h2 ⟨K, rfl, ⟨rfl, hz⟩ | ⟨rfl, k2, hz⟩⟩
            · have hl2 : fr2.length = 107 := K.1.trans (by simp [hl1])
              have k1' : look fr2 1 = .ptr 0 0 := (K.2 1 (by decide)).trans (by simp [k1])
              clear K
              rw [if_neg (by omega)] at hv
              simp
              refine Ends.mono (hG _ _ _ _ _ bx _ _ rfl ?_ ?_ ?_) ?_ <;> first | (simp [hl2, k1']; done) | skip
              rintro e fr3 h3 ⟨K, ⟨rfl, hz⟩ | ⟨rfl, k2⟩⟩
              · have hl3 : fr3.length = 107 := K.1.trans (by simp [hl2])
                simp [hl3, hv, hz]
              · simp [k2, hv]
            · rw [if_pos hz] at hv
              simp [k2, hv]
        · rw [if_pos hz] at hhd
          rw [if_pos (by omega)] at hv
          simp [k2, hv, hhd]
    · rw [if_pos hu] at hhd
      rw [if_pos (by omega)] at hv
      subst hv hhd
      simp [x_ref22_Valid, hl, h0, hN, hU, hu]
end Go.Abs.Q
