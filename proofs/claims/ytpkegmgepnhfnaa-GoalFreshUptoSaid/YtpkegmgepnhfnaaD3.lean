/- Contracts: sizes of terms, the reference's; comparing strings and terms. -/
import Derived.Test.YtpkegmgepnhfnaaD2
namespace Go.Abs.Q
attribute [local simp] look_set_ne look_set_eq fin tupled code_loop raw_term_Size raw_ref01_Size raw_bytealg_CompareString raw_strings_Compare raw_term_sign raw_ref01_number raw_term_Compare raw_ref01_Compare

theorem pc_refSize : ∀ (n : Nat) (t : Tm), t.size ≤ n → t.size ≤ 1099511627776 → pc Q n_ref01_Size [tmV t] = some (.int .i64 t.size) := by
  intro n
  induction n with
  | zero => intro t h; have := t.size_pos; omega
  | succ n ih =>
    intro t hn hb
    obtain ⟨k, nm, s, m, kids⟩ := t
    have hsz : Tm.size (.mk k nm s m kids) = 1 + Tm.sizes kids := rfl
    refine pcQ res_ref01_Size rfl (by simp [x_ref01_Size]) fun fr hl ha => ?_
    have h0 := ha 0
    clear ha
    simp [x_ref01_Size, tmV] at hl h0 ⊢
    simp [h0]
    refine (Ends_list (Ψ := fun e fr h => e = .exit 0 ∧ look fr 3 = .int .i64 (1 + Tm.sizes kids : Nat) ∧ fr.length = 21) kids
      (fun done fr h => fr.length = 21 ∧ look fr 1 = .ptr 0 0 ∧ h = ⟨[[.int .i64 k, .str nm, .int .i64 s, sl m 4 (tmVs kids)]], []⟩ ∧ look fr 3 = .int .i64 (1 + Tm.sizes done : Nat) ∧ look fr 4 = .int .i64 done.length) ?_ ?_ _ _ ?_).mono ?_
    · rintro fr h ⟨hl, h1, rfl, h3, h4⟩
      simp [x_ref01_Size_0, tmVs_map, *]
    · rintro done t rest he fr h ⟨hl, h1, rfl, h3, h4⟩
      have hget : nth (tmVs kids) done.length = some (tmV t) := nth_tmVs (by rw [← he]; simp)
      have hlt : done.length < kids.length := by rw [← he]; simp
      have hts : t.size ≤ Tm.sizes kids := Tm.size_le (by rw [← he]; simp)
      have hT := ih t (by omega) (by omega)
      have hlen := Tm.length_le kids
      have hsum : Tm.sizes done + (t.size + Tm.sizes rest) = Tm.sizes kids := by rw [← he, Tm.sizes_append]; rfl
      have hw1 : IntKind.i64.wrap (1 + (Tm.sizes done : Int) + (t.size : Int)) = 1 + (Tm.sizes (done ++ [t]) : Int) := by
        rw [Tm.sizes_append, wrap_id (by omega) (by omega)]
        simp only [Tm.sizes]
        omega
      have hw2 : IntKind.i64.wrap ((done.length : Int) + 1) = ((done ++ [t]).length : Nat) := by
        rw [wrap_id (by omega) (by omega)]
        simp
      obtain ⟨tk, tn, ts, tm, tl⟩ := t
      simp only [tmV] at hT hget
      simp [x_ref01_Size_0, *]
    · simp [*, Tm.sizes]
    · rintro e fr h ⟨rfl, h3, hl⟩
      simp [*]

theorem pc_strCmp (a b : ByteArray) : pc Q n_strings_Compare [.str a, .str b] = some (.int .i64 (cmpBytes a b)) := by
  refine pcQ res_strings_Compare rfl (by simp [x_strings_Compare]) fun fr hl ha => ?_
  have h0 := ha 0
  have h1 := ha 1
  clear ha
  simp [x_strings_Compare] at hl h0 h1 ⊢
  simp [*, pc_cmp]

def nz (a b : Int) : Int := if a = 0 then b else a
mutual
def cmpT : Tm → Tm → Int
  | .mk k n s _ l, .mk k' n' s' _ l' => nz (cmpI (1 + Tm.sizes l : Nat) (1 + Tm.sizes l' : Nat)) (nz (cmpI k k') (nz (cmpBytes n n') (nz (cmpI s s') (nz (cmpI l.length l'.length) (cmpTs l l')))))
def cmpTs : List Tm → List Tm → Int
  | t :: l, t' :: l' => nz (cmpT t t') (cmpTs l l')
  | _, _ => 0
end

theorem cmpI_len {a b : Nat} (h : cmpI (a : Int) (b : Int) = 0) : a = b := by
  unfold cmpI at h
  split at h
  · omega
  · split at h <;> omega
theorem cmpTs_nil (l : List Tm) : cmpTs [] l = 0 := by cases l <;> rfl

theorem pc_Compare : ∀ (n : Nat) (t t' : Tm), t.size ≤ n → t.size ≤ 1099511627776 → t'.size ≤ 1099511627776 → pc Q n_term_Compare [tmV t, tmV t'] = some (.int .i64 (cmpT t t')) := by
  intro n
  induction n with
  | zero => intro t t' h; have := t.size_pos; omega
  | succ n ih =>
    intro t t' hn hb hb'
    have hS := pc_Size _ t (Nat.le_refl _) hb
    have hS' := pc_Size _ t' (Nat.le_refl _) hb'
    obtain ⟨k, nm, s, m, l⟩ := t
    obtain ⟨k', nm', s', m', l'⟩ := t'
    have hsz : Tm.size (.mk k nm s m l) = 1 + Tm.sizes l := rfl
    have hsz' : Tm.size (.mk k' nm' s' m' l') = 1 + Tm.sizes l' := rfl
    have hlen := Tm.length_le l
    simp only [tmV, hsz, hsz'] at hS hS'
    have loop : ∀ (fr : Fr) (c : Int), fr.length = 65 → look fr 2 = .ptr 0 0 → look fr 3 = .ptr 1 0 → look fr 5 = .int .i64 c → look fr 6 = .int .i64 0 → (c = 0 → l.length = l'.length) →
        Ends (lp (evalCode (lim Q) (ctxF n_term_Compare) x_term_Compare_0) (fr, ⟨[[.int .i64 k, .str nm, .int .i64 s, sl m 4 (tmVs l)], [.int .i64 k', .str nm', .int .i64 s', sl m' 4 (tmVs l')]], []⟩))
          fun e fr' _ => e = .exit 0 ∧ fr'.length = 65 ∧ look fr' 5 = .int .i64 (nz c (cmpTs l l')) := by
      intro fr c hl h2 h3 h5 h6 hc
      refine Ends_lp (fun n fr h => ∃ i c', i + n = l.length ∧ fr.length = 65 ∧ look fr 2 = .ptr 0 0 ∧ look fr 3 = .ptr 1 0 ∧ look fr 5 = .int .i64 c' ∧ look fr 6 = .int .i64 (i : Nat) ∧ (c' = 0 → l.length = l'.length) ∧
        nz c' (cmpTs (l.drop i) (l'.drop i)) = nz c (cmpTs l l') ∧ h = ⟨[[.int .i64 k, .str nm, .int .i64 s, sl m 4 (tmVs l)], [.int .i64 k', .str nm', .int .i64 s', sl m' 4 (tmVs l')]], []⟩) ?_ l.length fr _ ⟨0, c, by omega, hl, h2, h3, h5, h6, hc, rfl, rfl⟩
      rintro n fr h ⟨i, c', hi, hl, h2, h3, h5, h6, hc', hr, rfl⟩
      by_cases hc0 : c' = 0
      · subst hc0
        have hle := hc' rfl
        by_cases hlt : i < l.length
        · have hx : nth (tmVs l) i = some (tmV l[i]) := nth_tmVs (by simp [hlt])
          have hx' : nth (tmVs l') i = some (tmV (l'[i]'(by omega))) := nth_tmVs (by simp [show i < l'.length by omega])
          have s1 := Tm.size_le (List.getElem_mem hlt)
          have s2 := Tm.size_le (List.getElem_mem (show i < l'.length by omega))
          have hT := ih l[i] (l'[i]'(by omega)) (by omega) (by omega) (by omega)
          have hw : IntKind.i64.wrap ((i : Int) + 1) = (i : Int) + 1 := wrap_id (by omega) (by omega)
          rw [List.drop_eq_getElem_cons hlt, List.drop_eq_getElem_cons (show i < l'.length by omega)] at hr
          simp only [cmpTs, nz, if_true] at hr
          generalize l[i] = t at *
          generalize l'[i]'(by omega) = t' at *
          obtain ⟨tk, tn, ts, tm, tl⟩ := t
          obtain ⟨tk', tn', ts', tm', tl'⟩ := t'
          simp only [tmV] at hT hx hx'
          clear ih hS hS' hc hsz hsz'
          simp [x_term_Compare_0, hl, h2, h3, h5, h6, hlt, hx, hx', hT, hw]
          exact ⟨n - 1, by omega, i + 1, by omega, by simp, fun _ => hle, hr⟩
        · have h0 : l.length ≤ i := by omega
          rw [List.drop_eq_nil_of_le h0, cmpTs_nil] at hr
          clear ih hS hS' hc hsz hsz' hle hc'
          simp [x_term_Compare_0, hl, h2, h3, h5, h6, hlt]
          exact hr
      · clear ih hS hS' hc hsz hsz'
        simp [x_term_Compare_0, *]
        simpa [nz, hc0] using hr
    refine pcQ res_term_Compare rfl (by simp [x_term_Compare]) fun fr hl ha => ?_
    have h0 := ha 0
    have h1 := ha 1
    clear ha ih
    simp [x_term_Compare, tmV] at hl h0 h1 ⊢
    by_cases e0 : cmpI (1 + (Tm.sizes l : Int)) (1 + (Tm.sizes l' : Int)) = 0
    · by_cases e1 : cmpI k k' = 0
      · by_cases e2 : cmpBytes nm nm' = 0
        · by_cases e3 : cmpI s s' = 0
          · by_cases e4 : cmpI (l.length : Int) (l'.length : Int) = 0
            · simp [e0, e1, e2, e3, e4, h0, h1, hl, hS, hS', pc_sign, pc_strCmp]
              refine (loop _ (0) (by simp [hl]) (by simp [hl]) (by simp [hl]) (by simp [hl]) (by simp [hl]) ?_).mono ?_
              · intro hc
                exact cmpI_len e4
              · rintro e fr h ⟨rfl, hl, h5⟩
                simp [hl, h5, cmpT, nz, e0, e1, e2, e3, e4]
            · simp [e0, e1, e2, e3, e4, h0, h1, hl, hS, hS', pc_sign, pc_strCmp]
              refine (loop _ (cmpI (l.length : Int) (l'.length : Int)) (by simp [hl]) (by simp [hl]) (by simp [hl]) (by simp [hl]) (by simp [hl]) ?_).mono ?_
              · intro hc
                exact absurd hc e4
              · rintro e fr h ⟨rfl, hl, h5⟩
                simp [hl, h5, cmpT, nz, e0, e1, e2, e3, e4]
          · simp [e0, e1, e2, e3, h0, h1, hl, hS, hS', pc_sign, pc_strCmp]
            refine (loop _ (cmpI s s') (by simp [hl]) (by simp [hl]) (by simp [hl]) (by simp [hl]) (by simp [hl]) ?_).mono ?_
            · intro hc
              exact absurd hc e3
            · rintro e fr h ⟨rfl, hl, h5⟩
              simp [hl, h5, cmpT, nz, e0, e1, e2, e3]
        · simp [e0, e1, e2, h0, h1, hl, hS, hS', pc_sign, pc_strCmp]
          refine (loop _ (cmpBytes nm nm') (by simp [hl]) (by simp [hl]) (by simp [hl]) (by simp [hl]) (by simp [hl]) ?_).mono ?_
          · intro hc
            exact absurd hc e2
          · rintro e fr h ⟨rfl, hl, h5⟩
            simp [hl, h5, cmpT, nz, e0, e1, e2]
      · simp [e0, e1, h0, h1, hl, hS, hS', pc_sign, pc_strCmp]
        refine (loop _ (cmpI k k') (by simp [hl]) (by simp [hl]) (by simp [hl]) (by simp [hl]) (by simp [hl]) ?_).mono ?_
        · intro hc
          exact absurd hc e1
        · rintro e fr h ⟨rfl, hl, h5⟩
          simp [hl, h5, cmpT, nz, e0, e1]
    · simp [e0, h0, h1, hl, hS, hS', pc_sign, pc_strCmp]
      refine (loop _ (cmpI (1 + (Tm.sizes l : Int)) (1 + (Tm.sizes l' : Int))) (by simp [hl]) (by simp [hl]) (by simp [hl]) (by simp [hl]) (by simp [hl]) ?_).mono ?_
      · intro hc
        exact absurd hc e0
      · rintro e fr h ⟨rfl, hl, h5⟩
        simp [hl, h5, cmpT, nz, e0]
end Go.Abs.Q
