/- Contracts: comparing terms, the reference's. -/
import Derived.Test.YtpkegmgepnhfnaaD3
namespace Go.Abs.Q
attribute [local simp] look_set_ne look_set_eq fin tupled code_loop raw_term_Size raw_ref01_Size raw_bytealg_CompareString raw_strings_Compare raw_term_sign raw_ref01_number raw_term_Compare raw_ref01_Compare

theorem pc_refCompare : ∀ (n : Nat) (t t' : Tm), t.size ≤ n → t.size ≤ 1099511627776 → t'.size ≤ 1099511627776 → pc Q n_ref01_Compare [tmV t, tmV t'] = some (.int .i64 (cmpT t t')) := by
  intro n
  induction n with
  | zero => intro t t' h; have := t.size_pos; omega
  | succ n ih =>
    intro t t' hn hb hb'
    have hS := pc_refSize _ t (Nat.le_refl _) hb
    have hS' := pc_refSize _ t' (Nat.le_refl _) hb'
    obtain ⟨k, nm, s, m, l⟩ := t
    obtain ⟨k', nm', s', m', l'⟩ := t'
    have hsz : Tm.size (.mk k nm s m l) = 1 + Tm.sizes l := rfl
    have hsz' : Tm.size (.mk k' nm' s' m' l') = 1 + Tm.sizes l' := rfl
    have hlen := Tm.length_le l
    simp only [tmV, hsz, hsz'] at hS hS'
    have loop : ∀ (fr : Fr), fr.length = 76 → look fr 2 = .ptr 0 0 → look fr 3 = .ptr 1 0 → look fr 9 = .int .i64 0 → l.length = l'.length →
        Ends (lp (evalCode (lim Q) (ctxF n_ref01_Compare) x_ref01_Compare_0) (fr, ⟨[[.int .i64 k, .str nm, .int .i64 s, sl m 4 (tmVs l)], [.int .i64 k', .str nm', .int .i64 s', sl m' 4 (tmVs l')]], []⟩))
          fun e fr' _ => fr'.length = 76 ∧ (e = .exit 0 ∧ cmpTs l l' = 0 ∨ e = .ret ∧ look fr' 4 = .int .i64 (cmpTs l l')) := by
      intro fr hl h2 h3 h9 hle
      refine Ends_lp (fun n fr h => ∃ i, i + n = l.length ∧ fr.length = 76 ∧ look fr 2 = .ptr 0 0 ∧ look fr 3 = .ptr 1 0 ∧ look fr 9 = .int .i64 (i : Nat) ∧
        cmpTs (l.drop i) (l'.drop i) = cmpTs l l' ∧ h = ⟨[[.int .i64 k, .str nm, .int .i64 s, sl m 4 (tmVs l)], [.int .i64 k', .str nm', .int .i64 s', sl m' 4 (tmVs l')]], []⟩) ?_ l.length fr _ ⟨0, by omega, hl, h2, h3, h9, rfl, rfl⟩
      rintro n fr h ⟨i, hi, hl, h2, h3, h9, hr, rfl⟩
      by_cases hlt : i < l.length
      · have hx : nth (tmVs l) i = some (tmV l[i]) := nth_tmVs (by simp [hlt])
        have hx' : nth (tmVs l') i = some (tmV (l'[i]'(by omega))) := nth_tmVs (by simp [show i < l'.length by omega])
        have s1 := Tm.size_le (List.getElem_mem hlt)
        have s2 := Tm.size_le (List.getElem_mem (show i < l'.length by omega))
        have hT := ih l[i] (l'[i]'(by omega)) (by omega) (by omega) (by omega)
        have hw : IntKind.i64.wrap ((i : Int) + 1) = (i : Int) + 1 := wrap_id (by omega) (by omega)
        rw [List.drop_eq_getElem_cons hlt, List.drop_eq_getElem_cons (show i < l'.length by omega)] at hr
        simp only [cmpTs, nz] at hr
        generalize l[i] = t at *
        generalize l'[i]'(by omega) = t' at *
        obtain ⟨tk, tn, ts, tm, tl⟩ := t
        obtain ⟨tk', tn', ts', tm', tl'⟩ := t'
        simp only [tmV] at hT hx hx'
        by_cases hc : cmpT (Tm.mk tk tn ts tm tl) (Tm.mk tk' tn' ts' tm' tl') = 0
        · rw [if_pos hc] at hr
          simp [x_ref01_Compare_0, hl, h2, h3, h9, hlt, hx, hx', hT, hw, hc]
          exact ⟨n - 1, by omega, i + 1, by omega, by simp, hr⟩
        · rw [if_neg hc] at hr
          simp [x_ref01_Compare_0, hl, h2, h3, h9, hlt, hx, hx', hT, hw, hc]
          exact hr
      · have h0 : l.length ≤ i := by omega
        rw [List.drop_eq_nil_of_le h0, cmpTs_nil] at hr
        simp [x_ref01_Compare_0, hl, h2, h3, h9, hlt]
        exact hr.symm
    refine pcQ res_ref01_Compare rfl (by simp [x_ref01_Compare]) fun fr hl ha => ?_
    have h0 := ha 0
    have h1 := ha 1
    clear ha ih
    simp [x_ref01_Compare, tmV] at hl h0 h1 ⊢
    by_cases e0 : cmpI (1 + (Tm.sizes l : Int)) (1 + (Tm.sizes l' : Int)) = 0
    · by_cases e1 : cmpI k k' = 0
      · by_cases e2 : Op.bytesLess nm.toList nm'.toList = true
        · simp [e0, e1, e2, h0, h1, hl, hS, hS', pc_number]
          simp [cmpT, nz, e0, e1, e2, cmpBytes]
        · by_cases e3 : nm.toList = nm'.toList
          · have e2' := e2
            rw [e3] at e2'
            by_cases e5 : cmpI s s' = 0
            · by_cases e4 : cmpI (l.length : Int) (l'.length : Int) = 0
              · simp [e0, e1, e2, e2', e3, e5, e4, h0, h1, hl, hS, hS', pc_number]
                refine (loop _ (by simp [hl]) (by simp [hl]) (by simp [hl]) (by simp [hl]) (cmpI_len e4)).mono ?_
                rintro e fr h ⟨hl, ⟨rfl, hz⟩ | ⟨rfl, h5⟩⟩
                · simp [hl, cmpT, nz, e0, e1, e2, e2', e3, e5, e4, cmpBytes, hz]
                · simp [hl, h5, cmpT, nz, e0, e1, e2, e2', e3, e5, e4, cmpBytes]
              · simp [e0, e1, e2, e2', e3, e5, e4, h0, h1, hl, hS, hS', pc_number]
                simp [cmpT, nz, e0, e1, e2, e2', e3, e5, e4, cmpBytes]
            · simp [e0, e1, e2, e2', e3, e5, h0, h1, hl, hS, hS', pc_number]
              simp [cmpT, nz, e0, e1, e2, e2', e3, e5, cmpBytes]
          · simp [e0, e1, e2, e3, h0, h1, hl, hS, hS', pc_number]
            simp [cmpT, nz, e0, e1, e2, e3, cmpBytes]
      · simp [e0, e1, h0, h1, hl, hS, hS', pc_number]
        simp [cmpT, nz, e0, e1, cmpBytes]
    · simp [e0, h0, h1, hl, hS, hS', pc_number]
      simp [cmpT, nz, e0, cmpBytes]
end Go.Abs.Q
