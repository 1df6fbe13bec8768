/- Contracts: sizes of terms. -/
import Derived.Test.YtpkegmgepnhfnaaD1
namespace Go.Abs.Q
attribute [local simp] look_set_ne look_set_eq fin tupled code_loop raw_term_Size raw_ref01_Size

theorem pc_Size : ∀ (n : Nat) (t : Tm), t.size ≤ n → t.size ≤ 1099511627776 → pc Q n_term_Size [tmV t] = some (.int .i64 t.size) := by
  intro n
  induction n with
  | zero => intro t h; have := t.size_pos; omega
  | succ n ih =>
    intro t hn hb
    obtain ⟨k, nm, s, m, kids⟩ := t
    have hsz : Tm.size (.mk k nm s m kids) = 1 + Tm.sizes kids := rfl
    refine pcQ res_term_Size rfl (by simp [x_term_Size]) fun fr hl ha => ?_
    have h0 := ha 0
    clear ha
    simp [x_term_Size, tmV] at hl h0 ⊢
    simp [*]
    refine (Ends_list (Ψ := fun e fr h => e = .exit 0 ∧ look fr 3 = .int .i64 (1 + Tm.sizes kids : Nat) ∧ fr.length = 19) kids
      (fun done fr h => fr.length = 19 ∧ look fr 3 = .int .i64 (1 + Tm.sizes done : Nat) ∧ look fr 7 = sl m 4 (tmVs kids) ∧ look fr 8 = .int .i64 kids.length ∧ look fr 9 = .int .i64 done.length) ?_ ?_ _ _ ?_).mono ?_
    · rintro fr h ⟨hl, h3, h7, h8, h9⟩
      simp [x_term_Size_0, *]
    · rintro done t rest he fr h ⟨hl, h3, h7, h8, h9⟩
      have hget : nth (tmVs kids) done.length = some (tmV t) := nth_tmVs (by rw [← he]; simp)
      have hlt : done.length < kids.length := by rw [← he]; simp
      have hts : t.size ≤ Tm.sizes kids := Tm.size_le (by rw [← he]; simp)
      have hT := ih t (by omega) (by omega)
      have hlen := Tm.length_le kids
      have hsum : Tm.sizes done + (t.size + Tm.sizes rest) = Tm.sizes kids := by rw [← he, Tm.sizes_append]; rfl
      have hw1 : IntKind.i64.wrap (1 + (Tm.sizes done : Int) + (t.size : Int)) = 1 + (Tm.sizes (done ++ [t]) : Int) := by
        rw [Tm.sizes_append, wrap_id (by omega) (by omega)]
        simp only [Tm.sizes]
        omega
      have hw2 : IntKind.i64.wrap ((done.length : Int) + 1) = ((done ++ [t]).length : Nat) := by
        rw [wrap_id (by omega) (by omega)]
        simp
      obtain ⟨tk, tn, ts, tm, tl⟩ := t
      simp only [tmV] at hT hget
      simp [x_term_Size_0, *]
    · simp [*, Tm.sizes, tmVs_map]
    · rintro e fr h ⟨rfl, h3, hl⟩
      simp [*]
end Go.Abs.Q
