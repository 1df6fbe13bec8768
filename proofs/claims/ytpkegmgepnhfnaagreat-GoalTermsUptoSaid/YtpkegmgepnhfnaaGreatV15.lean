/- Contracts: the examples of the chapter. -/
import Derived.Test.YtpkegmgepnhfnaaGreatV14
import Derived.KernelRfl
/- Contracts: copies of terms; tuples. -/
namespace Go.Abs.Q
open Go.Proofs
attribute [local simp] look_set_ne look_set_eq fin tupled code_loop Ends_brn Ends_grdt Ends_grdf toL_iff toL_dec raw_term_clone raw_term_At raw_theory_is raw_theory_copied raw_theory_Untuple raw_ref09_Is raw_ref09_Untuple

theorem frzB_of {sz : Nat} {acc : List AV} {v : AV} {h : AH} (hg : Grw sz acc v h) : ∃ m, ∀ (B : List (List AV)) (am : Bool), frz1 ⟨B, h.fams⟩ am v = some (sl m sz acc) := Grw_frzA hg

theorem loop_clone (m : Bool × Bool) (l : List Tm) (hlen : l.length ≤ 1099511627776) (IH : ∀ t ∈ l, ∃ t', pc Q n_term_clone [tmV t] = some (tmV t') ∧ erT t' = erT t) (x0 x1 x2 : AV) (C : List AV) (fr : Fr) (h : AH) (hh : h.boxes = [[x0, x1, x2, .vs true 0 []], C]) (hl : fr.length = 24) (h1 : look fr 1 = .ptr 0 0) (h9 : look fr 9 = sl m 4 (tmVs l)) (h10 : look fr 10 = .int .i64 l.length) (h11 : look fr 11 = .int .i64 0) :
    Ends (lp (evalCode (lim Q) (ctxF n_term_clone) x_term_clone_0) (fr, h)) fun e fr' h' => Kp x_term_clone_0.wr fr fr' ∧ e = .exit 0 ∧ ∃ (B : List (List AV)) (v : AV) (done : List Tm), h'.boxes = [x0, x1, x2, v] :: C :: B ∧ Grw 4 (tmVs done) v h' ∧ erTs done = erTs l := by
  refine Ends_lpw rfl fr (fun n fr h' => ∃ (i : Nat), i + n = l.length ∧ look fr 11 = .int .i64 (i : Nat) ∧ (∃ (B : List (List AV)) (v : AV) (done : List Tm), h'.boxes = [x0, x1, x2, v] :: C :: B ∧ Grw 4 (tmVs done) v h' ∧ erTs done = erTs (l.take i) ∧ done.length = i)) ?_ l.length h ⟨0, by omega, h11, [], _, [], hh, Grw_nil _ _, by simp [erTs], rfl⟩
  rintro J Φ hJ hΦ n fr1 H1 K ⟨i, hi, k11, hr⟩
  have hl1 : fr1.length = 24 := K.1.trans hl
  have k1 := (K.2 1 (by decide)).trans h1
  have k9 := (K.2 9 (by decide)).trans h9
  have k10 := (K.2 10 (by decide)).trans h10
  clear K
  by_cases hlt : i < l.length
  · have hwp : IntKind.i64.wrap ((i : Int) + 1) = (i : Int) + 1 := wrap_id (by omega) (by omega)
    obtain ⟨B, v, done, hB, hg, hd, hdl⟩ := hr
    obtain ⟨bx, fams⟩ := H1
    simp only at hB
    subst hB
    have hx := nth_tm hlt
    obtain ⟨t', hI, ht⟩ := IH l[i] (List.getElem_mem hlt)
    obtain ⟨v', ⟨bx', fams'⟩, ha, hg', hbx⟩ := Grw_one (c := ctxF n_term_clone) (bytes := 56) (x := tmV t') (h := ⟨[x0, x1, x2, v] :: C :: (B ++ [(tmV l[i]).cells]), fams⟩) (Grw_fams hg rfl) rfl (true, true) (by simp; omega) (by simp; omega)
    have e2 : erTs (done ++ [t']) = erTs (l.take (i + 1)) := by
      rw [List.take_succ_eq_append_getElem hlt, erTs_map, List.map_append, ← erTs_map, hd, erTs_map, erTs_map, List.map_append, List.map_cons, List.map_nil, List.map_cons, List.map_nil, ht]
    have hg2 : Grw 4 (tmVs (done ++ [t'])) v' ⟨bx', fams'⟩ := by rw [tmVs_app1]; exact hg'
    clear ht hd
    generalize l[i] = t at *
    simp only at hbx
    subst hbx
    simp only [tm_cells] at ha
    obtain ⟨c1, c2, -⟩ := Grw_cells hg'
    simp [x_term_clone_0, hl1, k1, k9, k10, k11, hlt, hwp, hx, hI, sliceParts, ha, c1, c2]
    exact ⟨n - 1, by omega, hJ _ _ _ ⟨i + 1, by omega, by simp [hl1], _, v', done ++ [t'], rfl, Grw_fams hg2 rfl, e2, by simp [hdl]⟩⟩
  · obtain ⟨B, v, done, hB, hg, hd, hdl⟩ := hr
    obtain ⟨bx, fams⟩ := H1
    simp only at hB
    subst hB
    rw [List.take_of_length_le (by omega)] at hd
    simp [x_term_clone_0, hl1, k10, k11, hlt]
    exact hΦ _ _ _ ⟨rfl, B, v, done, rfl, hg, hd⟩

theorem pc_clone : ∀ (n : Nat) (t : Tm), t.size ≤ n → t.size ≤ 1099511627776 → ∃ t', pc Q n_term_clone [tmV t] = some (tmV t') ∧ erT t' = erT t := by
  intro n
  induction n with
  | zero => intro t h; have := t.size_pos; omega
  | succ n ih =>
    intro t hn hb
    obtain ⟨k, nm, s, m, kids⟩ := t
    have hsz : Tm.size (.mk k nm s m kids) = 1 + Tm.sizes kids := rfl
    have hlen := Tm.length_le kids
    have hlp := loop_clone m kids (by omega) (fun t ht => ih t (by have := Tm.size_le ht; omega) (by have := Tm.size_le ht; omega))
    clear ih
    suffices h : ∃ v, pc Q n_term_clone [tmV (.mk k nm s m kids)] = some v ∧ ∃ t', v = tmV t' ∧ erT t' = erT (.mk k nm s m kids) by
      obtain ⟨v, h1, t', rfl, h2⟩ := h
      exact ⟨t', h1, h2⟩
    refine pc_ends_ex (C := Q) ((Q_spec _).trans rfl) ((Q_code _).trans res_term_clone) (by simp [x_term_clone]) fun Ψ hΨ fr hl ha => ?_
    rw [Q_ctx]
    have h0 := ha 0
    clear ha
    simp [x_term_clone, tmV] at hl h0
    simp [x_term_clone, hl, h0]
    refine Ends.mono (hlp (.int .i64 k) (.str nm) (.int .i64 s) [.int .i64 0, .str (bs []), .int .i64 0, .vs true 0 []] _ _ ?_ ?_ ?_ ?_ ?_ ?_) ?_ <;> first | (simp [hl]; done) | skip
    rintro e fr1 ⟨bx, fams⟩ ⟨K, rfl, B, v, done, hB, hg, hd⟩
    simp only at hB
    subst hB
    have hlfr1 : fr1.length = 24 := K.1.trans (by simp [hl])
    have k1fr1 : look fr1 1 = .ptr 0 0 := (K.2 1 (by decide)).trans (by simp [hl])
    have k2fr1 : look fr1 2 = .ptr 1 0 := (K.2 2 (by decide)).trans (by simp [hl])
    clear K
    obtain ⟨mm, hz⟩ := Grw_frzA hg
    obtain ⟨c1, c2, c3⟩ := Grw_cells hg
    simp [hlfr1, k1fr1, k2fr1, hz]
    exact hΨ _ ⟨.mk k nm s mm done, rfl, by simp [erT, hd]⟩

theorem loop_At0 (fr : Fr) (h : AH) (hl : fr.length = 32) (h9 : look fr 9 = .int .i64 0) (h10 : look fr 10 = .int .i64 0) :
    Ends (lp (evalCode (lim Q) (ctxF n_term_At) x_term_At_0) (fr, h)) fun e fr' h' => Kp x_term_At_0.wr fr fr' ∧ e = .exit 0 ∧ h' = h := by
  refine Ends_lpw rfl fr (fun n fr' h' => fr' = fr ∧ h' = h) ?_ 0 h ⟨rfl, rfl⟩
  rintro J Φ hJ hΦ n fr1 H1 K ⟨rfl, rfl⟩
  simp [x_term_At_0, hl, h9, h10]
  exact hΦ _ _ _ ⟨rfl, rfl⟩
theorem pc_At0 (m : Bool × Bool) (t : Tm) (hb : t.size ≤ 1099511627776) : ∃ t', pc Q n_term_At [tmV t, sl m 1 []] = some (.tup [tmV t', .int .i64 0]) ∧ erT t' = erT t := by
  obtain ⟨t', hC, hE⟩ := pc_clone _ t (Nat.le_refl _) hb
  refine ⟨t', ?_, hE⟩
  refine pcQ res_term_At rfl (by simp [x_term_At]) fun fr hl ha => ?_
  have h0 := ha 0
  have h1 := ha 1
  clear ha
  simp [x_term_At] at hl h0 h1
  simp [x_term_At, hl, h0, h1]
  refine Ends.mono (loop_At0 _ _ ?_ ?_ ?_) ?_ <;> first | (simp [hl]; done) | skip
  rintro e fr1 h1' ⟨K, rfl, rfl⟩
  have hlfr1 : fr1.length = 32 := K.1.trans (by simp [hl])
  have k2fr1 : look fr1 2 = .ptr 0 0 := (K.2 2 (by decide)).trans (by simp [hl])
  have k4fr1 : look fr1 4 = .ptr 1 0 := (K.2 4 (by decide)).trans (by simp [hl])
  clear K
  simp [hlfr1, k2fr1, k4fr1, hC]
theorem pc_copied (t : Tm) (hb : t.size ≤ 1099511627776) : ∃ t', pc Q n_theory_copied [tmV t] = some (tmV t') ∧ erT t' = erT t := by
  obtain ⟨t', hA, hE⟩ := pc_At0 (true, false) t hb
  refine ⟨t', ?_, hE⟩
  refine pcQ res_theory_copied rfl (by simp [x_theory_copied]) fun fr hl ha => ?_
  have h0 := ha 0
  clear ha
  simp [x_theory_copied] at hl h0
  simp [x_theory_copied, hl, h0, hA]
theorem pc_theoryis (t : Tm) (nm : ByteArray) : pc Q n_theory_is [tmV t, .str nm] = some (.bool (decide (t.kind = 3) && decide (t.name = nm))) := by
  refine pcQ res_theory_is rfl (by simp [x_theory_is]) fun fr hl ha => ?_
  have h0 := ha 0
  have h1 := ha 1
  clear ha
  simp [x_theory_is] at hl h0 h1
  simp +contextual (maxSteps := 10000000) [x_theory_is, hl, h0, h1]

/-- Is a node that of a pair? -/
def prB (k : Int) (nm : ByteArray) (n : Nat) : Bool := decide (k = 3) && decide (nm = bs [112, 97, 105, 114]) && decide (n = 2)
mutual
/-- The terms of a tuple. -/
def untT : Tm → List Tm
  | .mk k nm s m l => if prB k nm l.length then untL l else [.mk k nm s m l]
def untL : List Tm → List Tm
  | [] => []
  | a :: l => a :: untM l
def untM : List Tm → List Tm
  | [] => []
  | b :: _ => untT b
end
end Go.Abs.Q

/- Contracts: tuples. -/
namespace Go.Abs.Q
open Go.Proofs
attribute [local simp] look_set_ne look_set_eq fin tupled code_loop toL_iff toL_dec raw_theory_is raw_theory_copied raw_theory_Untuple raw_ref09_Is raw_ref09_Untuple

@[simp] theorem mk_kind (k n s m l) : (Tm.mk k n s m l).kind = k := rfl
@[simp] theorem mk_name (k n s m l) : (Tm.mk k n s m l).name = n := rfl
@[simp] theorem mk_sort (k n s m l) : (Tm.mk k n s m l).sort = s := rfl
@[simp] theorem mk_cm (k n s m l) : (Tm.mk k n s m l).cm = m := rfl
@[simp] theorem mk_kids (k n s m l) : (Tm.mk k n s m l).kids = l := rfl
@[simp] theorem tmVs_nil_iff (l : List Tm) : tmVs l = [] ↔ l = [] := by rw [tmVs_map, List.map_eq_nil_iff]
theorem Grw_frzR {sz : Nat} {acc : List AV} {v : AV} {h : AH} (hg : Grw sz acc v h) : ∃ m, ∀ B : List (List AV), frzRes ⟨B, h.fams⟩ v = some (sl m sz acc) := by
  obtain ⟨m, hm⟩ := Grw_frzA hg
  refine ⟨m, fun B => ?_⟩
  rcases hg with ⟨rfl, rfl⟩ | ⟨_, k, rfl, _⟩ <;> exact hm B true
/-- The pair's kids. -/
theorem pr_two {k : Int} {nm s} {m : Bool × Bool} {l : List Tm} (h : prB k nm l.length = true) : k = 3 ∧ nm = bs [112, 97, 105, 114] ∧ ∃ a b, l = [a, b] ∧ untT (.mk k nm s m l) = a :: untT b := by
  have h' := h
  simp only [prB, Bool.and_eq_true, decide_eq_true_eq] at h'
  obtain ⟨⟨h1, h2⟩, h3⟩ := h'
  refine ⟨h1, h2, ?_⟩
  match l, h3, h with
  | [a, b], _, h => exact ⟨a, b, rfl, by rw [untT, if_pos h]; rfl⟩
theorem unt_one {k : Int} {nm s} {m : Bool × Bool} {l : List Tm} (h : prB k nm l.length = false) : untT (.mk k nm s m l) = [.mk k nm s m l] := by
  rw [untT, if_neg (by simp [h])]
theorem pr_dec (k : Int) (nm : ByteArray) (n : Nat) : (decide (k = 3) && decide (nm = bs [112, 97, 105, 114]) && decide ((n : Int) = 2)) = prB k nm n := by
  unfold prB
  congr 1
  by_cases h : n = 2 <;> simp [h]; omega

theorem unt_er : ∀ (n : Nat) (t : Tm), t.size ≤ n → untT (erT t) = erTs (untT t) := by
  intro n
  induction n with
  | zero => intro t h; have := t.size_pos; omega
  | succ n ih =>
    intro t hn
    obtain ⟨k, nm, s, m, l⟩ := t
    have hsz : Tm.size (.mk k nm s m l) = 1 + Tm.sizes l := rfl
    have hlen : (erTs l).length = l.length := by rw [erTs_map, List.length_map]
    cases hp : prB k nm l.length with
    | true =>
      obtain ⟨_, _, a, b, rfl, e⟩ := pr_two (s := s) (m := m) hp
      have hp2 : prB k nm (erTs [a, b]).length = true := by rw [hlen]; exact hp
      obtain ⟨_, _, a', b', e', e2⟩ := pr_two (s := s) (m := (false, false)) hp2
      simp only [erTs] at e'
      obtain ⟨rfl, rfl⟩ : a' = erT a ∧ b' = erT b := by simpa [eq_comm] using e'
      rw [e, erT, e2, ih b (by simp only [Tm.sizes] at hsz; omega)]
      rfl
    | false =>
      rw [unt_one hp, erT, unt_one (by rw [hlen]; exact hp)]
      rfl
theorem unt_sizes : ∀ (n : Nat) (t : Tm), t.size ≤ n → Tm.sizes (untT t) ≤ t.size ∧ (∀ u ∈ untT t, nodesE t = 0 → nodesE u = 0) ∧ 1 ≤ (untT t).length := by
  intro n
  induction n with
  | zero => intro t h; have := t.size_pos; omega
  | succ n ih =>
    intro t hn
    obtain ⟨k, nm, s, m, l⟩ := t
    have hsz : Tm.size (.mk k nm s m l) = 1 + Tm.sizes l := rfl
    cases hp : prB k nm l.length with
    | true =>
      obtain ⟨_, _, a, b, rfl, e⟩ := pr_two (s := s) (m := m) hp
      simp only [Tm.sizes] at hsz
      obtain ⟨q1, q2, q3⟩ := ih b (by omega)
      rw [e]
      refine ⟨by simp only [Tm.sizes]; omega, fun u hu h0 => ?_, by simp⟩
      obtain ⟨_, h2⟩ := nodes_kids h0
      rcases List.mem_cons.1 hu with rfl | hu
      · exact nodesEs_mem h2 _ (by simp)
      · exact q2 u hu (nodesEs_mem h2 _ (by simp))
    | false =>
      rw [unt_one hp]
      refine ⟨by simp [Tm.sizes], fun u hu h0 => ?_, by simp⟩
      rcases List.mem_cons.1 hu with rfl | hu
      · exact h0
      · cases hu

theorem loop_Unt : ∀ (N : Nat) (t : Tm), t.size ≤ N → t.size ≤ 1099511627776 → ∀ (acc : List Tm) (fr : Fr) (h : AH), acc.length + t.size ≤ 1099511627776 → h.boxes = [(tmV t).cells] → Grw 4 (tmVs acc) (look fr 3) h → fr.length = 29 → look fr 1 = .ptr 0 0 →
    Ends (lp (evalCode (lim Q) (ctxF n_theory_Untuple) x_theory_Untuple_0) (fr, h)) fun e fr' h' => Kp x_theory_Untuple_0.wr fr fr' ∧ e = .exit 0 ∧ ∃ (done : List Tm) (u : Tm), h'.boxes = [(tmV u).cells] ∧ Grw 4 (tmVs done) (look fr' 3) h' ∧ erTs (done ++ [u]) = erTs (acc ++ untT t) ∧ u.size ≤ t.size ∧ done.length + u.size ≤ 1099511627776 := by
  intro N t hN hb acc fr h hs hh hg hl h1
  refine (Ends_lpw rfl fr (fun n fr h' => ∃ (acc2 : List Tm) (t2 : Tm), t2.size ≤ n ∧ t2.size ≤ t.size ∧ acc2.length + t2.size ≤ 1099511627776 ∧ h'.boxes = [(tmV t2).cells] ∧ Grw 4 (tmVs acc2) (look fr 3) h' ∧ erTs (acc2 ++ untT t2) = erTs (acc ++ untT t)) (Ψ := fun e fr' h' => e = .exit 0 ∧ ∃ (done : List Tm) (u : Tm), h'.boxes = [(tmV u).cells] ∧ Grw 4 (tmVs done) (look fr' 3) h' ∧ erTs (done ++ [u]) = erTs (acc ++ untT t) ∧ u.size ≤ t.size ∧ done.length + u.size ≤ 1099511627776) ?_ t.size h ⟨acc, t, Nat.le_refl _, Nat.le_refl _, hs, hh, hg, rfl⟩)
  rintro J Φ hJ hΦ n fr1 H1 K ⟨acc2, t2, hn, ht2, hs2, hh2, hg2, he2⟩
  have hl1 : fr1.length = 29 := K.1.trans hl
  have k1 := (K.2 1 (by decide)).trans h1
  clear K hN hs hh hg hl h1 h
  obtain ⟨k, nm, s, m, l⟩ := t2
  obtain ⟨bx, fams⟩ := H1
  simp only at hh2
  subst hh2
  have hsz : Tm.size (.mk k nm s m l) = 1 + Tm.sizes l := rfl
  have hI : pc Q n_theory_is [tmV (.mk k nm s m l), .str (bs [112, 97, 105, 114])] = some (.bool (decide (k = 3) && decide (nm = bs [112, 97, 105, 114]))) := pc_theoryis _ _
  cases hp : prB k nm l.length with
  | true =>
    obtain ⟨z1, z2, a, b, rfl, e⟩ := pr_two (s := s) (m := m) hp
    rw [e] at he2
    simp only [Tm.sizes] at hsz
    obtain ⟨a', hC, hE⟩ := pc_copied a (by omega)
    obtain ⟨v', ⟨bx', fams'⟩, ha, hg', hbx⟩ := Grw_one (c := ctxF n_theory_Untuple) (bytes := 56) (x := tmV a') hg2 rfl (true, true) (by simp; omega) (by simp; omega)
    simp only at hbx
    subst hbx
    have hg3 : Grw 4 (tmVs (acc2 ++ [a'])) v' ⟨[], fams'⟩ := by rw [tmVs_app1]; exact Grw_fams hg' rfl
    have e5 : erTs ((acc2 ++ [a']) ++ untT b) = erTs (acc ++ untT t) := by
      rw [← he2]
      simp only [erTs_map, List.map_append, List.map_cons, hE, List.append_assoc, List.cons_append, List.nil_append]
    subst z1 z2
    rw [← tm_mk] at hI
    simp only [tmVs] at hI
    simp only [tm_cells, mk_kind, mk_name, mk_sort, mk_cm, mk_kids, tmVs] at ha
    simp [x_theory_Untuple_0, hl1, k1, hI, hC, sliceParts, ha, tmVs]
    exact ⟨b.size, by omega, hJ _ _ _ ⟨acc2 ++ [a'], b, Nat.le_refl _, by omega, by simp; omega, by simp, by simp [hl1]; exact Grw_fams hg3 rfl, e5⟩⟩
  | false =>
    rw [unt_one hp] at he2
    rw [← pr_dec] at hp
    rw [← tm_mk] at hI
    have hk : (decide (k = 3) && decide (nm = bs [112, 97, 105, 114])) = true ∧ (l.length : Int) ≠ 2 ∨ (decide (k = 3) && decide (nm = bs [112, 97, 105, 114])) = false := by
      cases hq : (decide (k = 3) && decide (nm = bs [112, 97, 105, 114])) with
      | true => rw [hq] at hp; exact .inl ⟨rfl, by simpa using hp⟩
      | false => exact .inr rfl
    generalize (decide (k = 3) && decide (nm = bs [112, 97, 105, 114])) = q at *
    rcases hk with ⟨rfl, hne⟩ | rfl
    · simp [x_theory_Untuple_0, hl1, k1, hI, hne]
      exact hΦ _ _ _ ⟨rfl, acc2, .mk k nm s m l, rfl, by simp; exact Grw_fams hg2 rfl, he2, ht2, hs2⟩
    · simp [x_theory_Untuple_0, hl1, k1, hI]
      exact hΦ _ _ _ ⟨rfl, acc2, .mk k nm s m l, rfl, by simp; exact Grw_fams hg2 rfl, he2, ht2, hs2⟩

theorem pc_Untuple (t : Tm) (hb : t.size ≤ 1099511627776) : ∃ (m : Bool × Bool) (l : List Tm), pc Q n_theory_Untuple [tmV t] = some (sl m 4 (tmVs l)) ∧ erTs l = erTs (untT t) := by
  suffices h : ∃ v, pc Q n_theory_Untuple [tmV t] = some v ∧ ∃ (m : Bool × Bool) (l : List Tm), v = sl m 4 (tmVs l) ∧ erTs l = erTs (untT t) by
    obtain ⟨v, h1, m, l, rfl, h2⟩ := h
    exact ⟨m, l, h1, h2⟩
  refine pc_ends_ex (C := Q) ((Q_spec _).trans rfl) ((Q_code _).trans res_theory_Untuple) (by simp [x_theory_Untuple]) fun Ψ hΨ fr hl ha => ?_
  rw [Q_ctx]
  have h0 := ha 0
  clear ha
  simp [x_theory_Untuple] at hl h0
  simp [x_theory_Untuple, h0]
  refine Ends.mono (loop_Unt _ t (Nat.le_refl _) hb [] _ _ ?_ ?_ ?_ ?_ ?_) ?_ <;> first | (simp [hl]; done) | (simp; omega) | (simp [hl]; exact Grw_nil _ _) | skip
  rintro e fr1 ⟨bx, fams⟩ ⟨K, rfl, done, u, hB, hg, he, hu, hdl⟩
  simp only at hB
  subst hB
  have hlfr1 : fr1.length = 29 := K.1.trans (by simp [hl])
  have k1fr1 : look fr1 1 = .ptr 0 0 := (K.2 1 (by decide)).trans (by simp [hl])
  clear K
  obtain ⟨u', hC, hE⟩ := pc_copied u (by omega)
  have hup := u.size_pos
  obtain ⟨v', ⟨bx', fams'⟩, ha, hg', hbx⟩ := Grw_one (c := ctxF n_theory_Untuple) (bytes := 56) (x := tmV u') hg rfl (true, true) (by simp; omega) (by simp; omega)
  simp only at hbx
  subst hbx
  have hg3 : Grw 4 (tmVs (done ++ [u'])) v' ⟨[], fams'⟩ := by rw [tmVs_app1]; exact Grw_fams hg' rfl
  obtain ⟨mm, hz⟩ := Grw_frzR hg3
  have e5 : erTs (done ++ [u']) = erTs (untT t) := by
    rw [List.nil_append] at he
    rw [← he]
    simp only [erTs_map, List.map_append, List.map_cons, List.map_nil, hE]
  simp only [tm_cells] at ha
  simp [hlfr1, k1fr1, hC, sliceParts, ha, hz]
  exact hΨ _ ⟨mm, done ++ [u'], rfl, e5⟩

theorem pc_rUntuple : ∀ (n : Nat) (t : Tm), t.size ≤ n → t.size ≤ 1099511627776 → ∃ (m : Bool × Bool), pc Q n_ref09_Untuple [tmV t] = some (sl m 4 (tmVs (untT t))) := by
  intro n
  induction n with
  | zero => intro t h; have := t.size_pos; omega
  | succ n ih =>
    intro t hn hb
    obtain ⟨k, nm, s, m, l⟩ := t
    have hsz : Tm.size (.mk k nm s m l) = 1 + Tm.sizes l := rfl
    have hI : pc Q n_ref09_Is [tmV (.mk k nm s m l), .str (bs [112, 97, 105, 114])] = some (.bool (decide (k = 3) && decide (nm = bs [112, 97, 105, 114]))) := pc_ref09Is _ _
    suffices h : ∃ v, pc Q n_ref09_Untuple [tmV (.mk k nm s m l)] = some v ∧ ∃ (m' : Bool × Bool), v = sl m' 4 (tmVs (untT (.mk k nm s m l))) by
      obtain ⟨v, h1, m', rfl⟩ := h
      exact ⟨m', h1⟩
    cases hp : prB k nm l.length with
    | true =>
      obtain ⟨z1, z2, a, b, rfl, e⟩ := pr_two (s := s) (m := m) hp
      simp only [Tm.sizes] at hsz
      obtain ⟨m2, hR⟩ := ih b (by omega) (by omega)
      obtain ⟨us1, us2, us3⟩ := unt_sizes _ b (Nat.le_refl _)
      have us4 := Tm.length_le (untT b)
      rw [e]
      generalize untT b = U at *
      subst z1 z2
      rw [← tm_mk] at hI ⊢
      have hU : U ≠ [] := by intro h; subst h; simp at us3
      have r1 : (1 + U.length) * 56 ≤ roomA ∧ 1 + U.length ≤ maxLen := by simp only [roomA, maxLen]; omega
      simp only [tmVs] at hI
      refine pc_ends_ex (C := Q) ((Q_spec _).trans rfl) ((Q_code _).trans res_ref09_Untuple) (by simp [x_ref09_Untuple]) fun Ψ hΨ fr hl ha => ?_
      rw [Q_ctx]
      have h0 := ha 0
      clear ha
      simp [x_ref09_Untuple] at hl h0
      simp [x_ref09_Untuple, hl, h0, hI, hR, sliceParts, tmVs, app_sl, hU, r1]
      exact ⟨_, ⟨by omega, rfl⟩, hΨ _ ⟨(false, true), by rw [List.take_of_length_le (by simp; omega)]; rfl⟩⟩
    | false =>
      rw [unt_one hp]
      rw [← pr_dec] at hp
      rw [← tm_mk] at hI ⊢
      have hk : (decide (k = 3) && decide (nm = bs [112, 97, 105, 114])) = true ∧ (l.length : Int) ≠ 2 ∨ (decide (k = 3) && decide (nm = bs [112, 97, 105, 114])) = false := by
        cases hq : (decide (k = 3) && decide (nm = bs [112, 97, 105, 114])) with
        | true => rw [hq] at hp; exact .inl ⟨rfl, by simpa using hp⟩
        | false => exact .inr rfl
      generalize (decide (k = 3) && decide (nm = bs [112, 97, 105, 114])) = q at *
      refine pc_ends_ex (C := Q) ((Q_spec _).trans rfl) ((Q_code _).trans res_ref09_Untuple) (by simp [x_ref09_Untuple]) fun Ψ hΨ fr hl ha => ?_
      rw [Q_ctx]
      have h0 := ha 0
      clear ha
      simp [x_ref09_Untuple] at hl h0
      rcases hk with ⟨rfl, hne⟩ | rfl
      · simp [x_ref09_Untuple, hl, h0, hI, hne, sliceParts]
        exact hΨ _ ⟨_, by simp [tmVs, tmV]; rfl⟩
      · simp [x_ref09_Untuple, hl, h0, hI, sliceParts]
        exact hΨ _ ⟨_, by simp [tmVs, tmV]; rfl⟩
end Go.Abs.Q

/- Contracts: texts of terms. -/
namespace Go.Abs.Q
open Go.Proofs
attribute [local simp] look_set_ne look_set_eq fin tupled code_loop toL_iff toL_dec raw_syntax_text raw_syntax_texts raw_strings_Join raw_ref22_list raw_ref22_text raw_theory_Untuple raw_ref09_Untuple

def sepB : ByteArray := bs [44, 32]
def joC (l : List ByteArray) : ByteArray := joinB l sepB
theorem bs_size (s : ByteArray) : s.size = s.data.toList.length := by cases s; simp [ByteArray.size]
theorem ba_ext {a b : ByteArray} (h : a.data.toList = b.data.toList) : a = b := by
  cases a; cases b; simp at h; simp [h]
theorem app_data (a b : ByteArray) : (a ++ b).data.toList = a.data.toList ++ b.data.toList := by simp
theorem joinB_data (l : List ByteArray) (sep : ByteArray) : (joinB l sep).data.toList = Lib.join (l.map (·.data.toList)) sep.data.toList := rfl
theorem join_snoc (sep : List UInt8) (x : List UInt8) : ∀ (l : List (List UInt8)), l ≠ [] → Lib.join (l ++ [x]) sep = Lib.join l sep ++ sep ++ x
  | [], h => absurd rfl h
  | a :: l, _ => by
    rw [List.cons_append, Lib.join_cons, Lib.join_cons]
    simp [Lib.joinTail, List.append_assoc]
theorem jo_nil : joC [] = bs [] := rfl
theorem jo_one (x : ByteArray) : joC [x] = x := ba_ext (by rw [joC, joinB_data]; exact Lib.join_one _ _)
theorem jo_snoc (l : List ByteArray) (x : ByteArray) (h : l ≠ []) : joC (l ++ [x]) = (joC l ++ sepB) ++ x := by
  apply ba_ext
  rw [app_data, app_data, joC, joC, joinB_data, joinB_data, List.map_append]
  exact join_snoc _ _ _ (by simpa using h)
/-- How long texts are, with what stands between them. -/
def totB : List ByteArray → Nat
  | [] => 0
  | a :: l => a.size + 2 + totB l
theorem tot_app (a b : List ByteArray) : totB (a ++ b) = totB a + totB b := by
  induction a with
  | nil => simp [totB]
  | cons x a ih => simp [totB, ih]; omega
theorem jo_size (l : List ByteArray) : (joC l).size ≤ totB l := by
  rw [bs_size, joC, joinB_data]
  cases l with
  | nil => simp [Lib.join_nil]
  | cons a l =>
    rw [List.map_cons, Lib.join_cons]
    have h : ∀ l : List ByteArray, (Lib.joinTail sepB.data.toList (l.map (·.data.toList))).length = totB l := by
      intro l
      induction l with
      | nil => rfl
      | cons b l ih =>
        simp only [Lib.joinTail] at ih
        simp only [Lib.joinTail, List.map_cons, List.flatten_cons, List.length_append, ih, totB, bs_size]
        simp [sepB, bs]
        omega
    rw [List.length_append, h, totB, bs_size]
    omega
theorem tot_take (l : List ByteArray) (i : Nat) : totB (l.take i) ≤ totB l := by
  conv => rhs; rw [← List.take_append_drop i l, tot_app]
  omega

theorem op_t1 {s x : ByteArray} : (AV.str (s ++ x)).cells = [.str (s ++ x)] := rfl

/-- What is written of terms. -/
def Tx (f : FuncId) (l : List Tm) (ss : List ByteArray) : Prop := ss.length = l.length ∧ ∀ (i : Nat) (h : i < l.length) (h' : i < ss.length), pc Q f [tmV l[i]] = some (.str ss[i])

theorem loop_texts (m : Bool × Bool) (l : List Tm) (ss : List ByteArray) (hlen : l.length ≤ 1099511627776) (hT : Tx n_syntax_text l ss) (fr : Fr) (h : AH) (h3 : look fr 3 = .vs true 0 []) (hl : fr.length = 20) (h6 : look fr 6 = sl m 4 (tmVs l)) (h7 : look fr 7 = .int .i64 l.length) (h8 : look fr 8 = .int .i64 0) :
    Ends (lp (evalCode (lim Q) (ctxF n_syntax_texts) x_syntax_texts_0) (fr, h)) fun e fr' h' => Kp x_syntax_texts_0.wr fr fr' ∧ e = .exit 0 ∧ Grw 1 (ss.map .str) (look fr' 3) h' := by
  refine Ends_lpw rfl fr (fun n fr h' => ∃ (i : Nat), i + n = l.length ∧ look fr 8 = .int .i64 (i : Nat) ∧ Grw 1 ((ss.take i).map .str) (look fr 3) h') ?_ l.length h ⟨0, by omega, h8, by rw [h3]; exact Grw_nil _ _⟩
  rintro J Φ hJ hΦ n fr1 H1 K ⟨i, hi, k8, hr⟩
  have hl1 : fr1.length = 20 := K.1.trans hl
  have k6 := (K.2 6 (by decide)).trans h6
  have k7 := (K.2 7 (by decide)).trans h7
  clear K
  by_cases hlt : i < l.length
  · have hwp : IntKind.i64.wrap ((i : Int) + 1) = (i : Int) + 1 := wrap_id (by omega) (by omega)
    obtain ⟨bx, fams⟩ := H1
    have hx := nth_tm hlt
    have hlt' : i < ss.length := by rw [hT.1]; exact hlt
    have hI := hT.2 i hlt hlt'
    have hsl : (ss.take i).length = i := by simp; omega
    obtain ⟨v', ⟨bx', fams'⟩, ha, hg', hbx⟩ := Grw_one (c := ctxF n_syntax_texts) (bytes := 16) (x := .str ss[i]) (h := ⟨bx ++ [(tmV l[i]).cells], fams⟩) (Grw_fams hr rfl) rfl (true, true) (by simp; omega) (by simp; omega)
    have e3 : (ss.take i).map AV.str ++ [AV.str ss[i]] = (ss.take (i + 1)).map .str := by rw [List.take_succ_eq_append_getElem hlt', List.map_append]; rfl
    rw [e3, List.map_take] at hg'
    generalize l[i] = t at *
    generalize ss[i] = s at *
    simp only at hbx
    subst hbx
    simp only [tm_cells] at ha
    simp [x_syntax_texts_0, hl1, k6, k7, k8, hlt, hwp, hx, hI, sliceParts, ha]
    exact ⟨n - 1, by omega, hJ _ _ _ ⟨i + 1, by omega, by simp [hl1], by simp [hl1]; exact Grw_fams hg' rfl⟩⟩
  · rw [List.take_of_length_le (by have := hT.1; omega)] at hr
    obtain ⟨bx, fams⟩ := H1
    simp [x_syntax_texts_0, hl1, k7, k8, hlt]
    exact hΦ _ _ _ ⟨rfl, by simp; exact hr⟩

theorem pc_texts (m : Bool × Bool) (l : List Tm) (ss : List ByteArray) (hlen : l.length ≤ 1099511627776) (hT : Tx n_syntax_text l ss) (hs : totB ss ≤ 140737488355328) : pc Q n_syntax_texts [sl m 4 (tmVs l)] = some (.str (joC ss)) := by
  have hj := jo_size ss
  have hJ := fun m => pc_join m ss sepB (by have := hT.1; omega) (by unfold joC at hj; omega)
  have hlp := loop_texts m l ss hlen hT
  have hTl := hT.1
  refine pcQ res_syntax_texts rfl (by simp [x_syntax_texts]) fun fr hl ha => ?_
  have h0 := ha 0
  clear ha
  simp [x_syntax_texts] at hl h0
  simp [x_syntax_texts, hl, h0]
  refine Ends.mono (hlp _ _ ?_ ?_ ?_ ?_ ?_) ?_ <;> first | (simp [hl]; done) | skip
  rintro e fr1 ⟨bx, fams⟩ ⟨K, rfl, hg⟩
  have hlfr1 : fr1.length = 20 := K.1.trans (by simp [hl])
  clear K
  obtain ⟨mm, hz⟩ := Grw_frz hg
  have hJ := hJ mm
  unfold sepB at hJ
  simp [hlfr1, hz, hJ]
  rfl

theorem loop_list (m : Bool × Bool) (l : List Tm) (ss : List ByteArray) (hlen : l.length ≤ 1099511627776) (hT : Tx n_ref22_text l ss) (hs : totB ss ≤ 140737488355328) (fr : Fr) (h : AH) (h3 : look fr 3 = .str (bs [])) (hl : fr.length = 23) (h0 : look fr 0 = sl m 4 (tmVs l)) (h4 : look fr 4 = .int .i64 0) :
    Ends (lp (evalCode (lim Q) (ctxF n_ref22_list) x_ref22_list_0) (fr, h)) fun e fr' h' => Kp x_ref22_list_0.wr fr fr' ∧ e = .exit 0 ∧ look fr' 3 = .str (joC ss) := by
  refine Ends_lpw rfl fr (fun n fr h' => ∃ (i : Nat), i + n = l.length ∧ look fr 4 = .int .i64 (i : Nat) ∧ look fr 3 = .str (joC (ss.take i))) ?_ l.length h ⟨0, by omega, h4, by rw [h3]; rfl⟩
  rintro J Φ hJ hΦ n fr1 H1 K ⟨i, hi, k4, hr⟩
  have hl1 : fr1.length = 23 := K.1.trans hl
  have k0 := (K.2 0 (by decide)).trans h0
  clear K
  by_cases hlt : i < l.length
  · have hwp : IntKind.i64.wrap ((i : Int) + 1) = (i : Int) + 1 := wrap_id (by omega) (by omega)
    have hx := nth_tm hlt
    have hlt' : i < ss.length := by rw [hT.1]; exact hlt
    have hI := hT.2 i hlt hlt'
    have hj := jo_size (ss.take i)
    have ht := tot_take ss (i + 1)
    rw [List.take_succ_eq_append_getElem hlt', tot_app] at ht
    simp only [totB] at ht
    have e3 : joC (ss.take (i + 1)) = if i = 0 then ss[i] else (joC (ss.take i) ++ sepB) ++ ss[i] := by
      rw [List.take_succ_eq_append_getElem hlt']
      by_cases h0 : i = 0
      · rw [if_pos h0]; subst h0; exact jo_one _
      · rw [if_neg h0]
        exact jo_snoc _ _ (by intro h; rcases List.take_eq_nil_iff.1 h with h | h; exact h0 h; subst h; simp at hlt')
    have j0 : i = 0 → joC (ss.take i) = bs [] := by intro h; subst h; rfl
    generalize l[i] = t at *
    generalize ss[i] = s at *
    generalize joC (ss.take i) = a at *
    have hsep : sepB.size = 2 := rfl
    by_cases h0 : i = 0
    · rw [if_pos h0] at e3
      rw [j0 h0] at hr
      have add := bin_sadd (a := bs []) (b := s) (by have : (bs []).size = 0 := rfl; omega)
      have e4 : bs [] ++ s = s := ba_ext (by rw [app_data]; rfl)
      rw [e4] at add
      have w1 : IntKind.i64.wrap 1 = 1 := wrap_id (by omega) (by omega)
      subst h0
      simp [x_ref22_list_0, hl1, k0, k4, hlt, hx, hI, hr, add, w1]
      exact ⟨n - 1, by omega, hJ _ _ _ ⟨1, by omega, by simp [hl1], by simp [hl1]; rw [e3]⟩⟩
    · rw [if_neg h0] at e3
      have h0' : 0 < i := by omega
      have add1 := bin_sadd (a := a) (b := bs [44, 32]) (by have : (bs [44, 32]).size = 2 := rfl; omega)
      have add2 := bin_sadd (a := a ++ bs [44, 32]) (b := s) (by rw [bs_size, app_data, List.length_append, ← bs_size, ← bs_size]; have : (bs [44, 32]).size = 2 := rfl; omega)
      simp [x_ref22_list_0, hl1, k0, k4, hlt, hwp, hx, hI, hr, h0', add1, add2]
      exact ⟨n - 1, by omega, hJ _ _ _ ⟨i + 1, by omega, by simp [hl1], by simp [hl1]; rw [e3]; rfl⟩⟩
  · rw [List.take_of_length_le (by have := hT.1; omega)] at hr
    simp [x_ref22_list_0, hl1, k0, k4, hlt]
    exact hΦ _ _ _ ⟨rfl, by simp [hr]⟩
theorem pc_list (m : Bool × Bool) (l : List Tm) (ss : List ByteArray) (hlen : l.length ≤ 1099511627776) (hT : Tx n_ref22_text l ss) (hs : totB ss ≤ 140737488355328) : pc Q n_ref22_list [sl m 4 (tmVs l)] = some (.str (joC ss)) := by
  have hlp := loop_list m l ss hlen hT hs
  refine pcQ res_ref22_list rfl (by simp [x_ref22_list]) fun fr hl ha => ?_
  have h0 := ha 0
  clear ha
  simp [x_ref22_list] at hl h0
  simp [x_ref22_list]
  refine Ends.mono (hlp _ _ ?_ ?_ ?_ ?_) ?_ <;> first | (simp [hl, h0]; done) | skip
  rintro e fr1 ⟨bx, fams⟩ ⟨K, rfl, hg⟩
  have hlfr1 : fr1.length = 23 := K.1.trans (by simp [hl])
  clear K
  simp [hlfr1, hg]
end Go.Abs.Q

/- Contracts: texts of terms. -/
namespace Go.Abs.Q
open Go.Proofs
attribute [local simp] look_set_ne look_set_eq fin tupled code_loop toL_iff toL_dec raw_syntax_text raw_syntax_texts raw_ref22_list raw_ref22_text raw_theory_Untuple raw_ref09_Untuple

/-- A term has a text. -/
def TxOk (t : Tm) : Prop := ∃ s : ByteArray, s.size + 2 ≤ 28 * t.size ∧ ∀ t', erT t' = erT t → pc Q n_syntax_text [tmV t'] = some (.str s) ∧ pc Q n_ref22_text [tmV t'] = some (.str s)
theorem Tx_cons {f : FuncId} {t : Tm} {s : ByteArray} {l : List Tm} {ss : List ByteArray} (h : pc Q f [tmV t] = some (.str s)) (k : Tx f l ss) : Tx f (t :: l) (s :: ss) := by
  refine ⟨by simp [k.1], fun i h1 h2 => ?_⟩
  cases i with
  | zero => exact h
  | succ i => exact k.2 i (by simpa using h1) (by simpa using h2)
theorem TxOks : ∀ (l : List Tm), (∀ t ∈ l, TxOk t) → ∃ ss : List ByteArray, totB ss ≤ 28 * Tm.sizes l ∧ ∀ l', erTs l' = erTs l → Tx n_syntax_text l' ss ∧ Tx n_ref22_text l' ss
  | [], _ => ⟨[], Nat.le_refl _, fun l' h => by
    cases l' with
    | nil => exact ⟨⟨rfl, fun i h => by simp at h⟩, ⟨rfl, fun i h => by simp at h⟩⟩
    | cons a l' => simp [erTs] at h⟩
  | t :: l, hl => by
    obtain ⟨s, hs, ht⟩ := hl t (by simp)
    obtain ⟨ss, hss, hts⟩ := TxOks l fun t h => hl t (List.mem_cons_of_mem _ h)
    refine ⟨s :: ss, by simp only [totB, Tm.sizes]; omega, fun l' h => ?_⟩
    cases l' with
    | nil => simp [erTs] at h
    | cons a l' =>
      simp only [erTs, List.cons.injEq] at h
      exact ⟨Tx_cons (ht a h.1).1 (hts l' h.2).1, Tx_cons (ht a h.1).2 (hts l' h.2).2⟩
theorem er_size : ∀ (n : Nat) (t : Tm), t.size ≤ n → (erT t).size = t.size := by
  intro n
  induction n with
  | zero => intro t h; have := t.size_pos; omega
  | succ n ih =>
    intro t hn
    obtain ⟨k, nm, s, m, l⟩ := t
    have hsz : Tm.size (.mk k nm s m l) = 1 + Tm.sizes l := rfl
    have : ∀ l : List Tm, Tm.sizes l ≤ n → Tm.sizes (erTs l) = Tm.sizes l := by
      intro l
      induction l with
      | nil => intro _; rfl
      | cons a l ihl =>
        intro h
        simp only [Tm.sizes] at h
        simp only [erTs, Tm.sizes, ih a (by omega), ihl (by omega)]
    rw [erT, Tm.size, this l (by omega), hsz]
theorem ers_size : ∀ (l : List Tm), Tm.sizes (erTs l) = Tm.sizes l
  | [] => rfl
  | t :: l => by simp only [erTs, Tm.sizes, er_size _ t (Nat.le_refl _), ers_size l]

theorem tx_all : ∀ (n : Nat) (t : Tm), t.size ≤ n → t.size ≤ 1099511627776 → nodesE t = 0 → TxOk t := by
  intro n
  induction n with
  | zero => intro t h; have := t.size_pos; omega
  | succ n ih =>
    intro t hn hb hne
    obtain ⟨k, nm, s, m, l⟩ := t
    have hsz : Tm.size (.mk k nm s m l) = 1 + Tm.sizes l := rfl
    obtain ⟨h1, h2⟩ := nodes_kids hne
    obtain ⟨n1, n2, n3, n4⟩ := nodeE_name h1
    have n5 := nameB_size n1
    by_cases hk : k = 2
    · refine ⟨nm, by omega, fun t' ht => ?_⟩
      obtain ⟨k', nm', s', m', l'⟩ := t'
      simp only [erT, Tm.mk.injEq] at ht
      obtain ⟨rfl, rfl, rfl, _, _⟩ := ht
      constructor
      · refine pcQ res_syntax_text rfl (by simp [x_syntax_text]) fun fr hl ha => ?_
        have h0 := ha 0
        clear ha
        simp [x_syntax_text, tmV] at hl h0
        simp [x_syntax_text, hl, h0, dec_t hk]
      · refine pcQ res_ref22_text rfl (by simp [x_ref22_text]) fun fr hl ha => ?_
        have h0 := ha 0
        clear ha
        simp [x_ref22_text, tmV] at hl h0
        simp [x_ref22_text, hl, h0, dec_t hk]
    · cases hp : prB k nm l.length with
      | true =>
        obtain ⟨z1, z2, a, b, rfl, e⟩ := pr_two (s := s) (m := m) hp
        obtain ⟨us1, us2, us3⟩ := unt_sizes _ (.mk k nm s m [a, b]) (Nat.le_refl _)
        obtain ⟨bs1, bs2, bs3⟩ := unt_sizes _ b (Nat.le_refl _)
        simp only [Tm.sizes] at hsz
        have hu : Tm.sizes (untT (.mk k nm s m [a, b])) + 1 ≤ Tm.size (.mk k nm s m [a, b]) := by rw [e]; simp only [Tm.sizes]; omega
        obtain ⟨ss, hss, hT⟩ := TxOks (untT (.mk k nm s m [a, b])) fun u hm => ih u (by have := Tm.size_le hm; omega) (by have := Tm.size_le hm; omega) (us2 u hm hne)
        have hj := jo_size ss
        have add1 := bin_sadd (a := bs [60]) (b := joC ss) (by have : (bs [60]).size = 1 := rfl; omega)
        have hz1 : (bs [60] ++ joC ss).size = 1 + (joC ss).size := by rw [bs_size, app_data, List.length_append, ← bs_size, ← bs_size]; rfl
        have add2 := bin_sadd (a := bs [60] ++ joC ss) (b := bs [62]) (by have : (bs [62]).size = 1 := rfl; omega)
        have hz2 : (bs [60] ++ joC ss ++ bs [62]).size = 1 + (joC ss).size + 1 := by rw [bs_size, app_data, List.length_append, ← bs_size, ← bs_size, hz1]; rfl
        refine ⟨bs [60] ++ joC ss ++ bs [62], by omega, fun t' ht => ?_⟩
        have ht2 : t'.size = Tm.size (.mk k nm s m [a, b]) := by rw [← er_size _ t' (Nat.le_refl _), ht, er_size _ _ (Nat.le_refl _)]
        have hun : erTs (untT t') = erTs (untT (.mk k nm s m [a, b])) := by rw [← unt_er _ _ (Nat.le_refl _), ht, unt_er _ _ (Nat.le_refl _)]
        obtain ⟨m1, l1, hU, hl1⟩ := pc_Untuple t' (by omega)
        obtain ⟨m2, hR⟩ := pc_rUntuple _ t' (Nat.le_refl _) (by omega)
        have hl1s : Tm.sizes l1 = Tm.sizes (untT (.mk k nm s m [a, b])) := by rw [← ers_size, hl1, hun, ers_size]
        have hl2s : Tm.sizes (untT t') = Tm.sizes (untT (.mk k nm s m [a, b])) := by rw [← ers_size, hun, ers_size]
        have hl1l := Tm.length_le l1
        have hl2l := Tm.length_le (untT t')
        have tx1 := pc_texts m1 l1 ss (by omega) (hT l1 (hl1.trans hun)).1 (by omega)
        have tx2 := pc_list m2 (untT t') ss (by omega) (hT (untT t') hun).2 (by omega)
        have hlen2 : (1 : Int) < (untT t').length := by
          have : (untT t').length = (untT (.mk k nm s m [a, b])).length := by
            have := congrArg List.length hun
            simpa [erTs_map] using this
          rw [this, e]; simp; omega
        obtain ⟨k', nm', s', m', l'⟩ := t'
        simp only [erT, Tm.mk.injEq] at ht
        obtain ⟨rfl, rfl, rfl, _, hl'⟩ := ht
        have hll : (l'.length : Int) = 2 := by
          have := congrArg List.length hl'
          simp [erTs_map] at this
          omega
        rw [← tm_mk] at hU hR
        generalize untT (.mk k' nm' s' m' l') = U at *
        constructor
        · have hU' := hU
          rw [z2] at hU'
          refine pcQ res_syntax_text rfl (by simp [x_syntax_text]) fun fr hl ha => ?_
          have h0 := ha 0
          clear ha
          simp [x_syntax_text, tmV] at hl h0
          simp [x_syntax_text, hl, h0, dec_f hk, z2, hll, hU', tx1, add1, add2]
        · refine pcQ res_ref22_text rfl (by simp [x_ref22_text]) fun fr hl ha => ?_
          have h0 := ha 0
          clear ha
          simp [x_ref22_text, tmV] at hl h0
          simp [x_ref22_text, hl, h0, dec_f hk, hR, dec_t hlen2, tx2, add1, add2]
      | false =>
        obtain ⟨ss, hss, hT⟩ := TxOks l fun u hm => ih u (by have := Tm.size_le hm; omega) (by have := Tm.size_le hm; omega) (nodesEs_mem h2 u hm)
        have hj := jo_size ss
        have add1 := bin_sadd (a := nm) (b := bs [40]) (by have : (bs [40]).size = 1 := rfl; omega)
        have hz1 : (nm ++ bs [40]).size = nm.size + 1 := by rw [bs_size, app_data, List.length_append, ← bs_size, ← bs_size]; rfl
        have add2 := bin_sadd (a := nm ++ bs [40]) (b := joC ss) (by omega)
        have hz2 : (nm ++ bs [40] ++ joC ss).size = nm.size + 1 + (joC ss).size := by rw [bs_size, app_data, List.length_append, ← bs_size, ← bs_size, hz1]
        have add3 := bin_sadd (a := nm ++ bs [40] ++ joC ss) (b := bs [41]) (by have : (bs [41]).size = 1 := rfl; omega)
        have hz3 : (nm ++ bs [40] ++ joC ss ++ bs [41]).size = nm.size + 1 + (joC ss).size + 1 := by rw [bs_size, app_data, List.length_append, ← bs_size, ← bs_size, hz2]; rfl
        refine ⟨nm ++ bs [40] ++ joC ss ++ bs [41], by omega, fun t' ht => ?_⟩
        have ht2 : t'.size = Tm.size (.mk k nm s m l) := by rw [← er_size _ t' (Nat.le_refl _), ht, er_size _ _ (Nat.le_refl _)]
        obtain ⟨m2, hR⟩ := pc_rUntuple _ t' (Nat.le_refl _) (by omega)
        obtain ⟨k', nm', s', m', l'⟩ := t'
        simp only [erT, Tm.mk.injEq] at ht
        obtain ⟨rfl, rfl, rfl, _, hl'⟩ := ht
        have hll : l'.length = l.length := by
          have := congrArg List.length hl'
          simpa [erTs_map] using this
        have hsz' : Tm.size (.mk k' nm' s' m' l') = 1 + Tm.sizes l' := rfl
        have hl'l := Tm.length_le l'
        have tx1 := pc_texts m' l' ss (by omega) (hT l' hl').1 (by omega)
        have tx2 := pc_list m' l' ss (by omega) (hT l' hl').2 (by omega)
        rw [← hll] at hp
        rw [unt_one hp] at hR
        have hnp : ¬(nm' = bs [112, 97, 105, 114] ∧ (l'.length : Int) = 2) := by
          intro hc
          have hk3 : k' = 3 := by
            rcases n3 with h | h | h
            · have := n2 (.inl h); omega
            · exact absurd h hk
            · exact h
          have : prB k' nm' l'.length = true := by rw [← pr_dec]; simp [hk3, hc.1, hc.2]
          rw [hp] at this
          cases this
        rw [← tm_mk] at hR
        simp only [tmVs, tmV] at hR
        constructor
        · by_cases c1 : nm' = bs [112, 97, 105, 114]
          · have c2 : ¬(l'.length : Int) = 2 := fun h => hnp ⟨c1, h⟩
            refine pcQ res_syntax_text rfl (by simp [x_syntax_text]) fun fr hl ha => ?_
            have h0 := ha 0
            clear ha
            simp [x_syntax_text, tmV] at hl h0
            simp [x_syntax_text, hl, h0, dec_f hk, dec_t c1, dec_f c2, tx1, add1, add2, add3]
          · refine pcQ res_syntax_text rfl (by simp [x_syntax_text]) fun fr hl ha => ?_
            have h0 := ha 0
            clear ha
            simp [x_syntax_text, tmV] at hl h0
            simp [x_syntax_text, hl, h0, dec_f hk, dec_f c1, tx1, add1, add2, add3]
        · refine pcQ res_ref22_text rfl (by simp [x_ref22_text]) fun fr hl ha => ?_
          have h0 := ha 0
          clear ha
          simp [x_ref22_text, tmV] at hl h0
          simp [x_ref22_text, hl, h0, dec_f hk, hR, tx2, add1, add2, add3]
end Go.Abs.Q

/- Contracts: texts of goals. -/
namespace Go.Abs.Q
open Go.Proofs
attribute [local simp] look_set_ne look_set_eq fin tupled code_loop toL_iff toL_dec raw_syntax_kinds raw_syntax_agreement raw_syntax_texts raw_syntax_goalText raw_syntax_Valid raw_ref22_words raw_ref22_agreement raw_ref22_list

def kindsL : List ByteArray := [bs [115, 101, 99, 114, 101, 116], bs [97, 103, 114, 101, 101], bs [105, 110, 106, 101, 99, 116], bs [102, 114, 101, 115, 104], bs [102, 111, 114, 119, 97, 114, 100]]
def wordsL : List ByteArray := bs [] :: kindsL
theorem pc_kinds : pc Q n_syntax_kinds [] = some (sl (true, true) 1 (kindsL.map .str)) := by
  unfold kindsL
  refine pcQ res_syntax_kinds rfl (by simp [x_syntax_kinds]) fun fr hl ha => ?_
  clear ha
  simp [x_syntax_kinds] at hl 
  simp [x_syntax_kinds, hl, sliceParts]
theorem pc_words : pc Q n_ref22_words [] = some (sl (true, true) 1 (wordsL.map .str)) := by
  unfold wordsL kindsL
  refine pcQ res_ref22_words rfl (by simp [x_ref22_words]) fun fr hl ha => ?_
  clear ha
  simp [x_ref22_words] at hl 
  simp [x_ref22_words, hl, sliceParts]
theorem kinds_at {k : Int} (h1 : 1 ≤ k) (h5 : k ≤ 5) : ∃ w : ByteArray, w.size ≤ 7 ∧ nth (kindsL.map AV.str) (k - 1).toNat = some (.str w) ∧ nth (wordsL.map AV.str) k.toNat = some (.str w) := by
  have : k = 1 ∨ k = 2 ∨ k = 3 ∨ k = 4 ∨ k = 5 := by omega
  rcases this with rfl | rfl | rfl | rfl | rfl <;> exact ⟨_, by decide, rfl, rfl⟩
theorem app_size (a b : ByteArray) : (a ++ b).size = a.size + b.size := by rw [bs_size, app_data, List.length_append, ← bs_size, ← bs_size]
theorem app_asc (a b c : ByteArray) : a ++ b ++ c = a ++ (b ++ c) := ba_ext (by simp only [app_data, List.append_assoc])

/-- A goal has a text. -/
theorem pc_gText (g : Gol) (hv : golE g = 0) (hd : Tm.sizes g.data ≤ 1099511627776) : ∃ s : ByteArray, pc Q n_syntax_goalText [goV g] = some (.str s) ∧ pc Q n_ref22_GoalText [goV g] = some (.str s) := by
  have hdat := gol_data hv
  have hA := pc_agreement g
  have hA2 := pc_refagreement g
  obtain ⟨ss, hss, hT⟩ := TxOks g.data fun t ht => tx_all _ t (Nat.le_refl _) (by have := Tm.size_le ht; omega) (msg_nodes (hdat t ht))
  have hj := jo_size ss
  have hlen := Tm.length_le g.data
  have tx1 := pc_texts g.dm g.data ss (by omega) (hT g.data rfl).1 (by omega)
  have tx2 := pc_list g.dm g.data ss (by omega) (hT g.data rfl).2 (by omega)
  have hk : 1 ≤ g.kind ∧ g.kind ≤ 5 ∧ lexN g.role = true ∧ (agrB g = true → lexN g.wth = true) := by
    unfold golE at hv
    by_cases c1 : g.kind < 1 ∨ 5 < g.kind
    · rw [if_pos c1] at hv; omega
    · rw [if_neg c1] at hv
      by_cases c2 : lexN g.role = false ∨ agrB g = true ∧ lexN g.wth = false
      · rw [if_pos c2] at hv; omega
      · refine ⟨by omega, by omega, ?_, fun h => ?_⟩
        · cases hr : lexN g.role with
          | true => rfl
          | false => exact absurd (.inl hr) c2
        · cases hr : lexN g.wth with
          | true => rfl
          | false => exact absurd (.inr ⟨h, hr⟩) c2
  obtain ⟨k1, k5, hr, hw⟩ := hk
  have sz : ∀ a, lexN a = true → a.size ≤ 24 := fun a h => nameB_size (by unfold lexN at h; rw [Bool.and_eq_true] at h; exact h.1)
  have hrs := sz _ hr
  obtain ⟨w, hws, w1, w2⟩ := kinds_at k1 k5
  have w1 : nth (kindsL.map AV.str) (g.kind.toNat - 1) = some (.str w) := by rw [← w1]; congr 1; omega
  have lk : kindsL.length = 5 := rfl
  have lw : wordsL.length = 6 := rfl
  have hwp : IntKind.i64.wrap (g.kind - 1) = g.kind - 1 := wrap_id (by omega) (by omega)
  have q1 : g.kind - 1 < 5 := by omega
  have q2 : g.kind < 6 := by omega
  have q3 : 0 ≤ g.kind := by omega
  have q4 : 0 ≤ g.kind - 1 := by omega
  have z1 : (bs [32]).size = 1 := rfl
  have z2 : (bs [58, 32]).size = 2 := rfl
  have a1 := bin_sadd (a := w) (b := bs [32]) (by omega)
  have a2 := bin_sadd (a := w ++ bs [32]) (b := g.role) (by rw [app_size]; omega)
  cases ha : agrB g with
  | true =>
    have hwt := sz _ (hw ha)
    rw [ha] at hA hA2
    have a3 := bin_sadd (a := bs [32]) (b := g.wth) (by omega)
    have a4 := bin_sadd (a := w ++ bs [32] ++ g.role) (b := bs [32] ++ g.wth) (by simp only [app_size]; omega)
    have a5 := bin_sadd (a := w ++ bs [32] ++ g.role ++ (bs [32] ++ g.wth)) (b := bs [58, 32]) (by simp only [app_size]; omega)
    have a6 := bin_sadd (a := w ++ bs [32] ++ g.role ++ (bs [32] ++ g.wth) ++ bs [58, 32]) (b := joC ss) (by simp only [app_size]; omega)
    have b4 := bin_sadd (a := w ++ bs [32] ++ g.role) (b := bs [32]) (by simp only [app_size]; omega)
    have b5 := bin_sadd (a := w ++ bs [32] ++ g.role ++ bs [32]) (b := g.wth) (by simp only [app_size]; omega)
    rw [app_asc (w ++ bs [32] ++ g.role)] at b5
    refine ⟨w ++ bs [32] ++ g.role ++ (bs [32] ++ g.wth) ++ bs [58, 32] ++ joC ss, ?_, ?_⟩
    · refine pcQ res_syntax_goalText rfl (by simp [x_syntax_goalText]) fun fr hl ha => ?_
      have h0 := ha 0
      clear ha
      simp [x_syntax_goalText] at hl h0
      simp [x_syntax_goalText, hl, h0, pc_kinds, hwp, k1, w1, a1, a2, hA, a3, a4, a5, tx1, a6]
    · refine pcQ res_ref22_GoalText rfl (by simp [x_ref22_GoalText]) fun fr hl ha => ?_
      have h0 := ha 0
      clear ha
      simp [x_ref22_GoalText] at hl h0
      simp [x_ref22_GoalText, hl, h0, pc_words, q3, w2, a1, a2, hA2, b4, b5, a5, tx2, a6]
  | false =>
    rw [ha] at hA hA2
    have a5 := bin_sadd (a := w ++ bs [32] ++ g.role) (b := bs [58, 32]) (by simp only [app_size]; omega)
    have a6 := bin_sadd (a := w ++ bs [32] ++ g.role ++ bs [58, 32]) (b := joC ss) (by simp only [app_size]; omega)
    refine ⟨w ++ bs [32] ++ g.role ++ bs [58, 32] ++ joC ss, ?_, ?_⟩
    · refine pcQ res_syntax_goalText rfl (by simp [x_syntax_goalText]) fun fr hl ha => ?_
      have h0 := ha 0
      clear ha
      simp [x_syntax_goalText] at hl h0
      simp [x_syntax_goalText, hl, h0, pc_kinds, hwp, k1, w1, a1, a2, hA, a5, tx1, a6]
    · refine pcQ res_ref22_GoalText rfl (by simp [x_ref22_GoalText]) fun fr hl ha => ?_
      have h0 := ha 0
      clear ha
      simp [x_ref22_GoalText] at hl h0
      simp [x_ref22_GoalText, hl, h0, pc_words, q3, w2, a1, a2, hA2, a5, tx2, a6]

theorem loop_Goals (m : Bool × Bool) (l : List Gol) (ss : List ByteArray) (hlen : l.length ≤ 1048576) (hsl : ss.length = l.length) (hT : ∀ (i : Nat) (h : i < l.length) (h' : i < ss.length), pc Q n_syntax_goalText [goV l[i]] = some (.str ss[i])) (fr : Fr) (h : AH) (h3 : look fr 3 = .vs true 0 []) (hl : fr.length = 23) (h10 : look fr 10 = sl m 5 (l.map goV)) (h11 : look fr 11 = .int .i64 l.length) (h12 : look fr 12 = .int .i64 0) :
    Ends (lp (evalCode (lim Q) (ctxF n_syntax_Goals) x_syntax_Goals_0) (fr, h)) fun e fr' h' => Kp x_syntax_Goals_0.wr fr fr' ∧ e = .exit 0 ∧ Grw 1 (ss.map .str) (look fr' 3) h' := by
  refine Ends_lpw rfl fr (fun n fr h' => ∃ (i : Nat), i + n = l.length ∧ look fr 12 = .int .i64 (i : Nat) ∧ Grw 1 ((ss.take i).map .str) (look fr 3) h') ?_ l.length h ⟨0, by omega, h12, by rw [h3]; exact Grw_nil _ _⟩
  rintro J Φ hJ hΦ n fr1 H1 K ⟨i, hi, k12, hr⟩
  have hl1 : fr1.length = 23 := K.1.trans hl
  have k10 := (K.2 10 (by decide)).trans h10
  have k11 := (K.2 11 (by decide)).trans h11
  clear K
  by_cases hlt : i < l.length
  · have hwp : IntKind.i64.wrap ((i : Int) + 1) = (i : Int) + 1 := wrap_id (by omega) (by omega)
    obtain ⟨bx, fams⟩ := H1
    have hx := nth_map (f := goV) (List.getElem?_eq_getElem hlt)
    have hlt' : i < ss.length := by rw [hsl]; exact hlt
    have hI := hT i hlt hlt'
    have hsl2 : (ss.take i).length = i := by simp; omega
    obtain ⟨v', ⟨bx', fams'⟩, ha, hg', hbx⟩ := Grw_one (c := ctxF n_syntax_Goals) (bytes := 16) (x := .str ss[i]) (h := ⟨bx ++ [(goV l[i]).cells], fams⟩) (Grw_fams hr rfl) rfl (true, true) (by simp; omega) (by simp; omega)
    have e3 : (ss.take i).map AV.str ++ [AV.str ss[i]] = (ss.take (i + 1)).map .str := by rw [List.take_succ_eq_append_getElem hlt', List.map_append]; rfl
    rw [e3, List.map_take] at hg'
    generalize l[i] = t at *
    generalize ss[i] = s at *
    simp only at hbx
    subst hbx
    simp only [go_cells] at ha
    simp [x_syntax_Goals_0, hl1, k10, k11, k12, hlt, hwp, hx, hI, sliceParts, ha]
    exact ⟨n - 1, by omega, hJ _ _ _ ⟨i + 1, by omega, by simp [hl1], by simp [hl1]; exact Grw_fams hg' rfl⟩⟩
  · rw [List.take_of_length_le (by omega)] at hr
    obtain ⟨bx, fams⟩ := H1
    simp [x_syntax_Goals_0, hl1, k11, k12, hlt]
    exact hΦ _ _ _ ⟨rfl, by simp; exact hr⟩

/-- The texts of all goals. -/
theorem gTexts : ∀ (l : List Gol), (∀ g ∈ l, golE g = 0 ∧ Tm.sizes g.data ≤ 1099511627776) → ∃ ss : List ByteArray, ss.length = l.length ∧ ∀ (i : Nat) (h : i < l.length) (h' : i < ss.length), pc Q n_syntax_goalText [goV l[i]] = some (.str ss[i]) ∧ pc Q n_ref22_GoalText [goV l[i]] = some (.str ss[i])
  | [], _ => ⟨[], rfl, fun i h => by simp at h⟩
  | g :: l, h => by
    obtain ⟨s, h1, h2⟩ := pc_gText g (h g (by simp)).1 (h g (by simp)).2
    obtain ⟨ss, k1, k2⟩ := gTexts l fun g hg => h g (List.mem_cons_of_mem _ hg)
    refine ⟨s :: ss, by simp [k1], fun i g1 g2 => ?_⟩
    cases i with
    | zero => exact ⟨h1, h2⟩
    | succ i => exact k2 i (by simpa using g1) (by simpa using g2)
theorem pc_Goals (n : Nar) (F : Fine n) (S : Lens n) (hv : narE n = 0) (ss : List ByteArray) (hsl : ss.length = n.goals.length)
    (hT : ∀ (i : Nat) (h : i < n.goals.length) (h' : i < ss.length), pc Q n_syntax_goalText [goV n.goals[i]] = some (.str ss[i])) : ∃ m, pc Q n_syntax_Goals [narV n] = some (sl m 1 (ss.map .str)) := by
  have hV := pc_narValid n F
  rw [hv] at hV
  have hlp := loop_Goals n.gm n.goals ss S.goals hsl hT
  have nb := na_cells n
  suffices h : ∃ v, pc Q n_syntax_Goals [narV n] = some v ∧ ∃ m, v = sl m 1 (ss.map .str) by
    obtain ⟨v, h1, m, rfl⟩ := h
    exact ⟨m, h1⟩
  refine pc_ends_ex (C := Q) ((Q_spec _).trans rfl) ((Q_code _).trans res_syntax_Goals) (by simp [x_syntax_Goals]) fun Ψ hΨ fr hl ha => ?_
  rw [Q_ctx]
  have h0 := ha 0
  clear ha
  simp [x_syntax_Goals] at hl h0
  simp [x_syntax_Goals, hl, h0, nb, hV]
  refine Ends.mono (hlp _ _ ?_ ?_ ?_ ?_ ?_) ?_ <;> first | (simp [hl]; done) | skip
  rintro e fr1 ⟨bx, fams⟩ ⟨K, rfl, hg⟩
  have hlfr1 : fr1.length = 23 := K.1.trans (by simp [hl])
  clear K
  obtain ⟨mm, hz⟩ := Grw_frzRes hg
  simp [hlfr1, hz]
  exact hΨ _ ⟨mm, rfl⟩
end Go.Abs.Q

/- Contracts: the terms and the text of a goal. -/
namespace Go.Abs.Q
open Go.Proofs
attribute [local simp] look_set_ne look_set_eq fin tupled code_loop toL_iff toL_dec raw_goal_Valid raw_ref27_Valid raw_scope_Check raw_ref23_Check raw_scope_Resolve raw_ref23_Resolve raw_goal_agreement raw_ref27_Agreement raw_slices_Clone_Term raw_goal_Data_1 raw_ref15_Agent raw_ref01_Atom raw_syntax_Goals raw_ref22_GoalText rawv_goal_Data

/-- The error of a narration and the index of a goal. -/
def valE (n : Nar) (g : Int) : Int := if (scoE n).2 ≠ 0 then (scoE n).2 else if g < 0 ∨ (n.goals.length : Int) ≤ g then 7 else 0
theorem pc_gValid (n : Nar) (F : Fine n) (S : Lens n) (g : Int) : pc Q n_goal_Valid [narV n, .int .i64 g] = some (.int .i64 (valE n g)) := by
  have hC := pc_scoCheck n F S.names
  unfold valE
  have nb := na_cells n
  generalize scoE n = z at *
  by_cases c1 : z.2 = 0
  · rw [if_neg (by simp [c1])]
    by_cases c2 : g < 0
    · rw [if_pos (.inl c2)]
      refine pcQ res_goal_Valid rfl (by simp [x_goal_Valid]) fun fr hl ha => ?_
      have h0 := ha 0
      have h1 := ha 1
      clear ha
      simp [x_goal_Valid] at hl h0 h1
      simp [x_goal_Valid, hl, h0, h1, nb, hC, c1, dec_t c2]
    · by_cases c3 : (n.goals.length : Int) ≤ g
      · rw [if_pos (.inr c3)]
        refine pcQ res_goal_Valid rfl (by simp [x_goal_Valid]) fun fr hl ha => ?_
        have h0 := ha 0
        have h1 := ha 1
        clear ha
        simp [x_goal_Valid] at hl h0 h1
        simp [x_goal_Valid, hl, h0, h1, nb, hC, c1, dec_f c2, dec_t c3]
      · rw [if_neg (by omega)]
        refine pcQ res_goal_Valid rfl (by simp [x_goal_Valid]) fun fr hl ha => ?_
        have h0 := ha 0
        have h1 := ha 1
        clear ha
        simp [x_goal_Valid] at hl h0 h1
        simp [x_goal_Valid, hl, h0, h1, nb, hC, c1, dec_f c2, dec_f c3]
  · rw [if_pos c1]
    refine pcQ res_goal_Valid rfl (by simp [x_goal_Valid]) fun fr hl ha => ?_
    have h0 := ha 0
    have h1 := ha 1
    clear ha
    simp [x_goal_Valid] at hl h0 h1
    simp [x_goal_Valid, hl, h0, nb, hC, c1]
theorem pc_rgValid (n : Nar) (F : Fine n) (S : Lens n) (g : Int) : pc Q n_ref27_Valid [narV n, .int .i64 g] = some (.int .i64 (valE n g)) := by
  have hC := pc_rCheck n F S
  unfold valE
  have nb := na_cells n
  generalize scoE n = z at *
  by_cases c1 : z.2 = 0
  · rw [if_neg (by simp [c1])]
    by_cases c2 : g < 0
    · rw [if_pos (.inl c2)]
      refine pcQ res_ref27_Valid rfl (by simp [x_ref27_Valid]) fun fr hl ha => ?_
      have h0 := ha 0
      have h1 := ha 1
      clear ha
      simp [x_ref27_Valid] at hl h0 h1
      simp [x_ref27_Valid, hl, h0, h1, nb, hC, c1, dec_t c2]
    · by_cases c3 : (n.goals.length : Int) ≤ g
      · rw [if_pos (.inr c3)]
        refine pcQ res_ref27_Valid rfl (by simp [x_ref27_Valid]) fun fr hl ha => ?_
        have h0 := ha 0
        have h1 := ha 1
        clear ha
        simp [x_ref27_Valid] at hl h0 h1
        simp [x_ref27_Valid, hl, h0, h1, nb, hC, c1, dec_f c2, dec_t c3]
      · rw [if_neg (by omega)]
        refine pcQ res_ref27_Valid rfl (by simp [x_ref27_Valid]) fun fr hl ha => ?_
        have h0 := ha 0
        have h1 := ha 1
        clear ha
        simp [x_ref27_Valid] at hl h0 h1
        simp [x_ref27_Valid, hl, h0, h1, nb, hC, c1, dec_f c2, dec_f c3]
  · rw [if_pos c1]
    refine pcQ res_ref27_Valid rfl (by simp [x_ref27_Valid]) fun fr hl ha => ?_
    have h0 := ha 0
    have h1 := ha 1
    clear ha
    simp [x_ref27_Valid] at hl h0 h1
    simp [x_ref27_Valid, hl, h0, nb, hC, c1]
theorem valE_zero {n : Nar} {g : Int} (h : valE n g = 0) : Right n ∧ (scoE n).2 = 0 ∧ 0 ≤ g ∧ g.toNat < n.goals.length := by
  unfold valE at h
  by_cases h1 : (scoE n).2 = 0
  · rw [if_neg (by simp [h1])] at h
    by_cases h2 : g < 0 ∨ (n.goals.length : Int) ≤ g
    · rw [if_pos h2] at h; omega
    · exact ⟨(scoE_zero h1).2, h1, by omega, by omega⟩
  · rw [if_pos h1] at h; exact absurd h h1

theorem pc_gagree (g : Gol) : pc Q n_goal_agreement [goV g] = some (.bool (agrB g)) := by
  unfold agrB
  refine pcQ res_goal_agreement rfl (by simp [x_goal_agreement]) fun fr hl ha => ?_
  have h0 := ha 0
  clear ha
  simp [x_goal_agreement] at hl h0
  by_cases h1 : g.kind = 2
  · simp [x_goal_agreement, hl, h0, dec_t h1]
  · simp [x_goal_agreement, hl, h0, dec_f h1]
theorem pc_rgagree (g : Gol) : pc Q n_ref27_Agreement [goV g] = some (.bool (agrB g)) := by
  unfold agrB
  refine pcQ res_ref27_Agreement rfl (by simp [x_ref27_Agreement]) fun fr hl ha => ?_
  have h0 := ha 0
  clear ha
  simp [x_ref27_Agreement] at hl h0
  by_cases h1 : g.kind = 2
  · simp [x_ref27_Agreement, hl, h0, dec_t h1]
  · simp [x_ref27_Agreement, hl, h0, dec_f h1]
def agT (a : ByteArray) : Tm := .mk 2 a 1 (true, false) []
theorem agT_eq (a : ByteArray) : AV.agg [.int .i64 2, .str a, .int .i64 1, .vs true 0 []] = tmV (agT a) := by simp [agT, tmV, tmVs, sl]
theorem pc_agent1 (a : ByteArray) : pc Q n_goal_Data_1 [.str a] = some (tmV (agT a)) := by
  rw [← agT_eq]
  refine pcQ res_goal_Data_1 rfl (by simp [x_goal_Data_1]) fun fr hl ha => ?_
  have h0 := ha 0
  clear ha
  simp [x_goal_Data_1] at hl h0
  simp [x_goal_Data_1, hl, h0, fillParts, buildParts]
  rfl
theorem pc_refAtom (a : ByteArray) (s : Int) : pc Q n_ref01_Atom [.str a, .int .i64 s] = some (.agg [.int .i64 2, .str a, .int .i64 s, sl (true, false) 4 []]) := by
  refine pcQ res_ref01_Atom rfl (by simp [x_ref01_Atom]) fun fr hl ha => ?_
  have h0 := ha 0
  have h1 := ha 1
  clear ha
  simp [x_ref01_Atom] at hl h0 h1
  simp [x_ref01_Atom, hl, h0, h1, fillParts, buildParts]
  simp [sl]
theorem pc_agent2 (a : ByteArray) : pc Q n_ref15_Agent [.str a] = some (tmV (agT a)) := by
  have := pc_refAtom a 1
  unfold agT tmV tmVs
  refine pcQ res_ref15_Agent rfl (by simp [x_ref15_Agent]) fun fr hl ha => ?_
  have h0 := ha 0
  clear ha
  simp [x_ref15_Agent] at hl h0
  simp [x_ref15_Agent, hl, h0, this]

/-- The terms of a goal. -/
def datE (n : Nar) (g : Int) : List Tm :=
  if valE n g ≠ 0 then [] else match n.goals[g.toNat]? with
    | some x => (if agrB x = true then [erT (agT x.role), erT (agT x.wth)] else []) ++ srtTs (lookS (namesN n) (sortsN n)) x.data
    | none => []
theorem goal_at {n r : Nar} {f : ByteArray → Int} (he : erN r = srtN f n) {i : Nat} (hi : i < n.goals.length) : ∃ h : i < r.goals.length, erG r.goals[i] = srtG f n.goals[i] := by
  have h1 : r.goals.map erG = n.goals.map (srtG f) := by
    have := congrArg Nar.goals he
    simpa [erN, srtN] using this
  have h2 : r.goals.length = n.goals.length := by simpa using congrArg List.length h1
  have h3 : i < r.goals.length := by omega
  refine ⟨h3, ?_⟩
  have h4 := congrArg (fun l => l[i]?) h1
  simpa [hi, h3] using h4
theorem datE_at {n : Nar} {g : Int} (hv : valE n g = 0) (hi : g.toNat < n.goals.length) (x : Gol) (hx : erG x = srtG (lookS (namesN n) (sortsN n)) n.goals[g.toNat]) :
    datE n g = (if agrB x = true then [erT (agT x.role), erT (agT x.wth)] else []) ++ erTs x.data := by
  unfold datE
  rw [if_neg (by simp [hv]), List.getElem?_eq_getElem hi]
  simp only [erG, srtG, Gol.mk.injEq] at hx
  obtain ⟨q1, q2, q3, _, q4, _⟩ := hx
  have q5 : agrB n.goals[g.toNat] = agrB x := by simp only [agrB, q1]
  simp only [q5, q2, q3, q4]
theorem Row_frzRes {k sz : Nat} {xs : List AV} {v : AV} {h : AH} (hr : Row k sz xs v h) : ∃ m, frzRes h v = some (sl m sz xs) := by
  rcases hr with ⟨rfl, b, rfl⟩ | ⟨_, rfl, hk⟩
  · exact ⟨_, rfl⟩
  · exact ⟨_, frz_row hk rfl⟩
end Go.Abs.Q

/- Contracts: the terms and the text of a goal. -/
namespace Go.Abs.Q
open Go.Proofs
attribute [local simp] look_set_ne look_set_eq fin tupled code_loop toL_iff toL_dec raw_goal_Valid raw_ref27_Valid raw_scope_Check raw_ref23_Check raw_scope_Resolve raw_ref23_Resolve raw_goal_agreement raw_ref27_Agreement raw_slices_Clone_Term raw_goal_Data_1 raw_ref15_Agent raw_ref01_Atom raw_syntax_Goals raw_ref22_GoalText rawv_goal_Data

theorem pc_gData (n : Nar) (F : Fine n) (S : Lens n) (g : Int) : ∃ (m : Bool × Bool) (l : List Tm), pc Q n_goal_Data [narV n, .int .i64 g] = some (.tup [sl m 4 (tmVs l), .int .i64 (valE n g)]) ∧ erTs l = datE n g := by
  suffices h : ∃ v, pc Q n_goal_Data [narV n, .int .i64 g] = some v ∧ ∃ (m : Bool × Bool) (l : List Tm), v = .tup [sl m 4 (tmVs l), .int .i64 (valE n g)] ∧ erTs l = datE n g by
    obtain ⟨v, h1, m, l, rfl, h2⟩ := h
    exact ⟨m, l, h1, h2⟩
  have hV := pc_gValid n F S g
  have nb := na_cells n
  by_cases hz : valE n g = 0
  · obtain ⟨hR, h0, g0, gl⟩ := valE_zero hz
    obtain ⟨r, hS, hE⟩ := pc_Resolve n F S
    rw [h0] at hS
    obtain ⟨gr, hx⟩ := goal_at (hE h0) gl
    have hD := datE_at hz gl r.goals[g.toNat] hx
    have hdl : r.goals[g.toNat].data.length ≤ 1048576 := by
      have h1 := S.data _ (List.getElem_mem gl)
      have h2 : (erTs r.goals[g.toNat].data).length = (srtTs (lookS (namesN n) (sortsN n)) n.goals[g.toNat].data).length := congrArg List.length (congrArg Gol.data hx)
      rw [erTs_map, srtTs_map, List.length_map, List.length_map] at h2
      omega
    have hN := nth_map (f := goV) (List.getElem?_eq_getElem gr)
    rw [hz] at hV ⊢
    have gr' : g < (r.goals.length : Int) := by omega
    clear hx hE gl
    have rb := na_cells r
    generalize r.goals[g.toNat] = x at *
    have hA := pc_gagree x
    cases ha : agrB x with
    | false =>
      rw [ha] at hD hA
      obtain ⟨w, ⟨bx, fams⟩, hC, hRow, hbx, e, hFe⟩ := rc_CloneTerm x.dm (tmVs x.data) (by simpa using hdl) ⟨[(narV n).cells, (narV r).cells, (goV x).cells], []⟩
      simp only at hbx
      subst hbx
      obtain ⟨mm, hw⟩ := Row_frz hRow
      obtain ⟨c1, c2, c3⟩ := Row_cells hRow
      rw [nb, rb, go_cells] at hC hw
      refine pc_ends_ex (C := Q) ((Q_spec _).trans rfl) ((Q_code _).trans res_goal_Data) (by simp [x_goal_Data]) fun Ψ hΨ fr hl ha => ?_
      rw [Q_ctx]
      have h0 := ha 0
      have h1 := ha 1
      clear ha
      simp [x_goal_Data] at hl h0 h1
      simp [x_goal_Data, hl, h0, h1, nb, hV, hS, rb, g0, hN, hA, hC, hw.2]
      exact hΨ _ ⟨mm, x.data, rfl, by rw [hD]; simp⟩
    | true =>
      rw [ha] at hD hA
      have p1 := pc_agent1 x.role
      have p2 := pc_agent1 x.wth
      rw [if_pos rfl] at hD
      by_cases hnil : x.data = []
      · have hq := eq_true hnil
        refine pc_ends_ex (C := Q) ((Q_spec _).trans rfl) ((Q_code _).trans res_goal_Data) (by simp [x_goal_Data]) fun Ψ hΨ fr hl ha => ?_
        rw [Q_ctx]
        have h0 := ha 0
        have h1 := ha 1
        clear ha
        simp [x_goal_Data] at hl h0 h1
        simp [x_goal_Data, hl, h0, h1, nb, hV, hS, rb, g0, hN, hA, p1, p2, sliceParts, app_sl, hq]
        exact hΨ _ ⟨(true, true), [agT x.role, agT x.wth], rfl, by rw [hD]; simp [hnil, erTs]⟩
      · have r1 : (2 + x.data.length) * 56 ≤ roomA ∧ 2 + x.data.length ≤ maxLen := by simp only [roomA, maxLen]; omega
        have e1 : x.data.length + 1 + 1 = 2 + x.data.length := by omega
        have e2 : List.take (2 + x.data.length) (tmV (agT x.role) :: tmV (agT x.wth) :: tmVs x.data) = tmV (agT x.role) :: tmV (agT x.wth) :: tmVs x.data := List.take_of_length_le (by simp; omega)
        refine pc_ends_ex (C := Q) ((Q_spec _).trans rfl) ((Q_code _).trans res_goal_Data) (by simp [x_goal_Data]) fun Ψ hΨ fr hl ha => ?_
        rw [Q_ctx]
        have h0 := ha 0
        have h1 := ha 1
        clear ha
        simp [x_goal_Data] at hl h0 h1
        simp [x_goal_Data, hl, h0, h1, nb, hV, hS, rb, g0, hN, hA, p1, p2, sliceParts, app_sl, hnil, r1, e1, e2]
        exact hΨ _ ⟨(false, true), agT x.role :: agT x.wth :: x.data, by simp [tmVs], by rw [hD]; simp [erTs]⟩
  · refine pc_ends_ex (C := Q) ((Q_spec _).trans rfl) ((Q_code _).trans res_goal_Data) (by simp [x_goal_Data]) fun Ψ hΨ fr hl ha => ?_
    rw [Q_ctx]
    have h0 := ha 0
    have h1 := ha 1
    clear ha
    simp [x_goal_Data] at hl h0 h1
    simp [x_goal_Data, hl, h0, h1, nb, hV, hz]
    exact hΨ _ ⟨(true, false), [], by simp [tmVs, sl], by unfold datE; rw [if_pos hz]; rfl⟩

theorem pc_rgData (n : Nar) (F : Fine n) (S : Lens n) (g : Int) : ∃ (m : Bool × Bool) (l : List Tm), pc Q n_ref27_Data [narV n, .int .i64 g] = some (.tup [sl m 4 (tmVs l), .int .i64 (valE n g)]) ∧ erTs l = datE n g := by
  suffices h : ∃ v, pc Q n_ref27_Data [narV n, .int .i64 g] = some v ∧ ∃ (m : Bool × Bool) (l : List Tm), v = .tup [sl m 4 (tmVs l), .int .i64 (valE n g)] ∧ erTs l = datE n g by
    obtain ⟨v, h1, m, l, rfl, h2⟩ := h
    exact ⟨m, l, h1, h2⟩
  have hV := pc_rgValid n F S g
  have nb := na_cells n
  by_cases hz : valE n g = 0
  · obtain ⟨hR, h0, g0, gl⟩ := valE_zero hz
    obtain ⟨r, hS, hE⟩ := pc_rResolve n F S
    rw [h0] at hS
    obtain ⟨gr, hx⟩ := goal_at (hE h0) gl
    have hD := datE_at hz gl r.goals[g.toNat] hx
    have hdl : r.goals[g.toNat].data.length ≤ 1048576 := by
      have h1 := S.data _ (List.getElem_mem gl)
      have h2 : (erTs r.goals[g.toNat].data).length = (srtTs (lookS (namesN n) (sortsN n)) n.goals[g.toNat].data).length := congrArg List.length (congrArg Gol.data hx)
      rw [erTs_map, srtTs_map, List.length_map, List.length_map] at h2
      omega
    have hN := nth_map (f := goV) (List.getElem?_eq_getElem gr)
    rw [hz] at hV ⊢
    have gr' : g < (r.goals.length : Int) := by omega
    clear hx hE gl
    have rb := na_cells r
    generalize r.goals[g.toNat] = x at *
    have hA := pc_rgagree x
    cases ha : agrB x with
    | false =>
      rw [ha] at hD hA
      by_cases hnil : x.data = []
      · have hq := eq_true hnil
        refine pc_ends_ex (C := Q) ((Q_spec _).trans rfl) ((Q_code _).trans res_ref27_Data) (by simp [x_ref27_Data]) fun Ψ hΨ fr hl ha => ?_
        rw [Q_ctx]
        have h0 := ha 0
        have h1 := ha 1
        clear ha
        simp [x_ref27_Data] at hl h0 h1
        simp [x_ref27_Data, hl, h0, h1, nb, hV, hS, rb, g0, hN, hA, hq]
        exact hΨ _ ⟨(true, false), [], by simp [tmVs, sl], by rw [hD]; simp [hnil, erTs]⟩
      · have r1 : x.data.length * 56 ≤ roomA ∧ x.data.length ≤ maxLen := by simp only [roomA, maxLen]; omega
        refine pc_ends_ex (C := Q) ((Q_spec _).trans rfl) ((Q_code _).trans res_ref27_Data) (by simp [x_ref27_Data]) fun Ψ hΨ fr hl ha => ?_
        rw [Q_ctx]
        have h0 := ha 0
        have h1 := ha 1
        clear ha
        simp [x_ref27_Data] at hl h0 h1
        simp [x_ref27_Data, hl, h0, h1, nb, hV, hS, rb, g0, hN, hA, hnil, r1]
        exact hΨ _ ⟨(false, true), x.data, by rw [List.take_of_length_le (by simp)], by rw [hD]; simp⟩
    | true =>
      rw [ha] at hD hA
      have p1 := pc_agent2 x.role
      have p2 := pc_agent2 x.wth
      rw [if_pos rfl] at hD
      have r0 : 2 * 56 ≤ roomA ∧ 2 ≤ maxLen := by simp only [roomA, maxLen]; omega
      have r1 : (2 + x.data.length) * 56 ≤ roomA ∧ 2 + x.data.length ≤ maxLen := by simp only [roomA, maxLen]; omega
      have e1 : x.data.length + 1 + 1 = 2 + x.data.length := by omega
      have e2 : List.take (2 + x.data.length) (tmV (agT x.role) :: tmV (agT x.wth) :: tmVs x.data) = tmV (agT x.role) :: tmV (agT x.wth) :: tmVs x.data := List.take_of_length_le (by simp; omega)
      refine pc_ends_ex (C := Q) ((Q_spec _).trans rfl) ((Q_code _).trans res_ref27_Data) (by simp [x_ref27_Data]) fun Ψ hΨ fr hl ha => ?_
      rw [Q_ctx]
      have h0 := ha 0
      have h1 := ha 1
      clear ha
      simp [x_ref27_Data] at hl h0 h1
      simp [x_ref27_Data, hl, h0, h1, nb, hV, hS, rb, g0, hN, hA, p1, p2, sliceParts, r0, r1, e1, e2]
      exact hΨ _ ⟨(false, true), agT x.role :: agT x.wth :: x.data, by simp [tmVs], by rw [hD]; simp [erTs]⟩
  · refine pc_ends_ex (C := Q) ((Q_spec _).trans rfl) ((Q_code _).trans res_ref27_Data) (by simp [x_ref27_Data]) fun Ψ hΨ fr hl ha => ?_
    rw [Q_ctx]
    have h0 := ha 0
    have h1 := ha 1
    clear ha
    simp [x_ref27_Data] at hl h0 h1
    simp [x_ref27_Data, hl, h0, h1, nb, hV, hz]
    exact hΨ _ ⟨(true, false), [], by simp [tmVs, sl], by unfold datE; rw [if_pos hz]; rfl⟩

theorem pc_gText2 (n : Nar) (F : Fine n) (S : Lens n) (g : Int) : ∃ s : ByteArray, pc Q n_goal_Text [narV n, .int .i64 g] = some (.tup [.str s, .int .i64 (valE n g)]) ∧ pc Q n_ref27_Text [narV n, .int .i64 g] = some (.tup [.str s, .int .i64 (valE n g)]) := by
  have hV := pc_gValid n F S g
  have hV2 := pc_rgValid n F S g
  have nb := na_cells n
  by_cases hz : valE n g = 0
  · obtain ⟨hR, h0, g0, gl⟩ := valE_zero hz
    have gr' : g < (n.goals.length : Int) := by omega
    obtain ⟨k1, k2, k3⟩ := narE_zero hR.nar
    obtain ⟨ss, hss, hT⟩ := gTexts n.goals fun x hx => ⟨k3 x hx, (F.goals x hx).2.2⟩
    obtain ⟨m, hG⟩ := pc_Goals n F S hR.nar ss hss fun i h h' => (hT i h h').1
    have gs : g.toNat < ss.length := by omega
    have gs' : g < (ss.length : Int) := by omega
    have hN := nth_map (f := AV.str) (List.getElem?_eq_getElem gs)
    have hN2 := nth_map (f := goV) (List.getElem?_eq_getElem gl)
    have hT := (hT _ gl gs).2
    rw [hz] at hV hV2 ⊢
    refine ⟨ss[g.toNat], ?_, ?_⟩
    · generalize ss[g.toNat] = s at *
      refine pcQ res_goal_Text rfl (by simp [x_goal_Text]) fun fr hl ha => ?_
      have h0 := ha 0
      have h1 := ha 1
      clear ha
      simp [x_goal_Text] at hl h0 h1
      simp [x_goal_Text, hl, h0, h1, nb, hV, hG, g0, hN]
    · generalize ss[g.toNat] = s at *
      generalize n.goals[g.toNat] = x at *
      refine pcQ res_ref27_Text rfl (by simp [x_ref27_Text]) fun fr hl ha => ?_
      have h0 := ha 0
      have h1 := ha 1
      clear ha
      simp [x_ref27_Text] at hl h0 h1
      simp [x_ref27_Text, hl, h0, h1, nb, hV2, g0, hN2, hT]
  · refine ⟨bs [], ?_, ?_⟩
    · refine pcQ res_goal_Text rfl (by simp [x_goal_Text]) fun fr hl ha => ?_
      have h0 := ha 0
      have h1 := ha 1
      clear ha
      simp [x_goal_Text] at hl h0 h1
      simp [x_goal_Text, hl, h0, h1, nb, hV, hz]
    · refine pcQ res_ref27_Text rfl (by simp [x_ref27_Text]) fun fr hl ha => ?_
      have h0 := ha 0
      have h1 := ha 1
      clear ha
      simp [x_ref27_Text] at hl h0 h1
      simp [x_ref27_Text, hl, h0, h1, nb, hV2, hz]

theorem less_irr (l : List UInt8) : Op.bytesLess l l = false := by
  induction l with
  | nil => rfl
  | cons a l ih => simp [Op.bytesLess, ih]
theorem cmpI_self (a : Int) : cmpI a a = 0 := by simp [cmpI]
theorem cmpB_self (a : ByteArray) : cmpBytes a a = 0 := by simp [cmpBytes, less_irr]
theorem cmpT_er : ∀ (n : Nat) (a b : Tm), a.size ≤ n → erT a = erT b → cmpT a b = 0 := by
  intro n
  induction n with
  | zero => intro t _ h; have := t.size_pos; omega
  | succ n ih =>
    intro a b hn he
    obtain ⟨k, nm, s, m, l⟩ := a
    obtain ⟨k', nm', s', m', l'⟩ := b
    have hsz : Tm.size (.mk k nm s m l) = 1 + Tm.sizes l := rfl
    simp only [erT, Tm.mk.injEq] at he
    obtain ⟨rfl, rfl, rfl, _, hl⟩ := he
    have h1 : Tm.sizes l = Tm.sizes l' := by rw [← ers_size l, hl, ers_size]
    have h2 : l.length = l'.length := by
      have := congrArg List.length hl
      simpa [erTs_map] using this
    have : ∀ l l' : List Tm, Tm.sizes l ≤ n → erTs l = erTs l' → cmpTs l l' = 0 := by
      intro l
      induction l with
      | nil => intro l' _ h; exact cmpTs_nil l'
      | cons a l ihl =>
        intro l' hs h
        cases l' with
        | nil => simp [erTs] at h
        | cons b l' =>
          simp only [erTs, List.cons.injEq] at h
          simp only [Tm.sizes] at hs
          simp [cmpTs, nz, ih a b (by omega) h.1, ihl l' (by omega) h.2]
    simp [cmpT, nz, cmpI_self, cmpB_self, h1, h2, this l l' (by omega) hl]
theorem eqTs_er : ∀ (l l' : List Tm), erTs l = erTs l' → eqTs l l' = true
  | [], [], _ => rfl
  | [], b :: l', h => by simp [erTs] at h
  | a :: l, [], h => by simp [erTs] at h
  | a :: l, b :: l', h => by
    simp only [erTs, List.cons.injEq] at h
    simp [eqTs, eqT, cmpT_er _ a b (Nat.le_refl _) h.1, eqTs_er l l' h.2]
end Go.Abs.Q

/- Readings of narrations as abstract values. -/
namespace Go.Abs.Q
open Go.Proofs
open Go.Proofs.YtpkegmgepnhfnaaGreat (Rows.uptoBulk Rows.uptoBulkAll)

theorem cInt : Tryz.prog.cellsOf 3 = 1 := by kernel_rfl
theorem cStr : Tryz.prog.cellsOf 9 = 1 := by kernel_rfl
theorem cStrs : Tryz.prog.cellsOf 22 = 1 := by kernel_rfl
theorem cTerms : Tryz.prog.cellsOf 30 = 1 := by kernel_rfl
theorem cTerm : Tryz.prog.cellsOf 52 = 4 := by kernel_rfl
theorem cFresh : Tryz.prog.cellsOf 98 = 3 := by kernel_rfl
theorem cFreshs : Tryz.prog.cellsOf 23 = 1 := by kernel_rfl
theorem cStep : Tryz.prog.cellsOf 54 = 7 := by kernel_rfl
theorem cSteps : Tryz.prog.cellsOf 24 = 1 := by kernel_rfl
theorem cGoal : Tryz.prog.cellsOf 56 = 5 := by kernel_rfl
theorem cGoals : Tryz.prog.cellsOf 25 = 1 := by kernel_rfl
theorem cNar : Tryz.prog.cellsOf 27 = 6 := by kernel_rfl

theorem len3 {α : Type} : ∀ {l : List α}, l.length = 3 → ∃ a b c, l = [a, b, c]
  | [a, b, c], _ => ⟨a, b, c, rfl⟩
theorem len4 {α : Type} : ∀ {l : List α}, l.length = 4 → ∃ a b c d, l = [a, b, c, d]
  | [a, b, c, d], _ => ⟨a, b, c, d, rfl⟩
theorem len5 {α : Type} : ∀ {l : List α}, l.length = 5 → ∃ a b c d e, l = [a, b, c, d, e]
  | [a, b, c, d, e], _ => ⟨a, b, c, d, e, rfl⟩
theorem len6 {α : Type} : ∀ {l : List α}, l.length = 6 → ∃ a b c d e f, l = [a, b, c, d, e, f]
  | [a, b, c, d, e, f], _ => ⟨a, b, c, d, e, f, rfl⟩
theorem len7 {α : Type} : ∀ {l : List α}, l.length = 7 → ∃ a b c d e f g, l = [a, b, c, d, e, f, g]
  | [a, b, c, d, e, f, g], _ => ⟨a, b, c, d, e, f, g, rfl⟩
/-- A struct: each field with its cells. -/
theorem struct_all {P : Program} {w : World} {t : TypeId} {H : Type} {enc : TypeId × Value → H} {fs : Array Field} {n : Nat} {cs : List Value} {x : DataW H × List MemPlace} (ht : P.underlying t = some (.struct fs)) {c : Nat} (hc : P.cellsOf t = c)
    (h : DataW.trod enc P w 0 (fun _ => true) true n t cs = some x) :
    ∃ (m : Nat) (xs : List (DataW H × List MemPlace)), n = m + 1 ∧ cs.length = c ∧ xs.length = fs.size ∧ x.1 = .agg (xs.map (·.1)) ∧ ∀ (i : Nat) (f : Field), fs[i]? = some f → ∃ y, xs[i]? = some y ∧ DataW.trod enc P w 0 (fun _ => true) true m f.type ((cs.drop f.offset).take (P.cellsOf f.type)) = some y := by
  obtain ⟨xs, m, rfl, rfl, h1, h2, h3⟩ := DataW.trod_struct ht h
  refine ⟨m, xs, rfl, by omega, h2, rfl, fun i f hi => ?_⟩
  have hlt : i < fs.size := (Array.getElem?_eq_some_iff.1 hi).1
  have := h3 i f hi
  rw [List.getElem?_eq_getElem (by omega)] at this
  exact ⟨xs[i], List.getElem?_eq_getElem _, this⟩
theorem CV_app {w : World} {ys ys' : List AV} {cs cs' : List Value} (h : CV w ys cs) (k : CV w ys' cs') : CV w (ys ++ ys') (cs ++ cs') := by
  induction ys generalizing cs with
  | nil =>
    have : cs = [] := by
      have := h.1
      simpa [PVs] using this
    subst this
    exact k
  | cons y ys ih =>
    obtain ⟨h1, h2⟩ := h
    simp only [PVs] at h1
    obtain ⟨u, us, rfl, h3, h4⟩ := h1
    have := ih ⟨h4, fun v hv => h2 v (List.mem_cons_of_mem _ hv)⟩
    refine CV_cons (CV_one h3 (h2 u (by simp))) this

variable {w : World}
theorem sizes_sum (l : List Tm) : (l.map Tm.size).sum = Tm.sizes l := by
  induction l with
  | nil => rfl
  | cons t l ih => simp [Tm.sizes, ih]
theorem sum_ge {α : Type} {f : α → Nat} (h : ∀ a, 1 ≤ f a) : ∀ l : List α, l.length ≤ (l.map f).sum
  | [] => by simp
  | a :: l => by have := h a; have := sum_ge h l; simp; omega
theorem sum_mem {α : Type} {f : α → Nat} {a : α} : ∀ {l : List α}, a ∈ l → f a ≤ (l.map f).sum
  | b :: l, h => by
    rcases List.mem_cons.1 h with rfl | h
    · simp
    · have := sum_mem (f := f) h
      simp
      omega
theorem opens_tm : ∀ n, Opens Tryz.prog w 52 (fun t : Tm => (tmV t).cells) (fun _ => True) Tm.size n := by
  intro n
  induction n using Nat.strongRecOn with
  | _ n ih =>
    intro H enc cs x hx
    obtain ⟨m, xs, rfl, hcl, hxl, hx1, hf⟩ := struct_all Tryz.underlying52 cTerm hx
    obtain ⟨y0, hy0, h0⟩ := hf 0 _ rfl
    obtain ⟨y1, hy1, h1⟩ := hf 1 _ rfl
    obtain ⟨y2, hy2, h2⟩ := hf 2 _ rfl
    obtain ⟨y3, hy3, h3⟩ := hf 3 _ rfl
    clear hf
    obtain ⟨v0, v1, v2, v3, rfl⟩ := len4 hcl
    obtain ⟨z0, z1, z2, z3, rfl⟩ := len4 hxl
    simp only [List.getElem?_cons_zero, List.getElem?_cons_succ, Option.some.injEq] at hy0 hy1 hy2 hy3
    subst hy0 hy1 hy2 hy3
    simp only [List.getElem_toArray, List.getElem_cons_zero, List.getElem_cons_succ, cInt, cStr, cTerms, List.drop_zero, List.drop_succ_cons, List.take_succ_cons, List.take_zero] at h0 h1 h2 h3
    obtain ⟨k, -, w0, cv0⟩ := opens_int (w := w) Tryz.underlying3 m enc _ _ h0
    obtain ⟨nm, -, w1, cv1⟩ := opens_str (w := w) Tryz.underlying9 m enc _ _ h1
    obtain ⟨s, -, w2, cv2⟩ := opens_int (w := w) Tryz.underlying3 m enc _ _ h2
    cases m with
    | zero => simp [DataW.trod] at h3
    | succ m =>
      obtain ⟨⟨bk, kids⟩, -, w3, cv3⟩ := opens_slice (w := w) Tryz.underlying30 cTerm (by omega) (ih m (by omega)) enc _ _ h3
      refine ⟨.mk k nm s (false, bk) kids, trivial, ?_, ?_⟩
      · rw [hx1]
        dsimp only at w0 w1 w2 w3
        rw [sizes_sum] at w3
        simp only [Tm.size, List.map_cons, List.map_nil, Rows.uptoBulk, Rows.uptoBulkAll]
        omega
      · dsimp only at cv0 cv1 cv2 cv3
        simp only [tmV, cells_agg]
        rw [tmVs_map]
        exact CV_cons cv0 (CV_cons cv1 (CV_cons cv2 cv3))
def strsW (l : List ByteArray) : Nat := (l.map fun s => s.size + 1).sum
theorem opens_strs (n : Nat) : Opens Tryz.prog w 22 (fun ys : Bool × List ByteArray => [sl (false, ys.1) 1 (ys.2.map AV.str)]) (fun _ => True) (fun ys => strsW ys.2) n := by
  intro H enc cs x hx
  cases n with
  | zero => simp [DataW.trod] at hx
  | succ n =>
    obtain ⟨ys, -, h1, h2⟩ := opens_slice (w := w) (enc := AV.str) Tryz.underlying22 cStr (by omega) (opens_str (w := w) Tryz.underlying9 n) enc _ _ hx
    exact ⟨ys, trivial, by unfold strsW; dsimp only at h1 ⊢; omega, h2⟩
def freW (f : Fre) : Nat := f.role.size + f.name.size + 1
theorem opens_fre (n : Nat) : Opens Tryz.prog w 98 (fun f : Fre => (frV f).cells) (fun _ => True) freW n := by
  intro H enc cs x hx
  obtain ⟨m, xs, rfl, hcl, hxl, hx1, hf⟩ := struct_all Tryz.underlying98 cFresh hx
  obtain ⟨y0, hy0, h0⟩ := hf 0 _ rfl
  obtain ⟨y1, hy1, h1⟩ := hf 1 _ rfl
  obtain ⟨y2, hy2, h2⟩ := hf 2 _ rfl
  clear hf
  obtain ⟨v0, v1, v2, rfl⟩ := len3 hcl
  obtain ⟨z0, z1, z2, rfl⟩ := len3 hxl
  simp only [List.getElem?_cons_zero, List.getElem?_cons_succ, Option.some.injEq] at hy0 hy1 hy2
  subst hy0 hy1 hy2
  simp only [List.getElem_toArray, List.getElem_cons_zero, List.getElem_cons_succ, cInt, cStr, List.drop_zero, List.drop_succ_cons, List.take_succ_cons, List.take_zero] at h0 h1 h2
  obtain ⟨a, -, w0, cv0⟩ := opens_str (w := w) Tryz.underlying9 m enc _ _ h0
  obtain ⟨b, -, w1, cv1⟩ := opens_str (w := w) Tryz.underlying9 m enc _ _ h1
  obtain ⟨s, -, w2, cv2⟩ := opens_int (w := w) Tryz.underlying3 m enc _ _ h2
  refine ⟨⟨a, b, s⟩, trivial, ?_, CV_cons cv0 (CV_cons cv1 cv2)⟩
  rw [hx1]
  dsimp only at w0 w1 w2
  simp only [freW, List.map_cons, List.map_nil, Rows.uptoBulk, Rows.uptoBulkAll]
  omega
def steW (s : Ste) : Nat := s.frm.size + s.to.size + s.msg.size + 1
theorem opens_ste (n : Nat) : Opens Tryz.prog w 54 (fun s : Ste => (stV s).cells) (fun _ => True) steW n := by
  intro H enc cs x hx
  obtain ⟨m, xs, rfl, hcl, hxl, hx1, hf⟩ := struct_all Tryz.underlying54 cStep hx
  obtain ⟨y0, hy0, h0⟩ := hf 0 _ rfl
  obtain ⟨y1, hy1, h1⟩ := hf 1 _ rfl
  obtain ⟨y2, hy2, h2⟩ := hf 2 _ rfl
  obtain ⟨y3, hy3, h3⟩ := hf 3 _ rfl
  clear hf
  obtain ⟨v0, v1, v2, v3, v4, v5, v6, rfl⟩ := len7 hcl
  obtain ⟨z0, z1, z2, z3, rfl⟩ := len4 hxl
  simp only [List.getElem?_cons_zero, List.getElem?_cons_succ, Option.some.injEq] at hy0 hy1 hy2 hy3
  subst hy0 hy1 hy2 hy3
  simp only [List.getElem_toArray, List.getElem_cons_zero, List.getElem_cons_succ, cInt, cStr, cTerm, List.drop_zero, List.drop_succ_cons, List.take_succ_cons, List.take_zero] at h0 h1 h2 h3
  obtain ⟨a, -, w0, cv0⟩ := opens_str (w := w) Tryz.underlying9 m enc _ _ h0
  obtain ⟨b, -, w1, cv1⟩ := opens_str (w := w) Tryz.underlying9 m enc _ _ h1
  obtain ⟨t, -, w2, cv2⟩ := opens_tm m enc _ _ h2
  obtain ⟨l, -, w3, cv3⟩ := opens_int (w := w) Tryz.underlying3 m enc _ _ h3
  refine ⟨⟨a, b, t, l⟩, trivial, ?_, ?_⟩
  · rw [hx1]
    dsimp only at w0 w1 w2 w3
    simp only [steW, List.map_cons, List.map_nil, Rows.uptoBulk, Rows.uptoBulkAll]
    omega
  · have := CV_cons cv0 (CV_cons cv1 (CV_app cv2 cv3))
    dsimp only at this ⊢
    rw [tm_cells] at this
    simpa only [st_cells, List.cons_append, List.nil_append] using this
def golW (g : Gol) : Nat := g.role.size + g.wth.size + Tm.sizes g.data + 1
theorem opens_gol (n : Nat) : Opens Tryz.prog w 56 (fun g : Gol => (goV g).cells) (fun _ => True) golW n := by
  intro H enc cs x hx
  obtain ⟨m, xs, rfl, hcl, hxl, hx1, hf⟩ := struct_all Tryz.underlying56 cGoal hx
  obtain ⟨y0, hy0, h0⟩ := hf 0 _ rfl
  obtain ⟨y1, hy1, h1⟩ := hf 1 _ rfl
  obtain ⟨y2, hy2, h2⟩ := hf 2 _ rfl
  obtain ⟨y3, hy3, h3⟩ := hf 3 _ rfl
  obtain ⟨y4, hy4, h4⟩ := hf 4 _ rfl
  clear hf
  obtain ⟨v0, v1, v2, v3, v4, rfl⟩ := len5 hcl
  obtain ⟨z0, z1, z2, z3, z4, rfl⟩ := len5 hxl
  simp only [List.getElem?_cons_zero, List.getElem?_cons_succ, Option.some.injEq] at hy0 hy1 hy2 hy3 hy4
  subst hy0 hy1 hy2 hy3 hy4
  simp only [List.getElem_toArray, List.getElem_cons_zero, List.getElem_cons_succ, cInt, cStr, cTerms, List.drop_zero, List.drop_succ_cons, List.take_succ_cons, List.take_zero] at h0 h1 h2 h3 h4
  obtain ⟨k, -, w0, cv0⟩ := opens_int (w := w) Tryz.underlying3 m enc _ _ h0
  obtain ⟨a, -, w1, cv1⟩ := opens_str (w := w) Tryz.underlying9 m enc _ _ h1
  obtain ⟨b, -, w2, cv2⟩ := opens_str (w := w) Tryz.underlying9 m enc _ _ h2
  obtain ⟨l, -, w4, cv4⟩ := opens_int (w := w) Tryz.underlying3 m enc _ _ h4
  cases m with
  | zero => simp [DataW.trod] at h3
  | succ m =>
    obtain ⟨⟨bk, kids⟩, -, w3, cv3⟩ := opens_slice (w := w) Tryz.underlying30 cTerm (by omega) (opens_tm m) enc _ _ h3
    refine ⟨⟨k, a, b, (false, bk), kids, l⟩, trivial, ?_, ?_⟩
    · rw [hx1]
      dsimp only at w0 w1 w2 w3 w4
      rw [sizes_sum] at w3
      simp only [golW, List.map_cons, List.map_nil, Rows.uptoBulk, Rows.uptoBulkAll]
      omega
    · dsimp only at cv0 cv1 cv2 cv3 cv4
      rw [← tmVs_map] at cv3
      exact CV_cons cv0 (CV_cons cv1 (CV_cons cv2 (CV_cons cv3 cv4)))
def narW (n : Nar) : Nat := n.name.size + strsW n.roles + (n.fresh.map freW).sum + strsW n.tags + (n.steps.map steW).sum + (n.goals.map golW).sum
theorem opens_nar (n : Nat) : Opens Tryz.prog w 27 (fun g : Nar => (narV g).cells) (fun _ => True) narW n := by
  intro H enc cs x hx
  obtain ⟨m, xs, rfl, hcl, hxl, hx1, hf⟩ := struct_all Tryz.underlying27 cNar hx
  obtain ⟨y0, hy0, h0⟩ := hf 0 _ rfl
  obtain ⟨y1, hy1, h1⟩ := hf 1 _ rfl
  obtain ⟨y2, hy2, h2⟩ := hf 2 _ rfl
  obtain ⟨y3, hy3, h3⟩ := hf 3 _ rfl
  obtain ⟨y4, hy4, h4⟩ := hf 4 _ rfl
  obtain ⟨y5, hy5, h5⟩ := hf 5 _ rfl
  clear hf
  obtain ⟨v0, v1, v2, v3, v4, v5, rfl⟩ := len6 hcl
  obtain ⟨z0, z1, z2, z3, z4, z5, rfl⟩ := len6 hxl
  simp only [List.getElem?_cons_zero, List.getElem?_cons_succ, Option.some.injEq] at hy0 hy1 hy2 hy3 hy4 hy5
  subst hy0 hy1 hy2 hy3 hy4 hy5
  simp only [List.getElem_toArray, List.getElem_cons_zero, List.getElem_cons_succ, cStr, cStrs, cFreshs, cSteps, cGoals, List.drop_zero, List.drop_succ_cons, List.take_succ_cons, List.take_zero] at h0 h1 h2 h3 h4 h5
  obtain ⟨a, -, w0, cv0⟩ := opens_str (w := w) Tryz.underlying9 m enc _ _ h0
  obtain ⟨⟨b1, roles⟩, -, w1, cv1⟩ := opens_strs m enc _ _ h1
  obtain ⟨⟨b3, tags⟩, -, w3, cv3⟩ := opens_strs m enc _ _ h3
  cases m with
  | zero => simp [DataW.trod] at h2
  | succ m =>
    obtain ⟨⟨b2, fresh⟩, -, w2, cv2⟩ := opens_slice (w := w) (enc := frV) Tryz.underlying23 cFresh (by omega) (opens_fre m) enc _ _ h2
    obtain ⟨⟨b4, steps⟩, -, w4, cv4⟩ := opens_slice (w := w) (enc := stV) Tryz.underlying24 cStep (by omega) (opens_ste m) enc _ _ h4
    obtain ⟨⟨b5, goals⟩, -, w5, cv5⟩ := opens_slice (w := w) (enc := goV) Tryz.underlying25 cGoal (by omega) (opens_gol m) enc _ _ h5
    refine ⟨⟨a, (false, b1), roles, (false, b2), fresh, (false, b3), tags, (false, b4), steps, (false, b5), goals⟩, trivial, ?_, ?_⟩
    · rw [hx1]
      dsimp only at w0 w1 w2 w3 w4 w5
      simp only [narW, List.map_cons, List.map_nil, Rows.uptoBulk, Rows.uptoBulkAll]
      omega
    · exact CV_cons cv0 (CV_cons cv1 (CV_cons cv2 (CV_cons cv3 (CV_cons cv4 cv5))))
theorem nar_fine {n : Nar} (h : narW n ≤ 1048576) : Fine n ∧ Lens n ∧ stSz n.steps + goSz n.goals ≤ 1099511627776 := by
  unfold narW at h
  have r1 := sum_ge (f := fun s : ByteArray => s.size + 1) (fun s => by omega) n.roles
  have r2 := sum_ge (f := freW) (fun s => by unfold freW; omega) n.fresh
  have r3 := sum_ge (f := fun s : ByteArray => s.size + 1) (fun s => by omega) n.tags
  have r4 := sum_ge (f := steW) (fun s => by unfold steW; omega) n.steps
  have r5 := sum_ge (f := golW) (fun s => by unfold golW; omega) n.goals
  unfold strsW at h
  have m1 : ∀ s ∈ n.roles, s.size ≤ 1048576 := fun s hs => by have := sum_mem (f := fun s : ByteArray => s.size + 1) hs; omega
  have m2 : ∀ f ∈ n.fresh, f.role.size ≤ 1048576 ∧ f.name.size ≤ 1048576 := fun s hs => by have := sum_mem (f := freW) hs; unfold freW at this h; omega
  have m3 : ∀ s ∈ n.tags, s.size ≤ 1048576 := fun s hs => by have := sum_mem (f := fun s : ByteArray => s.size + 1) hs; omega
  have m4 : ∀ s ∈ n.steps, s.frm.size ≤ 1048576 ∧ s.to.size ≤ 1048576 ∧ s.msg.size ≤ 1048576 := fun s hs => by have := sum_mem (f := steW) hs; unfold steW at this h; omega
  have m5 : ∀ g ∈ n.goals, g.role.size ≤ 1048576 ∧ g.wth.size ≤ 1048576 ∧ Tm.sizes g.data ≤ 1048576 := fun s hs => by have := sum_mem (f := golW) hs; unfold golW at this h; omega
  have q1 : stSz n.steps ≤ (n.steps.map steW).sum := by
    generalize n.steps = l
    induction l with
    | nil => simp [stSz]
    | cons a l ih => simp only [stSz, List.map_cons, List.sum_cons, steW]; omega
  have q2 : goSz n.goals ≤ (n.goals.map golW).sum := by
    generalize n.goals = l
    induction l with
    | nil => simp [goSz]
    | cons a l ih => simp only [goSz, List.map_cons, List.sum_cons, golW]; omega
  refine ⟨⟨by omega, fun s hs => by have := m1 s hs; omega, by omega, fun s hs => by have := m2 s hs; omega, by omega, fun s hs => by have := m3 s hs; omega, by omega, fun s hs => by have := m4 s hs; omega, by omega, fun s hs => by have := m5 s hs; omega, by omega⟩, ⟨by omega, by omega, by omega, fun g hg => by have := m5 g hg; have := Tm.length_le g.data; omega⟩, by omega⟩
end Go.Abs.Q

namespace Go.Abs.Q
open Go.Proofs
theorem awake_orc : (orc Q 20).pure n_law27_awake [] = some (.bool true) := by kernel_rfl
theorem pc_awake : pc Q n_law27_awake [] = some (.bool true) := orc_pc Q awake_orc
end Go.Abs.Q
