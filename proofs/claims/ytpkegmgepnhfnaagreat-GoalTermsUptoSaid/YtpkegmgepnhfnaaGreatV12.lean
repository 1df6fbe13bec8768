/- Contracts: the error of the names (program). -/
import Derived.Test.YtpkegmgepnhfnaaGreatV11
/- Contracts: small narrations. -/
namespace Go.Abs.Q
open Go.Proofs
attribute [local simp] look_set_ne look_set_eq fin tupled code_loop raw_ref01_Few raw_ref22_Few raw_ref22_Light

def stSz : List Ste → Nat
  | [] => 0
  | s :: l => s.msg.size + stSz l
def goSz : List Gol → Nat
  | [] => 0
  | g :: l => Tm.sizes g.data + goSz l
theorem tmVs_app1 (a : List Tm) (t : Tm) : tmVs (a ++ [t]) = tmVs a ++ [tmV t] := by simp [tmVs_map]
theorem tmVs_appn (a b : List Tm) : tmVs (a ++ b) = tmVs a ++ tmVs b := by simp [tmVs_map]

theorem loop_FewSt (m : Bool × Bool) (l : List Ste) (hlen : l.length ≤ 1099511627776) (hsz : stSz l ≤ 1099511627776) (b0 b1 b2 b3 b5 : AV)
    (fr : Fr) (h : AH) (hh : h.boxes = [[b0, b1, b2, b3, sl m 7 (l.map stV), b5]]) (hl : fr.length = 67) (h1 : look fr 1 = .ptr 0 0) (h3 : look fr 3 = .vs true 0 []) (h4 : look fr 4 = .int .i64 0) :
    Ends (lp (evalCode (lim Q) (ctxF n_ref22_Few) x_ref22_Few_1) (fr, h)) fun e fr' h' => Kp x_ref22_Few_1.wr fr fr' ∧ h'.boxes = h.boxes ∧ e = .exit 0 ∧ ∃ acc : List Tm, Grw 4 (tmVs acc) (look fr' 3) h' ∧ Tm.sizes acc ≤ stSz l := by
  refine Ends_lpw rfl fr (fun n fr h' => ∃ (i : Nat) (acc : List Tm), i + n = l.length ∧ look fr 4 = .int .i64 (i : Nat) ∧ h'.boxes = h.boxes ∧ Grw 4 (tmVs acc) (look fr 3) h' ∧ Tm.sizes acc + stSz (l.drop i) ≤ stSz l) ?_ l.length h ⟨0, [], by omega, h4, rfl, by rw [h3]; exact Grw_nil _ _, by simp [Tm.sizes]⟩
  rintro J Φ hJ hΦ n fr1 ⟨bx, fams⟩ K ⟨i, acc, hi, k4, hb, hg, hs⟩
  rw [hh] at hb
  simp only at hb
  subst hb
  have hl1 : fr1.length = 67 := K.1.trans hl
  have k1 := (K.2 1 (by decide)).trans h1
  have hal := Tm.length_le acc
  by_cases hlt : i < l.length
  · have hx := nth_map (f := stV) (List.getElem?_eq_getElem hlt)
    have hw : IntKind.i64.wrap ((i : Int) + 1) = (i : Int) + 1 := wrap_id (by omega) (by omega)
    rw [List.drop_eq_getElem_cons hlt] at hs
    simp only [stSz] at hs
    generalize l[i] = f at *
    obtain ⟨r, nm, t, ln⟩ := f
    simp only at hs
    obtain ⟨v', h', ha, hg', hbx⟩ := Grw_one (c := ctxF n_ref22_Few) (bytes := 56) (x := tmV t) hg rfl (true, true) (by simp; omega) (by simp; omega)
    have hts := t.size_pos
    obtain ⟨tk, tn, ts, tm, tl⟩ := t
    have hg2 : Grw 4 (tmVs (acc ++ [.mk tk tn ts tm tl])) v' h' := by rw [tmVs_app1]; exact hg'
    simp only [stV, tmV, cells_agg, List.cons_append, List.nil_append] at hx ha
    simp [x_ref22_Few_1, hl1, k1, k4, hlt, hx, hw, sliceParts, ha]
    exact ⟨n - 1, by omega, hJ _ _ _ ⟨i + 1, acc ++ [.mk tk tn ts tm tl], by omega, by simp [hl1], by rw [hbx, hh], by simp [hl1]; exact hg2, by rw [Tm.sizes_append]; simp only [Tm.sizes]; omega⟩⟩
  · rw [List.drop_eq_nil_of_le (by omega)] at hs
    simp only [stSz] at hs
    simp [x_ref22_Few_1, hl1, k1, k4, hlt]
    exact hΦ _ _ _ ⟨hh.symm, rfl, acc, by simp; exact hg, by omega⟩

theorem loop_FewGo (m : Bool × Bool) (l : List Gol) (hlen : l.length ≤ 1099511627776) (acc0 : List Tm) (hsz : Tm.sizes acc0 + goSz l ≤ 1099511627776) (b0 b1 b2 b3 b4 : AV)
    (fr : Fr) (h : AH) (hh : h.boxes = [[b0, b1, b2, b3, b4, sl m 5 (l.map goV)]]) (hl : fr.length = 67) (h1 : look fr 1 = .ptr 0 0) (h3 : Grw 4 (tmVs acc0) (look fr 3) h) (h5 : look fr 5 = .int .i64 0) :
    Ends (lp (evalCode (lim Q) (ctxF n_ref22_Few) x_ref22_Few_0) (fr, h)) fun e fr' h' => Kp x_ref22_Few_0.wr fr fr' ∧ e = .exit 2 ∧ ∃ acc : List Tm, Grw 4 (tmVs acc) (look fr' 3) h' ∧ Tm.sizes acc ≤ 1099511627776 := by
  refine Ends_lpw rfl fr (fun n fr h' => ∃ (i : Nat) (acc : List Tm), i + n = l.length ∧ look fr 5 = .int .i64 (i : Nat) ∧ h'.boxes = h.boxes ∧ Grw 4 (tmVs acc) (look fr 3) h' ∧ Tm.sizes acc + goSz (l.drop i) ≤ 1099511627776) ?_ l.length h ⟨0, acc0, by omega, h5, rfl, h3, hsz⟩
  rintro J Φ hJ hΦ n fr1 ⟨bx, fams⟩ K ⟨i, acc, hi, k5, hb, hg, hs⟩
  rw [hh] at hb
  simp only at hb
  subst hb
  have hl1 : fr1.length = 67 := K.1.trans hl
  have k1 := (K.2 1 (by decide)).trans h1
  have hal := Tm.length_le acc
  by_cases hlt : i < l.length
  · have hx := nth_map (f := goV) (List.getElem?_eq_getElem hlt)
    have hw : IntKind.i64.wrap ((i : Int) + 1) = (i : Int) + 1 := wrap_id (by omega) (by omega)
    rw [List.drop_eq_getElem_cons hlt] at hs
    simp only [goSz] at hs
    generalize l[i] = g at *
    have hdl := Tm.length_le g.data
    obtain ⟨v', h', ha, hg', hbx⟩ := Grw_app (c := ctxF n_ref22_Few) (bytes := 56) (x := sl g.dm 4 (tmVs g.data)) (ys := tmVs g.data) hg rfl (sl_elems _ _ _ _) (by simp [roomA, maxLen]; omega)
    have hg2 : Grw 4 (tmVs (acc ++ g.data)) v' h' := by rw [tmVs_appn]; exact hg'
    simp only [goV] at hx
    simp [x_ref22_Few_0, hl1, k1, k5, hlt, hx, hw, ha]
    exact ⟨n - 1, by omega, hJ _ _ _ ⟨i + 1, acc ++ g.data, by omega, by simp [hl1], by rw [hbx, hh], by simp [hl1]; exact hg2, by rw [Tm.sizes_append]; omega⟩⟩
  · rw [List.drop_eq_nil_of_le (by omega)] at hs
    simp only [goSz] at hs
    simp [x_ref22_Few_0, hl1, k1, k5, hlt]
    exact hΦ _ _ _ ⟨rfl, acc, by simp; exact hg, by omega⟩

theorem loop_LightSt (m : Bool × Bool) (l : List Ste) (hlen : l.length ≤ 1099511627776) (hsz : stSz l ≤ 1099511627776) (b0 b1 b2 b3 b5 : AV)
    (fr : Fr) (h : AH) (hh : h.boxes = [[b0, b1, b2, b3, sl m 7 (l.map stV), b5]]) (hl : fr.length = 54) (h1 : look fr 1 = .ptr 0 0) (h3 : look fr 3 = .vs true 0 []) (h4 : look fr 4 = .int .i64 0) :
    Ends (lp (evalCode (lim Q) (ctxF n_ref22_Light) x_ref22_Light_1) (fr, h)) fun e fr' h' => Kp x_ref22_Light_1.wr fr fr' ∧ h'.boxes = h.boxes ∧ e = .exit 0 ∧ ∃ acc : List Tm, Grw 4 (tmVs acc) (look fr' 3) h' ∧ Tm.sizes acc ≤ stSz l := by
  refine Ends_lpw rfl fr (fun n fr h' => ∃ (i : Nat) (acc : List Tm), i + n = l.length ∧ look fr 4 = .int .i64 (i : Nat) ∧ h'.boxes = h.boxes ∧ Grw 4 (tmVs acc) (look fr 3) h' ∧ Tm.sizes acc + stSz (l.drop i) ≤ stSz l) ?_ l.length h ⟨0, [], by omega, h4, rfl, by rw [h3]; exact Grw_nil _ _, by simp [Tm.sizes]⟩
  rintro J Φ hJ hΦ n fr1 ⟨bx, fams⟩ K ⟨i, acc, hi, k4, hb, hg, hs⟩
  rw [hh] at hb
  simp only at hb
  subst hb
  have hl1 : fr1.length = 54 := K.1.trans hl
  have k1 := (K.2 1 (by decide)).trans h1
  have hal := Tm.length_le acc
  by_cases hlt : i < l.length
  · have hx := nth_map (f := stV) (List.getElem?_eq_getElem hlt)
    have hw : IntKind.i64.wrap ((i : Int) + 1) = (i : Int) + 1 := wrap_id (by omega) (by omega)
    rw [List.drop_eq_getElem_cons hlt] at hs
    simp only [stSz] at hs
    generalize l[i] = f at *
    obtain ⟨r, nm, t, ln⟩ := f
    simp only at hs
    obtain ⟨v', h', ha, hg', hbx⟩ := Grw_one (c := ctxF n_ref22_Light) (bytes := 56) (x := tmV t) hg rfl (true, true) (by simp; omega) (by simp; omega)
    have hts := t.size_pos
    obtain ⟨tk, tn, ts, tm, tl⟩ := t
    have hg2 : Grw 4 (tmVs (acc ++ [.mk tk tn ts tm tl])) v' h' := by rw [tmVs_app1]; exact hg'
    simp only [stV, tmV, cells_agg, List.cons_append, List.nil_append] at hx ha
    simp [x_ref22_Light_1, hl1, k1, k4, hlt, hx, hw, sliceParts, ha]
    exact ⟨n - 1, by omega, hJ _ _ _ ⟨i + 1, acc ++ [.mk tk tn ts tm tl], by omega, by simp [hl1], by rw [hbx, hh], by simp [hl1]; exact hg2, by rw [Tm.sizes_append]; simp only [Tm.sizes]; omega⟩⟩
  · rw [List.drop_eq_nil_of_le (by omega)] at hs
    simp only [stSz] at hs
    simp [x_ref22_Light_1, hl1, k1, k4, hlt]
    exact hΦ _ _ _ ⟨hh.symm, rfl, acc, by simp; exact hg, by omega⟩

theorem loop_LightGo (m : Bool × Bool) (l : List Gol) (hlen : l.length ≤ 1099511627776) (acc0 : List Tm) (hsz : Tm.sizes acc0 + goSz l ≤ 1099511627776) (b0 b1 b2 b3 b4 : AV)
    (fr : Fr) (h : AH) (hh : h.boxes = [[b0, b1, b2, b3, b4, sl m 5 (l.map goV)]]) (hl : fr.length = 54) (h1 : look fr 1 = .ptr 0 0) (h3 : Grw 4 (tmVs acc0) (look fr 3) h) (h5 : look fr 5 = .int .i64 0) :
    Ends (lp (evalCode (lim Q) (ctxF n_ref22_Light) x_ref22_Light_0) (fr, h)) fun e fr' h' => Kp x_ref22_Light_0.wr fr fr' ∧ e = .exit 2 ∧ ∃ acc : List Tm, Grw 4 (tmVs acc) (look fr' 3) h' ∧ Tm.sizes acc ≤ 1099511627776 := by
  refine Ends_lpw rfl fr (fun n fr h' => ∃ (i : Nat) (acc : List Tm), i + n = l.length ∧ look fr 5 = .int .i64 (i : Nat) ∧ h'.boxes = h.boxes ∧ Grw 4 (tmVs acc) (look fr 3) h' ∧ Tm.sizes acc + goSz (l.drop i) ≤ 1099511627776) ?_ l.length h ⟨0, acc0, by omega, h5, rfl, h3, hsz⟩
  rintro J Φ hJ hΦ n fr1 ⟨bx, fams⟩ K ⟨i, acc, hi, k5, hb, hg, hs⟩
  rw [hh] at hb
  simp only at hb
  subst hb
  have hl1 : fr1.length = 54 := K.1.trans hl
  have k1 := (K.2 1 (by decide)).trans h1
  have hal := Tm.length_le acc
  by_cases hlt : i < l.length
  · have hx := nth_map (f := goV) (List.getElem?_eq_getElem hlt)
    have hw : IntKind.i64.wrap ((i : Int) + 1) = (i : Int) + 1 := wrap_id (by omega) (by omega)
    rw [List.drop_eq_getElem_cons hlt] at hs
    simp only [goSz] at hs
    generalize l[i] = g at *
    have hdl := Tm.length_le g.data
    obtain ⟨v', h', ha, hg', hbx⟩ := Grw_app (c := ctxF n_ref22_Light) (bytes := 56) (x := sl g.dm 4 (tmVs g.data)) (ys := tmVs g.data) hg rfl (sl_elems _ _ _ _) (by simp [roomA, maxLen]; omega)
    have hg2 : Grw 4 (tmVs (acc ++ g.data)) v' h' := by rw [tmVs_appn]; exact hg'
    simp only [goV] at hx
    simp [x_ref22_Light_0, hl1, k1, k5, hlt, hx, hw, ha]
    exact ⟨n - 1, by omega, hJ _ _ _ ⟨i + 1, acc ++ g.data, by omega, by simp [hl1], by rw [hbx, hh], by simp [hl1]; exact hg2, by rw [Tm.sizes_append]; omega⟩⟩
  · rw [List.drop_eq_nil_of_le (by omega)] at hs
    simp only [goSz] at hs
    simp [x_ref22_Light_0, hl1, k1, k5, hlt]
    exact hΦ _ _ _ ⟨rfl, acc, by simp; exact hg, by omega⟩

theorem few_any (h : AH) {acc : List Tm} {v : AV} (hg : Grw 4 (tmVs acc) v h) (hs : Tm.sizes acc ≤ 1099511627776) (a b : Int) (hb : b ≤ 9223372036854775807) : ∃ u r, frz h true v = some u ∧ pc Q n_ref01_Few [u, .int .i64 a, .int .i64 b] = some (.bool r) := by
  obtain ⟨m, hm⟩ := Grw_frz hg
  exact ⟨_, _, hm, pc_Few m acc a b hs hb⟩

theorem pc_fewN (n : Nar) (F : Fine n) (hS : stSz n.steps + goSz n.goals ≤ 1099511627776) : ∃ b, pc Q n_ref22_Few [narV n] = some (.bool b) := by
  suffices h : ∃ r, pc Q n_ref22_Few [narV n] = some r ∧ ∃ b, r = .bool b by
    obtain ⟨r, h1, b, rfl⟩ := h
    exact ⟨b, h1⟩
  have l1 := F.stepsL
  have l2 := F.goalsL
  clear F
  obtain ⟨name, rm, roles, fm, fresh, tm, tags, sm, steps, gm, goals⟩ := n
  simp only at hS l1 l2
  refine pc_ends_ex (C := Q) ((Q_spec _).trans rfl) ((Q_code _).trans res_ref22_Few) (by simp [x_ref22_Few]) fun Ψ hΨ fr hl ha => ?_
  rw [Q_ctx]
  have h0 := ha 0
  clear ha
  simp [x_ref22_Few, narV] at hl h0
  by_cases c1 : (16 : Int) < (roles.length : Int)
  · simp [x_ref22_Few, hl, h0, dec_t c1]
    exact hΨ _ ⟨_, rfl⟩
  by_cases c2 : (16 : Int) < (fresh.length : Int)
  · simp [x_ref22_Few, hl, h0, dec_f c1, dec_t c2]
    exact hΨ _ ⟨_, rfl⟩
  by_cases c3 : (16 : Int) < (tags.length : Int)
  · simp [x_ref22_Few, hl, h0, dec_f c1, dec_f c2, dec_t c3]
    exact hΨ _ ⟨_, rfl⟩
  by_cases c4 : (16 : Int) < (steps.length : Int)
  · simp [x_ref22_Few, hl, h0, dec_f c1, dec_f c2, dec_f c3, dec_t c4]
    exact hΨ _ ⟨_, rfl⟩
  by_cases c5 : (16 : Int) < (goals.length : Int)
  · simp [x_ref22_Few, hl, h0, dec_f c1, dec_f c2, dec_f c3, dec_f c4, dec_t c5]
    exact hΨ _ ⟨_, rfl⟩
  simp [x_ref22_Few, hl, h0, dec_f c1, dec_f c2, dec_f c3, dec_f c4, dec_f c5]
  refine Ends.mono (loop_FewSt sm steps l1 (by omega) _ _ _ _ _ _ _ rfl ?_ ?_ ?_ ?_) ?_ <;> first | (simp [hl]; done) | skip
  rintro e fr1 ⟨bx, fams⟩ ⟨K, hb, rfl, acc, hg, hs⟩
  simp only at hb
  subst hb
  have hl1 : fr1.length = 67 := K.1.trans (by simp [hl])
  have k1 : look fr1 1 = .ptr 0 0 := (K.2 1 (by decide)).trans (by simp [hl])
  clear K
  simp
  refine Ends.mono (loop_FewGo gm goals l2 acc (by omega) _ _ _ _ _ _ _ rfl ?_ ?_ ?_ ?_) ?_ <;> first | (simp [hl1, k1]; done) | skip
  · simp
    exact hg
  rintro e fr2 h2 ⟨K, rfl, acc, hg, hs⟩
  have hl2 : fr2.length = 67 := K.1.trans (by simp [hl1])
  obtain ⟨u, r, hu, hp⟩ := few_any h2 hg hs 100 900 (by omega)
  simp [hl2, hu, hp]
  exact hΨ _ ⟨_, rfl⟩

theorem pc_light (n : Nar) (F : Fine n) (hS : stSz n.steps + goSz n.goals ≤ 1099511627776) : ∃ b, pc Q n_ref22_Light [narV n] = some (.bool b) := by
  suffices h : ∃ r, pc Q n_ref22_Light [narV n] = some r ∧ ∃ b, r = .bool b by
    obtain ⟨r, h1, b, rfl⟩ := h
    exact ⟨b, h1⟩
  obtain ⟨bf, hF⟩ := pc_fewN n F hS
  have l1 := F.stepsL
  have l2 := F.goalsL
  clear F
  obtain ⟨name, rm, roles, fm, fresh, tm, tags, sm, steps, gm, goals⟩ := n
  simp only at hS l1 l2
  refine pc_ends_ex (C := Q) ((Q_spec _).trans rfl) ((Q_code _).trans res_ref22_Light) (by simp [x_ref22_Light]) fun Ψ hΨ fr hl ha => ?_
  rw [Q_ctx]
  have h0 := ha 0
  clear ha
  simp [x_ref22_Light, narV] at hl h0 hF
  cases bf with
  | false =>
    simp [x_ref22_Light, hl, h0, hF]
    exact hΨ _ ⟨_, rfl⟩
  | true =>
    by_cases c4 : (5 : Int) < (steps.length : Int)
    · simp [x_ref22_Light, hl, h0, hF, dec_t c4]
      exact hΨ _ ⟨_, rfl⟩
    by_cases c5 : (5 : Int) < (goals.length : Int)
    · simp [x_ref22_Light, hl, h0, hF, dec_f c4, dec_t c5]
      exact hΨ _ ⟨_, rfl⟩
    simp [x_ref22_Light, hl, h0, hF, dec_f c4, dec_f c5]
    refine Ends.mono (loop_LightSt sm steps l1 (by omega) _ _ _ _ _ _ _ rfl ?_ ?_ ?_ ?_) ?_ <;> first | (simp [hl]; done) | skip
    rintro e fr1 ⟨bx, fams⟩ ⟨K, hb, rfl, acc, hg, hs⟩
    simp only at hb
    subst hb
    have hl1 : fr1.length = 54 := K.1.trans (by simp [hl])
    have k1 : look fr1 1 = .ptr 0 0 := (K.2 1 (by decide)).trans (by simp [hl])
    clear K
    simp
    refine Ends.mono (loop_LightGo gm goals l2 acc (by omega) _ _ _ _ _ _ _ rfl ?_ ?_ ?_ ?_) ?_ <;> first | (simp [hl1, k1]; done) | skip
    · simp
      exact hg
    rintro e fr2 h2 ⟨K, rfl, acc, hg, hs⟩
    have hl2 : fr2.length = 54 := K.1.trans (by simp [hl1])
    obtain ⟨u, r, hu, hp⟩ := few_any h2 hg hs 25 60 (by omega)
    simp [hl2, hu, hp]
    exact hΨ _ ⟨_, rfl⟩
end Go.Abs.Q

/- Contracts: the names of a narration and their places. -/
namespace Go.Abs.Q
open Go.Proofs
attribute [local simp] look_set_ne look_set_eq fin tupled code_loop raw_ref23_index raw_ref23_Names raw_scope_names raw_slices_Contains_string

@[simp] theorem frz1_vm (h : AH) (am : Bool) (ks vs : List AV) : frz1 h am (.vm ks vs) = some (.vm ks vs) := _root_.id rfl
@[simp] theorem frz_vm (h : AH) (am : Bool) (ks vs : List AV) : frz h am (.vm ks vs) = some (.vm ks vs) := _root_.id rfl
@[simp] theorem tame1_vm (h : AH) (ks vs : List AV) : tame1 h (.vm ks vs) = true := _root_.id rfl
@[simp] theorem isTup_vm (ks vs : List AV) : (AV.vm ks vs).isTup = false := _root_.id rfl
@[simp] theorem cells_vm (ks vs : List AV) : (AV.vm ks vs).cells = [.vm ks vs] := _root_.id rfl
@[simp] theorem isTup_mp (b : Nat) : (AV.mp b).isTup = false := _root_.id rfl
@[simp] theorem cells_mp (b : Nat) : (AV.mp b).cells = [.mp b] := _root_.id rfl

theorem eqKey_str (a b : ByteArray) : eqKey true (.str a) (.str b) = some (eqS a b) := by
  have : (a == b) = eqS a b := by
    rw [Bool.eq_iff_iff, eqS_iff]
    obtain ⟨a⟩ := a
    obtain ⟨b⟩ := b
    show (a == b) = true ↔ _
    rw [beq_iff_eq, ByteArray.mk.injEq]
  simp [eqKey, this]
theorem findK_some (a : ByteArray) : ∀ (l : List ByteArray) (i : Nat), l.any (eqS a) = true → findK true (.str a) (l.map AV.str) i = some (some (idxFrom (eqS a) i l).toNat)
  | [], i, h => by cases h
  | b :: l, i, h => by
    simp only [List.map_cons, findK, eqKey_str, idxFrom]
    cases hb : eqS a b with
    | true => simp
    | false =>
      rw [List.any_cons, hb, Bool.false_or] at h
      simp only [findK_some a l (i + 1) h]
      simp
theorem findK_none (a : ByteArray) : ∀ (l : List ByteArray) (i : Nat), l.any (eqS a) = false → findK true (.str a) (l.map AV.str) i = some none
  | [], i, _ => rfl
  | b :: l, i, h => by
    rw [List.any_cons, Bool.or_eq_false_iff] at h
    simp only [List.map_cons, findK, eqKey_str, h.1]
    exact findK_none a l (i + 1) h.2

theorem loop_index (m : Bool × Bool) (l : List ByteArray) (x : ByteArray) (hlen : l.length ≤ 1099511627776) (fr : Fr) (h : AH) (hl : fr.length = 19)
    (h0 : look fr 0 = sl m 1 (l.map AV.str)) (h1 : look fr 1 = .str x) (h5 : look fr 5 = .int .i64 0) :
    Ends (lp (evalCode (lim Q) (ctxF n_ref23_index) x_ref23_index_0) (fr, h)) fun e fr' h' => Kp x_ref23_index_0.wr fr fr' ∧ (e = .exit 0 ∧ idx (eqS x) l = -1 ∨ e = .ret ∧ look fr' 4 = .int .i64 (idx (eqS x) l)) := by
  refine Ends_lpw rfl fr (fun n fr h => ∃ i, i + n = l.length ∧ look fr 5 = .int .i64 (i : Nat) ∧ idxFrom (eqS x) i (l.drop i) = idx (eqS x) l) ?_ l.length h ⟨0, by omega, h5, rfl⟩
  rintro J Φ hJ hΦ n fr1 h1' K ⟨i, hi, k5, hr⟩
  have hl1 : fr1.length = 19 := K.1.trans hl
  have k0 := (K.2 0 (by decide)).trans h0
  have k1 := (K.2 1 (by decide)).trans h1
  by_cases hlt : i < l.length
  · have hx := nth_map (f := AV.str) (List.getElem?_eq_getElem hlt)
    have hw : IntKind.i64.wrap ((i : Int) + 1) = (i : Int) + 1 := wrap_id (by omega) (by omega)
    rw [List.drop_eq_getElem_cons hlt] at hr
    simp only [idxFrom, eqS, decide_eq_true_eq] at hr
    generalize l[i] = a at *
    by_cases hc : x.toList = a.toList
    · rw [if_pos hc] at hr
      simp [x_ref23_index_0, hl1, k0, k1, k5, hlt, hx, hc]
      exact hΦ _ _ _ (.inr ⟨rfl, by simp [hl1]; exact hr⟩)
    · have hc' : ¬a.toList = x.toList := fun e => hc e.symm
      rw [if_neg hc] at hr
      simp [x_ref23_index_0, hl1, k0, k1, k5, hlt, hx, hw, hc']
      exact ⟨n - 1, by omega, hJ _ _ _ ⟨i + 1, by omega, by simp [hl1], hr⟩⟩
  · rw [List.drop_eq_nil_of_le (by omega)] at hr
    simp [x_ref23_index_0, hl1, k0, k5, hlt]
    exact hΦ _ _ _ (.inl ⟨rfl, hr.symm⟩)

theorem pc_index (m : Bool × Bool) (l : List ByteArray) (x : ByteArray) (hlen : l.length ≤ 1099511627776) : pc Q n_ref23_index [strsV m l, .str x] = some (.int .i64 (idx (eqS x) l)) := by
  refine pcQ res_ref23_index rfl (by simp [x_ref23_index]) fun fr hl ha => ?_
  have h0 := ha 0
  have h1 := ha 1
  clear ha
  simp [x_ref23_index, strsV] at hl h0 h1
  simp [x_ref23_index]
  refine (loop_index m l x hlen _ _ (by simp [hl]) (by simp [h0]) (by simp [h1]) (by simp [hl])).mono ?_
  rintro e fr' h' ⟨K, ⟨rfl, he⟩ | ⟨rfl, h4⟩⟩
  · have hl' : fr'.length = 19 := K.1.trans (by simp [hl])
    simp [hl', he]
  · simp [h4]

/-- All names, and their sorts. -/
def namesN (n : Nar) : List ByteArray := n.roles ++ n.fresh.map Fre.name ++ n.tags
def sortsN (n : Nar) : List Int := n.roles.map (fun _ => 1) ++ n.fresh.map Fre.sort ++ n.tags.map (fun _ => 5)

/-- Two lists that grow side by side. -/
def Two (a b : List AV) (v w : AV) (h : AH) : Prop := (a = [] ∧ v = .vs true 0 [] ∧ b = [] ∧ w = .vs true 0 []) ∨ (a ≠ [] ∧ b ≠ [] ∧ ∃ j k, j ≠ k ∧ v = .sl j a.length 0 a.length ∧ h.fams[j]? = some ⟨a, 1, false⟩ ∧ w = .sl k b.length 0 b.length ∧ h.fams[k]? = some ⟨b, 1, false⟩)
theorem Two_one {c : Ctx} {a b : List AV} {v w x y : AV} {h : AH} (hg : Two a b v w h) (hm : c.mutApp = false) (m m' : Bool × Bool) (p q : Nat) (hp : p ≤ 16) (hq : q ≤ 16) (ha : a.length ≤ 1099511627776) (hb : b.length ≤ 1099511627776) :
    ∃ v' h1 w' h2, appendA c h 1 p v (sl m 1 [x]) = some (v', h1) ∧ appendA c h1 1 q w (sl m' 1 [y]) = some (w', h2) ∧ Two (a ++ [x]) (b ++ [y]) v' w' h2 ∧ h1.boxes = h.boxes ∧ h2.boxes = h.boxes := by
  have r0 : (1 : Nat) * p ≤ roomA ∧ 1 ≤ maxLen := by simp only [roomA, maxLen]; omega
  have r1 : (1 : Nat) * q ≤ roomA ∧ 1 ≤ maxLen := by simp only [roomA, maxLen]; omega
  have ra : (a.length + 1) * p ≤ roomA ∧ a.length + 1 ≤ maxLen := by
    simp only [roomA, maxLen]
    have := Nat.mul_le_mul_left (a.length + 1) hp
    omega
  have rb : (b.length + 1) * q ≤ roomA ∧ b.length + 1 ≤ maxLen := by
    simp only [roomA, maxLen]
    have := Nat.mul_le_mul_left (b.length + 1) hq
    omega
  rcases hg with ⟨rfl, rfl, rfl, rfl⟩ | ⟨hna, hnb, j, k, hjk, rfl, hj, rfl, hk⟩
  · refine ⟨.sl h.fams.length 1 0 1, ⟨h.boxes, h.fams ++ [⟨[x], 1, false⟩]⟩, .sl (h.fams.length + 1) 1 0 1, ⟨h.boxes, h.fams ++ [⟨[x], 1, false⟩] ++ [⟨[y], 1, false⟩]⟩, ?_, ?_, ?_, rfl, rfl⟩
    · rw [app_nil, sl_elems, Option.bind_some, if_neg (by simp), List.length_singleton, if_pos r0, hm]
    · rw [app_nil, sl_elems, Option.bind_some, if_neg (by simp), List.length_singleton, if_pos r1, hm]
      simp
    · refine .inr ⟨by simp, by simp, h.fams.length, h.fams.length + 1, by omega, by simp, by simp, by simp, by simp⟩
  · have hj' := getq_lt hj
    have hk' := getq_lt hk
    refine ⟨.sl j (a.length + 1) 0 (a.length + 1), ⟨h.boxes, h.fams.set j ⟨a ++ [x], 1, false⟩⟩, .sl k (b.length + 1) 0 (b.length + 1), ⟨h.boxes, (h.fams.set j ⟨a ++ [x], 1, false⟩).set k ⟨b ++ [y], 1, false⟩⟩, ?_, ?_, ?_, rfl, rfl⟩
    · rw [app_view, sl_elems, Option.bind_some, hj, Option.bind_some, List.length_singleton, if_pos ⟨rfl, rfl, by omega, ra⟩]
    · rw [app_view, sl_elems, Option.bind_some]
      simp only
      rw [List.getElem?_set_ne hjk, hk, Option.bind_some, List.length_singleton, if_pos ⟨rfl, rfl, by omega, rb⟩]
    · refine .inr ⟨by simp, by simp, j, k, hjk, by simp, ?_, by simp, ?_⟩
      · simp only
        rw [List.getElem?_set_ne (fun e => hjk e.symm), List.getElem?_set_self hj']
      · simp only
        rw [List.getElem?_set_self (by simpa using hk')]
theorem Two_frz {a b : List AV} {v w : AV} {h : AH} (hg : Two a b v w h) : ∃ m m', frz h true v = some (sl m 1 a) ∧ frz h true w = some (sl m' 1 b) := by
  rcases hg with ⟨rfl, rfl, rfl, rfl⟩ | ⟨hna, hnb, j, k, hjk, rfl, hj, rfl, hk⟩
  · exact ⟨(true, false), (true, false), frz_nil _ _, frz_nil _ _⟩
  · refine ⟨(false, true), (false, true), ?_, ?_⟩
    · rw [frz_view, frz1_view, hj, Option.bind_some, if_pos ⟨rfl, by omega, rfl⟩]
      simp
    · rw [frz_view, frz1_view, hk, Option.bind_some, if_pos ⟨rfl, by omega, rfl⟩]
      simp
theorem Two_flat {a b : List AV} {v w : AV} {h : AH} (hg : Two a b v w h) : True := trivial

theorem loop_Names2 (m : Bool × Bool) (l : List ByteArray) (hlen : l.length ≤ 1099511627776) (b0 b2 b3 b4 b5 : AV) (fr : Fr) (h : AH) (hh : h.boxes = [[b0, sl m 1 (l.map AV.str), b2, b3, b4, b5]]) (hl : fr.length = 72) (h1 : look fr 1 = .ptr 0 0)
    (h4 : look fr 4 = .vs true 0 []) (h5 : look fr 5 = .vs true 0 []) (h6 : look fr 6 = .int .i64 0) :
    Ends (lp (evalCode (lim Q) (ctxF n_ref23_Names) x_ref23_Names_2) (fr, h)) fun e fr' h' => Kp x_ref23_Names_2.wr fr fr' ∧ e = .exit 0 ∧ h'.boxes = h.boxes ∧ Two (l.map AV.str) ((l.map fun _ => (1 : Int)).map (AV.int .i64)) (look fr' 4) (look fr' 5) h' := by
  refine Ends_lpw rfl fr (fun n fr h' => ∃ i, i + n = l.length ∧ look fr 6 = .int .i64 (i : Nat) ∧ h'.boxes = h.boxes ∧ Two ((l.take i).map AV.str) (((l.take i).map fun _ => (1 : Int)).map (AV.int .i64)) (look fr 4) (look fr 5) h') ?_ l.length h ⟨0, by omega, h6, rfl, .inl ⟨rfl, h4, rfl, h5⟩⟩
  rintro J Φ hJ hΦ n fr1 ⟨bx, fams⟩ K ⟨i, hi, k6, hb, hg⟩
  rw [hh] at hb
  simp only at hb
  subst hb
  have hl1 : fr1.length = 72 := K.1.trans hl
  have k1 := (K.2 1 (by decide)).trans h1
  by_cases hlt : i < l.length
  · have hx := nth_map (f := AV.str) (List.getElem?_eq_getElem hlt)
    have hw : IntKind.i64.wrap ((i : Int) + 1) = (i : Int) + 1 := wrap_id (by omega) (by omega)
    obtain ⟨v', h1', w', h2', ha1, ha2, hg', hb1, hb2⟩ := Two_one (c := ctxF n_ref23_Names) (x := .str l[i]) (y := .int .i64 1) hg rfl (true, true) (true, true) 16 8 (by omega) (by omega) (by simp; omega) (by simp; omega)
    have hg2 : Two ((l.take (i + 1)).map AV.str) (((l.take (i + 1)).map fun _ => (1 : Int)).map (AV.int .i64)) v' w' h2' := by
      rw [List.take_succ_eq_append_getElem hlt, List.map_append, List.map_append, List.map_append]
      exact hg'
    have tw : ∀ F : Fr, look F 4 = v' → look F 5 = w' → Two ((l.take (i + 1)).map AV.str) (((l.take (i + 1)).map fun _ => (1 : Int)).map (AV.int .i64)) (look F 4) (look F 5) h2' := fun F e4 e5 => by rw [e4, e5]; exact hg2
    generalize l[i] = a at *
    simp [x_ref23_Names_2, hl1, k1, k6, hlt, hx, hw, sliceParts, ha1, ha2]
    exact ⟨n - 1, by omega, hJ _ _ _ ⟨i + 1, by omega, by simp [hl1], by rw [hb2, hh], tw _ (by simp [hl1]) (by simp [hl1])⟩⟩
  · have e : l.take i = l := List.take_of_length_le (by omega)
    rw [e] at hg
    have tw : ∀ F : Fr, look F 4 = look fr1 4 → look F 5 = look fr1 5 → Two (l.map AV.str) ((l.map fun _ => (1 : Int)).map (AV.int .i64)) (look F 4) (look F 5) _ := fun F e4 e5 => by rw [e4, e5]; exact hg
    simp [x_ref23_Names_2, hl1, k1, k6, hlt]
    exact hΦ _ _ _ ⟨rfl, by rw [hh], tw _ (by simp) (by simp)⟩
end Go.Abs.Q

/- Contracts: the names of a narration. -/
namespace Go.Abs.Q
open Go.Proofs
attribute [local simp] look_set_ne look_set_eq fin tupled code_loop raw_ref23_index raw_ref23_Names raw_scope_names

theorem loop_Names1 (m : Bool × Bool) (l : List Fre) (hlen : l.length ≤ 1048576) (A B : List AV) (hA : A.length ≤ 1048576) (hB : B.length ≤ 1048576) (b0 b1 b3 b4 b5 : AV) (fr : Fr) (h : AH) (hh : h.boxes = [[b0, b1, sl m 3 (l.map frV), b3, b4, b5]]) (hl : fr.length = 72) (h1 : look fr 1 = .ptr 0 0)
    (h45 : Two A B (look fr 4) (look fr 5) h) (h7 : look fr 7 = .int .i64 0) :
    Ends (lp (evalCode (lim Q) (ctxF n_ref23_Names) x_ref23_Names_1) (fr, h)) fun e fr' h' => Kp x_ref23_Names_1.wr fr fr' ∧ e = .exit 2 ∧ h'.boxes = h.boxes ∧ Two (A ++ (l.map Fre.name).map AV.str) (B ++ (l.map Fre.sort).map (AV.int .i64)) (look fr' 4) (look fr' 5) h' := by
  refine Ends_lpw rfl fr (fun n fr h' => ∃ i, i + n = l.length ∧ look fr 7 = .int .i64 (i : Nat) ∧ h'.boxes = h.boxes ∧ Two (A ++ ((l.take i).map Fre.name).map AV.str) (B ++ ((l.take i).map Fre.sort).map (AV.int .i64)) (look fr 4) (look fr 5) h') ?_ l.length h ⟨0, by omega, h7, rfl, by rw [List.take_zero, List.map_nil, List.map_nil, List.map_nil, List.map_nil, List.append_nil, List.append_nil]; exact h45⟩
  rintro J Φ hJ hΦ n fr1 ⟨bx, fams⟩ K ⟨i, hi, k7, hb, hg⟩
  rw [hh] at hb
  simp only at hb
  subst hb
  have hl1 : fr1.length = 72 := K.1.trans hl
  have k1 := (K.2 1 (by decide)).trans h1
  by_cases hlt : i < l.length
  · have hx := nth_map (f := frV) (List.getElem?_eq_getElem hlt)
    have hw : IntKind.i64.wrap ((i : Int) + 1) = (i : Int) + 1 := wrap_id (by omega) (by omega)
    obtain ⟨v', h1', w', h2', ha1, ha2, hg', hb1, hb2⟩ := Two_one (c := ctxF n_ref23_Names) (x := .str l[i].name) (y := .int .i64 l[i].sort) hg rfl (true, true) (true, true) 16 8 (by omega) (by omega) (by simp; omega) (by simp; omega)
    have hg2 : Two (A ++ ((l.take (i + 1)).map Fre.name).map AV.str) (B ++ ((l.take (i + 1)).map Fre.sort).map (AV.int .i64)) v' w' h2' := by
      rw [List.take_succ_eq_append_getElem hlt, List.map_append, List.map_append, List.map_append, List.map_append, ← List.append_assoc, ← List.append_assoc]
      exact hg'
    have tw : ∀ F : Fr, look F 4 = v' → look F 5 = w' → Two (A ++ ((l.take (i + 1)).map Fre.name).map AV.str) (B ++ ((l.take (i + 1)).map Fre.sort).map (AV.int .i64)) (look F 4) (look F 5) h2' := fun F e4 e5 => by rw [e4, e5]; exact hg2
    generalize l[i] = a at *
    obtain ⟨r, nm, so⟩ := a
    simp only [frV] at hx ha1 ha2
    simp [x_ref23_Names_1, hl1, k1, k7, hlt, hx, hw, flatA, AV.flat, sliceParts, ha1, ha2, hb1]
    exact ⟨n - 1, by omega, hJ _ _ _ ⟨i + 1, by omega, by simp [hl1], by rw [hb2, hh], tw _ (by simp [hl1]) (by simp [hl1])⟩⟩
  · have e : l.take i = l := List.take_of_length_le (by omega)
    rw [e] at hg
    have tw : ∀ F : Fr, look F 4 = look fr1 4 → look F 5 = look fr1 5 → Two (A ++ (l.map Fre.name).map AV.str) (B ++ (l.map Fre.sort).map (AV.int .i64)) (look F 4) (look F 5) _ := fun F e4 e5 => by rw [e4, e5]; exact hg
    simp [x_ref23_Names_1, hl1, k1, k7, hlt]
    exact hΦ _ _ _ ⟨rfl, by rw [hh], tw _ (by simp) (by simp)⟩

theorem loop_Names0 (m : Bool × Bool) (l : List ByteArray) (hlen : l.length ≤ 1048576) (A B : List AV) (hA : A.length ≤ 2097152) (hB : B.length ≤ 2097152) (b0 b1 b2 b4 b5 : AV) (fr : Fr) (h : AH) (hh : h.boxes = [[b0, b1, b2, sl m 1 (l.map AV.str), b4, b5]]) (hl : fr.length = 72) (h1 : look fr 1 = .ptr 0 0)
    (h45 : Two A B (look fr 4) (look fr 5) h) (h8 : look fr 8 = .int .i64 0) :
    Ends (lp (evalCode (lim Q) (ctxF n_ref23_Names) x_ref23_Names_0) (fr, h)) fun e fr' h' => Kp x_ref23_Names_0.wr fr fr' ∧ e = .exit 4 ∧ h'.boxes = h.boxes ∧ Two (A ++ l.map AV.str) (B ++ (l.map fun _ => (5 : Int)).map (AV.int .i64)) (look fr' 4) (look fr' 5) h' := by
  refine Ends_lpw rfl fr (fun n fr h' => ∃ i, i + n = l.length ∧ look fr 8 = .int .i64 (i : Nat) ∧ h'.boxes = h.boxes ∧ Two (A ++ (l.take i).map AV.str) (B ++ ((l.take i).map fun _ => (5 : Int)).map (AV.int .i64)) (look fr 4) (look fr 5) h') ?_ l.length h ⟨0, by omega, h8, rfl, by rw [List.take_zero, List.map_nil, List.map_nil, List.map_nil, List.append_nil, List.append_nil]; exact h45⟩
  rintro J Φ hJ hΦ n fr1 ⟨bx, fams⟩ K ⟨i, hi, k8, hb, hg⟩
  rw [hh] at hb
  simp only at hb
  subst hb
  have hl1 : fr1.length = 72 := K.1.trans hl
  have k1 := (K.2 1 (by decide)).trans h1
  by_cases hlt : i < l.length
  · have hx := nth_map (f := AV.str) (List.getElem?_eq_getElem hlt)
    have hw : IntKind.i64.wrap ((i : Int) + 1) = (i : Int) + 1 := wrap_id (by omega) (by omega)
    obtain ⟨v', h1', w', h2', ha1, ha2, hg', hb1, hb2⟩ := Two_one (c := ctxF n_ref23_Names) (x := .str l[i]) (y := .int .i64 5) hg rfl (true, true) (true, true) 16 8 (by omega) (by omega) (by simp; omega) (by simp; omega)
    have hg2 : Two (A ++ (l.take (i + 1)).map AV.str) (B ++ ((l.take (i + 1)).map fun _ => (5 : Int)).map (AV.int .i64)) v' w' h2' := by
      rw [List.take_succ_eq_append_getElem hlt, List.map_append, List.map_append, List.map_append, ← List.append_assoc, ← List.append_assoc]
      exact hg'
    have tw : ∀ F : Fr, look F 4 = v' → look F 5 = w' → Two (A ++ (l.take (i + 1)).map AV.str) (B ++ ((l.take (i + 1)).map fun _ => (5 : Int)).map (AV.int .i64)) (look F 4) (look F 5) h2' := fun F e4 e5 => by rw [e4, e5]; exact hg2
    generalize l[i] = a at *
    simp [x_ref23_Names_0, hl1, k1, k8, hlt, hx, hw, sliceParts, ha1, ha2]
    exact ⟨n - 1, by omega, hJ _ _ _ ⟨i + 1, by omega, by simp [hl1], by rw [hb2, hh], tw _ (by simp [hl1]) (by simp [hl1])⟩⟩
  · have e : l.take i = l := List.take_of_length_le (by omega)
    rw [e] at hg
    have tw : ∀ F : Fr, look F 4 = look fr1 4 → look F 5 = look fr1 5 → Two (A ++ l.map AV.str) (B ++ (l.map fun _ => (5 : Int)).map (AV.int .i64)) (look F 4) (look F 5) _ := fun F e4 e5 => by rw [e4, e5]; exact hg
    simp [x_ref23_Names_0, hl1, k1, k8, hlt]
    exact hΦ _ _ _ ⟨rfl, by rw [hh], tw _ (by simp) (by simp)⟩

/-- How long the lists are. -/
structure Short (n : Nar) : Prop where
  roles : n.roles.length ≤ 1048576
  fresh : n.fresh.length ≤ 1048576
  tags : n.tags.length ≤ 1048576

theorem pc_Names (n : Nar) (S : Short n) : ∃ r, pc Q n_ref23_Names [narV n] = some r ∧ ∃ m m' : Bool × Bool, r = .tup [strsV m (namesN n), sl m' 1 ((sortsN n).map (AV.int .i64))] := by
  have s1 := S.roles
  have s2 := S.fresh
  have s3 := S.tags
  clear S
  refine pc_ends_ex (C := Q) ((Q_spec _).trans rfl) ((Q_code _).trans res_ref23_Names) (by simp [x_ref23_Names]) fun Ψ hΨ fr hl ha => ?_
  rw [Q_ctx]
  have h0 := ha 0
  clear ha
  have en : (namesN n).map AV.str = n.roles.map AV.str ++ (n.fresh.map Fre.name).map AV.str ++ n.tags.map AV.str := by simp only [namesN, List.map_append]
  have es : (sortsN n).map (AV.int .i64) = (n.roles.map fun _ => (1 : Int)).map (AV.int .i64) ++ (n.fresh.map Fre.sort).map (AV.int .i64) ++ (n.tags.map fun _ => (5 : Int)).map (AV.int .i64) := by simp only [sortsN, List.map_append]
  simp only [strsV, en, es] at hΨ
  clear en es
  obtain ⟨name, rm, roles, fm, fresh, tm, tags, sm, steps, gm, goals⟩ := n
  simp only at *
  simp [x_ref23_Names, narV] at hl h0
  simp [x_ref23_Names, h0]
  refine Ends.mono (loop_Names2 rm roles (by omega) _ _ _ _ _ _ _ rfl ?_ ?_ ?_ ?_ ?_) ?_ <;> first | (simp [hl]; done) | skip
  rintro e fr1 ⟨bx, fams⟩ ⟨K, rfl, hb, hg⟩
  simp only at hb
  subst hb
  have hl1 : fr1.length = 72 := K.1.trans (by simp [hl])
  have k1 : look fr1 1 = .ptr 0 0 := (K.2 1 (by decide)).trans (by simp [hl])
  clear K
  have tw : ∀ F : Fr, look F 4 = look fr1 4 → look F 5 = look fr1 5 → Two (roles.map AV.str) ((roles.map fun _ => (1 : Int)).map (AV.int .i64)) (look F 4) (look F 5) _ := fun F e4 e5 => by rw [e4, e5]; exact hg
  clear hg
  simp
  refine Ends.mono (loop_Names1 fm fresh (by omega) (roles.map AV.str) ((roles.map fun _ => (1 : Int)).map (AV.int .i64)) (by simp; omega) (by simp; omega) _ _ _ _ _ _ _ rfl ?_ ?_ (tw _ ?_ ?_) ?_) ?_ <;> first | (simp [hl1, k1]; done) | skip
  rintro e fr2 ⟨bx, fams2⟩ ⟨K, rfl, hb, hg⟩
  simp only at hb
  subst hb
  have hl2 : fr2.length = 72 := K.1.trans (by simp [hl1])
  have k1' : look fr2 1 = .ptr 0 0 := (K.2 1 (by decide)).trans (by simp [k1])
  clear K tw
  have tw : ∀ F : Fr, look F 4 = look fr2 4 → look F 5 = look fr2 5 → Two (roles.map AV.str ++ (fresh.map Fre.name).map AV.str) ((roles.map fun _ => (1 : Int)).map (AV.int .i64) ++ (fresh.map Fre.sort).map (AV.int .i64)) (look F 4) (look F 5) _ := fun F e4 e5 => by rw [e4, e5]; exact hg
  clear hg
  simp
  refine Ends.mono (loop_Names0 tm tags (by omega) (roles.map AV.str ++ (fresh.map Fre.name).map AV.str) ((roles.map fun _ => (1 : Int)).map (AV.int .i64) ++ (fresh.map Fre.sort).map (AV.int .i64)) (by simp; omega) (by simp; omega) _ _ _ _ _ _ _ rfl ?_ ?_ (tw _ ?_ ?_) ?_) ?_ <;> first | (simp [hl2, k1']; done) | skip
  rintro e fr3 h3 ⟨K, rfl, hb, hg⟩
  have hl3 : fr3.length = 72 := K.1.trans (by simp [hl2])
  obtain ⟨m, m', e1, e2⟩ := Two_frz hg
  generalize hA : roles.map AV.str ++ (fresh.map Fre.name).map AV.str ++ tags.map AV.str = A at *
  generalize hB : (roles.map fun _ => (1 : Int)).map (AV.int .i64) ++ (fresh.map Fre.sort).map (AV.int .i64) ++ (tags.map fun _ => (5 : Int)).map (AV.int .i64) = B at *
  simp [hl3, e1, e2]
  exact hΨ _ ⟨m, m', rfl⟩

/-- The table of a narration. -/
def tabV (m : Bool × Bool) (n : Nar) : AV := .agg [sl m 1 (n.roles.map .str), .vm ((namesN n).map .str) ((sortsN n).map (.int .i64))]

theorem mup_new (h : AH) (b : Nat) (ks : List ByteArray) (vs : List AV) (k : ByteArray) (x : Int) (hb : h.boxes[b]? = some [.mbox (ks.map .str) vs]) (hk : ks.any (eqS k) = false) :
    mupA true h (.mp b) (.str k) (.int .i64 x) = some (undefA, { h with boxes := h.boxes.set b [.mbox ((ks ++ [k]).map .str) (vs ++ [.int .i64 x])] }) := by
  simp only [mupA, hb, frz_int, keyOk, findK_none k ks 0 hk]
  simp
end Go.Abs.Q

/- Branches on what is not known: both ways; terms and parts of narrations as they lie in cells. -/
namespace Go.Abs
section
variable {O : Orc} {c : Ctx} {d : Option Nat} {op : ROp} {ros : List RO} {fr : Fr} {h : AH} {Ψ : Ex → Fr → AH → Prop}
theorem Ends_brn (b : Bool) {x y : RCode} : Ends (brn (.bool b) O c x y fr h) Ψ = ((b = true → Ends (evalCode O c x (fr, h)) Ψ) ∧ (b = false → Ends (evalCode O c y (fr, h)) Ψ)) := by
  cases b <;> simp
theorem Ends_grdt (b : Bool) : Ends (krg (grd (.bool b) true O c d op ros fr h)) Ψ = ((b = true → Ends (krg (nxt (evalOp O c op fr h) O c d ros fr)) Ψ) ∧ (b = false → Ends (krg (evalOps O c ros (put fr d undefA) h)) Ψ)) := by
  cases b <;> simp
theorem Ends_grdf (b : Bool) : Ends (krg (grd (.bool b) false O c d op ros fr h)) Ψ = ((b = true → Ends (krg (evalOps O c ros (put fr d undefA) h)) Ψ) ∧ (b = false → Ends (krg (nxt (evalOp O c op fr h) O c d ros fr)) Ψ)) := by
  cases b <;> simp
end

def Tm.kind : Tm → Int | .mk k _ _ _ _ => k
def Tm.name : Tm → ByteArray | .mk _ n _ _ _ => n
def Tm.sort : Tm → Int | .mk _ _ s _ _ => s
def Tm.cm : Tm → Bool × Bool | .mk _ _ _ m _ => m
def Tm.kids : Tm → List Tm | .mk _ _ _ _ l => l
@[simp] theorem tm_cells (t : Tm) : (tmV t).cells = [.int .i64 t.kind, .str t.name, .int .i64 t.sort, sl t.cm 4 (tmVs t.kids)] := by cases t; rfl
@[simp] theorem tm_agg (t : Tm) : AV.agg [.int .i64 t.kind, .str t.name, .int .i64 t.sort, sl t.cm 4 (tmVs t.kids)] = tmV t := by cases t; rfl
@[simp] theorem tm_isTup (t : Tm) : (tmV t).isTup = false := by cases t; rfl
@[simp] theorem tm_frz (h : AH) (am : Bool) (t : Tm) : frz h am (tmV t) = some (tmV t) := by cases t; rfl
@[simp] theorem tm_tame (h : AH) (t : Tm) : tame h (tmV t) = true := by cases t; rfl
@[simp] theorem tm_frzRes (h : AH) (t : Tm) : frzRes h (tmV t) = some (tmV t) := by cases t; rfl
theorem Tm.kids_size (t : Tm) : t.size = 1 + Tm.sizes t.kids := by cases t; rfl
theorem tm_mk (k : Int) (n : ByteArray) (s : Int) (m : Bool × Bool) (l : List Tm) : AV.agg [.int .i64 k, .str n, .int .i64 s, sl m 4 (tmVs l)] = tmV (.mk k n s m l) := rfl
@[simp] theorem lenA_vs (h : AH) (f : Bool) (sz : Nat) (xs : List AV) : lenA h (.vs f sz xs) = some (.int .i64 xs.length, h) := rfl
@[simp] theorem boundA_n (fr : Fr) : boundA fr none = some none := rfl
@[simp] theorem boundA_c (fr : Fr) (k : IntKind) (i : Int) : boundA fr (some (.c (.int k i))) = some (some i) := rfl
@[simp] theorem boundA_t (fr : Fr) (n : Nat) : boundA fr (some (.t n)) = (match look fr n with | .int _ i => some (some i) | _ => none) := rfl
namespace Q
@[simp] theorem go_cells (g : Gol) : (goV g).cells = [.int .i64 g.kind, .str g.role, .str g.wth, sl g.dm 4 (tmVs g.data), .int .i64 g.line] := rfl
@[simp] theorem go_agg (g : Gol) : AV.agg [.int .i64 g.kind, .str g.role, .str g.wth, sl g.dm 4 (tmVs g.data), .int .i64 g.line] = goV g := rfl
@[simp] theorem go_isTup (g : Gol) : (goV g).isTup = false := rfl
@[simp] theorem go_frz (h : AH) (am : Bool) (g : Gol) : frz h am (goV g) = some (goV g) := rfl
@[simp] theorem go_tame (h : AH) (g : Gol) : tame h (goV g) = true := rfl
@[simp] theorem st_cells (s : Ste) : (stV s).cells = [.str s.frm, .str s.to, .int .i64 s.msg.kind, .str s.msg.name, .int .i64 s.msg.sort, sl s.msg.cm 4 (tmVs s.msg.kids), .int .i64 s.line] := by simp [stV]
@[simp] theorem st_agg (s : Ste) : AV.agg [.str s.frm, .str s.to, .int .i64 s.msg.kind, .str s.msg.name, .int .i64 s.msg.sort, sl s.msg.cm 4 (tmVs s.msg.kids), .int .i64 s.line] = stV s := by simp [stV]
@[simp] theorem st_isTup (s : Ste) : (stV s).isTup = false := rfl
@[simp] theorem st_frz (h : AH) (am : Bool) (s : Ste) : frz h am (stV s) = some (stV s) := by obtain ⟨_, _, t, _⟩ := s; cases t; rfl
@[simp] theorem st_tame (h : AH) (s : Ste) : tame h (stV s) = true := by obtain ⟨_, _, t, _⟩ := s; cases t; rfl
@[simp] theorem fr_cells (f : Fre) : (frV f).cells = [.str f.role, .str f.name, .int .i64 f.sort] := rfl
@[simp] theorem fr_agg (f : Fre) : AV.agg [.str f.role, .str f.name, .int .i64 f.sort] = frV f := rfl
@[simp] theorem fr_isTup (f : Fre) : (frV f).isTup = false := rfl
@[simp] theorem fr_frz (h : AH) (am : Bool) (f : Fre) : frz h am (frV f) = some (frV f) := rfl
@[simp] theorem fr_tame (h : AH) (f : Fre) : tame h (frV f) = true := rfl
theorem na_cells (n : Nar) : (narV n).cells = [.str n.name, sl n.rm 1 (n.roles.map .str), sl n.fm 3 (n.fresh.map frV), sl n.tm 1 (n.tags.map .str), sl n.sm 7 (n.steps.map stV), sl n.gm 5 (n.goals.map goV)] := rfl
@[simp] theorem na_agg (n : Nar) : AV.agg [.str n.name, sl n.rm 1 (n.roles.map .str), sl n.fm 3 (n.fresh.map frV), sl n.tm 1 (n.tags.map .str), sl n.sm 7 (n.steps.map stV), sl n.gm 5 (n.goals.map goV)] = narV n := rfl
@[simp] theorem na_isTup (n : Nar) : (narV n).isTup = false := rfl
@[simp] theorem na_frz (h : AH) (am : Bool) (n : Nar) : frz h am (narV n) = some (narV n) := rfl
@[simp] theorem na_tame (h : AH) (n : Nar) : tame h (narV n) = true := rfl
end Q
end Go.Abs

/- Narrations in their scope: what is specified of names and terms. -/
namespace Go.Abs.Q
open Go.Proofs

/-- Is a term an application of a symbol with a number of kids? -/
def appT (t : Tm) (nm : ByteArray) (n : Int) : Bool := decide (t.kind = 3) && decide (t.name = nm) && decide ((t.kids.length : Int) = n)
def roleT (rs : List ByteArray) (t : Tm) : Bool := decide (t.kind = 2) && rs.any (eqS t.name)
def fstB (f : Tm → Bool) : List Tm → Bool
  | a :: _ => f a
  | _ => false
def sndB (f : Tm → Bool) : List Tm → Bool
  | _ :: b :: _ => f b
  | _ => false
def privT (rs : List ByteArray) (t : Tm) : Bool := appT t (bs [115, 107]) 1 && fstB (roleT rs) t.kids
def pubT (rs : List ByteArray) (t : Tm) : Bool := appT t (bs [112, 107]) 1 && fstB (privT rs) t.kids
def difB : List Tm → Bool
  | a :: b :: _ => decide (a.name ≠ b.name)
  | _ => false
def shkT (rs : List ByteArray) (t : Tm) : Bool := appT t (bs [115, 104, 107]) 2 && fstB (roleT rs) t.kids && sndB (roleT rs) t.kids && difB t.kids
/-- How many kids of an application are looked at; -1: it has none of the forms. -/
def kidsT (rs : List ByteArray) (t : Tm) : Int :=
  if appT t (bs [112, 97, 105, 114]) 2 = true ∨ appT t (bs [101, 110, 99]) 2 = true then 2
  else if appT t (bs [104, 97, 115, 104]) 1 = true then 1
  else if (appT t (bs [97, 101, 110, 99]) 2 = true ∧ sndB (pubT rs) t.kids = true) ∨ (appT t (bs [115, 105, 103, 110]) 2 = true ∧ sndB (privT rs) t.kids = true) then 1
  else if pubT rs t = true ∨ shkT rs t = true then 0 else -1
mutual
/-- The error of a term: names that are known, roles. -/
def scoT (ns rs : List ByteArray) : Tm → Int
  | .mk k nm s m l => if k ≠ 3 then (if ns.any (eqS nm) = true then 0 else 13) else if kidsT rs (.mk k nm s m l) < 0 then 10 else scoTs ns rs (kidsT rs (.mk k nm s m l)).toNat l
def scoTs (ns rs : List ByteArray) : Nat → List Tm → Int
  | 0, _ => 0
  | _, [] => 0
  | n + 1, t :: l => if scoT ns rs t ≠ 0 then scoT ns rs t else scoTs ns rs n l
end
theorem scoTs_first (ns rs : List ByteArray) : ∀ (l : List Tm) (n : Nat), scoTs ns rs n l = firstE (scoT ns rs) (l.take n)
  | [], 0 => by simp [scoTs, firstE]
  | [], n + 1 => by simp [scoTs, firstE]
  | t :: l, 0 => by simp [scoTs, firstE]
  | t :: l, n + 1 => by simp [scoTs, firstE, scoTs_first ns rs l n]
theorem scoT_eq (ns rs : List ByteArray) (t : Tm) : scoT ns rs t = if t.kind ≠ 3 then (if ns.any (eqS t.name) = true then 0 else 13) else if kidsT rs t < 0 then 10 else firstE (scoT ns rs) (t.kids.take (kidsT rs t).toNat) := by
  rw [← scoTs_first]
  cases t
  rw [scoT]
  rfl
def twoE (rs : List ByteArray) (a b : ByteArray) : Int := if rs.any (eqS a) = true ∧ rs.any (eqS b) = true then (if a = b then 1 else 0) else 13
def scoG (ns rs : List ByteArray) (g : Gol) : Int :=
  if rs.any (eqS g.role) = false then 13 else if agrB g = true ∧ twoE rs g.role g.wth ≠ 0 then twoE rs g.role g.wth else firstE (scoT ns rs) g.data
def scoS (ns rs : List ByteArray) (s : Ste) : Int := if twoE rs s.frm s.to ≠ 0 then twoE rs s.frm s.to else scoT ns rs s.msg
/-- The first error, with its line. -/
def lineE {α : Type} (g : α → Int) (ln : α → Int) : List α → Int × Int
  | [] => (0, 0)
  | a :: l => if g a ≠ 0 then (ln a, g a) else lineE g ln l
/-- The error of the names. -/
def nxtE (seen : List ByteArray) (a : ByteArray) (f : Bool) : Int := if hashB a = true then 2 else if f = true ∧ (a = bs [101] ∨ a = bs [103]) then 1 else if seen.any (eqS a) = true then 5 else 0
def knB (rs : List ByteArray) : Option ByteArray → Bool
  | some x => rs.any (eqS x)
  | none => true
def decL (rs : List ByteArray) : List ByteArray → List (ByteArray × Option ByteArray) → Int
  | _, [] => 0
  | seen, (a, f) :: r => if nxtE seen a f.isSome ≠ 0 then nxtE seen a f.isSome else if knB rs f = false then 13 else decL rs (seen ++ [a]) r
theorem decL_app (rs : List ByteArray) : ∀ (a b : List (ByteArray × Option ByteArray)) (seen : List ByteArray), decL rs seen (a ++ b) = if decL rs seen a ≠ 0 then decL rs seen a else decL rs (seen ++ a.map (·.1)) b
  | [], b, seen => by simp [decL]
  | (x, f) :: a, b, seen => by
    have ih := decL_app rs a b (seen ++ [x])
    by_cases h1 : nxtE seen x f.isSome = 0
    · by_cases h2 : knB rs f = false
      · simp [decL, h1, h2]
      · rw [Bool.not_eq_false] at h2
        simp [decL, h1, h2, ih]
    · simp [decL, h1]
def entN (n : Nar) : List (ByteArray × Option ByteArray) := n.roles.map (fun a => (a, none)) ++ n.fresh.map (fun f => (f.name, some f.role)) ++ n.tags.map (fun a => (a, none))
def decE (n : Nar) : Int := decL n.roles [] (entN n)
def scoE (n : Nar) : Int × Int :=
  if narE n ≠ 0 then (0, narE n) else if decE n ≠ 0 then (0, decE n)
  else if lineE (scoS (namesN n) n.roles) Ste.line n.steps ≠ (0, 0) then lineE (scoS (namesN n) n.roles) Ste.line n.steps else lineE (scoG (namesN n) n.roles) Gol.line n.goals
end Go.Abs.Q

/- Contracts: terms in their scope (program). -/
namespace Go.Abs.Q
open Go.Proofs
attribute [local simp] look_set_ne look_set_eq fin tupled code_loop Ends_brn Ends_grdt Ends_grdf toL_iff toL_dec raw_scope_is raw_scope_table_role raw_scope_table_private raw_scope_table_public raw_scope_table_two raw_scope_table_term raw_slices_Contains_string

theorem appT_one {t : Tm} {nm : ByteArray} (h : appT t nm 1 = true) : ∃ a, t.kids = [a] := by
  simp only [appT, Bool.and_eq_true, decide_eq_true_eq] at h
  exact List.length_eq_one_iff.1 (by omega)
theorem appT_two {t : Tm} {nm : ByteArray} (h : appT t nm 2 = true) : ∃ a b, t.kids = [a, b] := by
  simp only [appT, Bool.and_eq_true, decide_eq_true_eq] at h
  match t.kids, h with
  | [a, b], _ => exact ⟨a, b, rfl⟩
  | [], h => simp at h
  | [_], h => simp at h
  | _ :: _ :: _ :: _, h => simp at h; omega
theorem pc_is (t : Tm) (nm : ByteArray) (n : Int) : pc Q n_scope_is [tmV t, .str nm, .int .i64 n] = some (.bool (appT t nm n)) := by
  refine pcQ res_scope_is rfl (by simp [x_scope_is]) fun fr hl ha => ?_
  have h0 := ha 0
  have h1 := ha 1
  have h2 := ha 2
  clear ha
  simp [x_scope_is] at hl h0 h1 h2
  simp +contextual (maxSteps := 10000000) [x_scope_is, hl, h0, h1, h2, appT]

theorem pc_Contains' (m : Bool × Bool) (l : List ByteArray) (x : ByteArray) (h : l.length ≤ 1048576) : pc Q n_slices_Contains_string [sl m 1 (l.map AV.str), .str x] = some (.bool (l.any (eqS x))) := pc_ContainsStr m l x (by omega)

theorem pc_role (m : Bool × Bool) (rs : List ByteArray) (ks vs : List AV) (hr : rs.length ≤ 1048576) (t : Tm) : pc Q n_scope_table_role [.agg [sl m 1 (rs.map .str), .vm ks vs], tmV t] = some (.bool (roleT rs t)) := by
  have hC := pc_Contains' m rs t.name hr
  refine pcQ res_scope_table_role rfl (by simp [x_scope_table_role]) fun fr hl ha => ?_
  have h0 := ha 0
  have h1 := ha 1
  clear ha
  simp [x_scope_table_role] at hl h0 h1
  simp +contextual (maxSteps := 10000000) [x_scope_table_role, hl, h0, h1, roleT, hC]

theorem pc_private (m : Bool × Bool) (rs : List ByteArray) (ks vs : List AV) (hr : rs.length ≤ 1048576) (t : Tm) : pc Q n_scope_table_private [.agg [sl m 1 (rs.map .str), .vm ks vs], tmV t] = some (.bool (privT rs t)) := by
  have hI := pc_is t (bs [115, 107]) 1
  refine pcQ res_scope_table_private rfl (by simp [x_scope_table_private]) fun fr hl ha => ?_
  have h0 := ha 0
  have h1 := ha 1
  clear ha
  simp [x_scope_table_private] at hl h0 h1
  cases ha : appT t (bs [115, 107]) 1 with
  | false =>
    rw [ha] at hI
    simp [x_scope_table_private, hl, h0, h1, privT, hI, ha]
  | true =>
    rw [ha] at hI
    obtain ⟨a, hk⟩ := appT_one ha
    have hx : nth (tmVs t.kids) 0 = some (tmV a) := by rw [hk]; rfl
    have hf : fstB (roleT rs) t.kids = roleT rs a := by rw [hk]; rfl
    have hR := pc_role m rs ks vs hr a
    simp [x_scope_table_private, hl, h0, h1, privT, hI, ha, hR, hx, hf]

theorem pc_public (m : Bool × Bool) (rs : List ByteArray) (ks vs : List AV) (hr : rs.length ≤ 1048576) (t : Tm) : pc Q n_scope_table_public [.agg [sl m 1 (rs.map .str), .vm ks vs], tmV t] = some (.bool (pubT rs t)) := by
  have hI := pc_is t (bs [112, 107]) 1
  refine pcQ res_scope_table_public rfl (by simp [x_scope_table_public]) fun fr hl ha => ?_
  have h0 := ha 0
  have h1 := ha 1
  clear ha
  simp [x_scope_table_public] at hl h0 h1
  cases ha : appT t (bs [112, 107]) 1 with
  | false =>
    rw [ha] at hI
    simp [x_scope_table_public, hl, h0, h1, pubT, hI, ha]
  | true =>
    rw [ha] at hI
    obtain ⟨a, hk⟩ := appT_one ha
    have hx : nth (tmVs t.kids) 0 = some (tmV a) := by rw [hk]; rfl
    have hf : fstB (privT rs) t.kids = privT rs a := by rw [hk]; rfl
    have hR := pc_private m rs ks vs hr a
    simp [x_scope_table_public, hl, h0, h1, pubT, hI, ha, hR, hx, hf]

theorem pc_two (m : Bool × Bool) (rs : List ByteArray) (ks vs : List AV) (hr : rs.length ≤ 1048576) (a b : ByteArray) : pc Q n_scope_table_two [.agg [sl m 1 (rs.map .str), .vm ks vs], .str a, .str b] = some (.int .i64 (twoE rs a b)) := by
  have c1 := pc_Contains' m rs a hr
  have c2 := pc_Contains' m rs b hr
  refine pcQ res_scope_table_two rfl (by simp [x_scope_table_two]) fun fr hl ha => ?_
  have h0 := ha 0
  have h1 := ha 1
  have h2 := ha 2
  clear ha
  simp [x_scope_table_two] at hl h0 h1 h2
  have e : twoE rs a b = if rs.any (eqS a) = true ∧ rs.any (eqS b) = true then (if a = b then 1 else 0) else 13 := rfl
  generalize twoE rs a b = v at *
  generalize rs.any (eqS a) = x at *
  generalize rs.any (eqS b) = y at *
  cases x <;> cases y <;> simp +contextual [x_scope_table_two, hl, h0, h1, h2, c1, c2, e]

theorem idxFrom_lt {α : Type} (p : α → Bool) : ∀ (l : List α) (i : Nat), idxFrom p i l < (i : Int) + l.length
  | [], i => by simp [idxFrom]; omega
  | a :: l, i => by
    have := idxFrom_lt p l (i + 1)
    simp only [idxFrom, List.length_cons]
    split <;> omega

theorem vm_look (ks : List ByteArray) (vs : List Int) (hkv : ks.length = vs.length) (h : AH) (a : ByteArray) :
    ∃ v, mlookA true true (.int .i64 0) h (.vm (ks.map .str) (vs.map (.int .i64))) (.str a) = some (.tup [.int .i64 v, .bool (ks.any (eqS a))], h) := by
  cases hk : ks.any (eqS a) with
  | false => exact ⟨0, by simp [mlookA, keyOk, mapEnts, findK_none a ks 0 hk]⟩
  | true =>
    have hge := (idxFrom_ge (eqS a) ks 0).2 hk
    have hlt := idxFrom_lt (eqS a) ks 0
    have hi : (idxFrom (eqS a) 0 ks).toNat < vs.length := by omega
    refine ⟨vs[(idxFrom (eqS a) 0 ks).toNat], ?_⟩
    simp [mlookA, keyOk, mapEnts, findK_some a ks 0 hk, hi]

theorem loop_term (m : Bool × Bool) (rs ns : List ByteArray) (vs : List Int) (m' : Bool × Bool) (l : List Tm) (hlen : l.length ≤ 1099511627776) (IH : ∀ t ∈ l, pc Q n_scope_table_term [.agg [sl m 1 (rs.map .str), .vm (ns.map .str) (vs.map (.int .i64))], tmV t] = some (.int .i64 (scoT ns rs t))) (b1 : List AV) (fr : Fr) (h : AH) (hh : h.boxes = [[sl m 1 (rs.map .str), .vm (ns.map .str) (vs.map (.int .i64))], b1]) (hl : fr.length = 98) (h2 : look fr 2 = .ptr 0 0) (h85 : look fr 85 = sl m' 4 (tmVs l)) (h86 : look fr 86 = .int .i64 l.length) (h87 : look fr 87 = .int .i64 0) :
    Ends (lp (evalCode (lim Q) (ctxF n_scope_table_term) x_scope_table_term_0) (fr, h)) fun e fr' h' => Kp x_scope_table_term_0.wr fr fr' ∧ (e = .exit 1 ∧ firstE (scoT ns rs) l = 0 ∨ e = .ret ∧ look fr' 4 = .int .i64 (firstE (scoT ns rs) l)) := by
  refine Ends_lpw rfl fr (fun n fr h' => ∃ (i : Nat), i + n = l.length ∧ look fr 87 = .int .i64 (i : Nat) ∧ (∃ B, h'.boxes = [sl m 1 (rs.map .str), .vm (ns.map .str) (vs.map (.int .i64))] :: B) ∧ firstE (scoT ns rs) (l.drop i) = firstE (scoT ns rs) l) ?_ l.length h ⟨0, by omega, h87, ⟨_, hh⟩, rfl⟩
  rintro J Φ hJ hΦ n fr1 H1 K ⟨i, hi, k87, hr⟩
  have hl1 : fr1.length = 98 := K.1.trans hl
  have k2 := (K.2 2 (by decide)).trans h2
  have k85 := (K.2 85 (by decide)).trans h85
  have k86 := (K.2 86 (by decide)).trans h86
  clear K
  by_cases hlt : i < l.length
  · have hwp : IntKind.i64.wrap ((i : Int) + 1) = (i : Int) + 1 := wrap_id (by omega) (by omega)
    obtain ⟨⟨B, hB⟩, hr⟩ := hr
    obtain ⟨bx, fams⟩ := H1
    simp only at hB
    subst hB
    have hx := nth_tm hlt
    have hI := IH l[i] (List.getElem_mem hlt)
    rw [List.drop_eq_getElem_cons hlt] at hr
    simp only [firstE] at hr
    generalize l[i] = t at *
    generalize scoT ns rs t = v at *
    by_cases hz : v = 0
    · rw [if_neg (by simp [hz])] at hr
      simp [x_scope_table_term_0, hl1, k2, k85, k86, k87, hlt, hwp, hx, hI, hz]
      exact ⟨n - 1, by omega, hJ _ _ _ ⟨i + 1, by omega, by simp [hl1], ⟨_, rfl⟩, hr⟩⟩
    · rw [if_pos hz] at hr
      simp [x_scope_table_term_0, hl1, k2, k85, k86, k87, hlt, hx, hI, hz]
      exact hΦ _ _ _ (.inr ⟨rfl, by simp [hl1, hr]⟩)
  · obtain ⟨_, hr⟩ := hr
    rw [List.drop_eq_nil_of_le (by omega)] at hr
    simp [x_scope_table_term_0, hl1, k86, k87, hlt]
    exact hΦ _ _ _ (.inl ⟨rfl, hr.symm⟩)
end Go.Abs.Q

/- Contracts: the error of a term in its scope (program). -/
namespace Go.Abs.Q
open Go.Proofs
attribute [local simp] look_set_ne look_set_eq fin tupled code_loop Ends_brn Ends_grdt Ends_grdf toL_iff toL_dec raw_scope_is raw_scope_table_role raw_scope_table_private raw_scope_table_public raw_scope_table_two raw_scope_table_term raw_slices_Contains_string

theorem appT_len {t : Tm} {nm : ByteArray} {n : Int} (h : (t.kids.length : Int) ≠ n) : appT t nm n = false := by simp [appT, h]

theorem kids_two {l : List Tm} (h : l.length = 2) : ∃ a b, l = [a, b] := by
  match l, h with
  | [a, b], _ => exact ⟨a, b, rfl⟩

theorem pc_term (m : Bool × Bool) (rs ns : List ByteArray) (vs : List Int) (hr : rs.length ≤ 1048576) (hkv : ns.length = vs.length) : ∀ (n : Nat) (t : Tm), t.size ≤ n → t.size ≤ 1099511627776 →
    pc Q n_scope_table_term [.agg [sl m 1 (rs.map .str), .vm (ns.map .str) (vs.map (.int .i64))], tmV t] = some (.int .i64 (scoT ns rs t)) := by
  intro n
  induction n with
  | zero => intro t h; have := t.size_pos; omega
  | succ n ih =>
    intro t hn hb
    have hsz := t.kids_size
    have hlen := Tm.length_le t.kids
    have hkids : ∀ l : List Tm, (∀ a ∈ l, a ∈ t.kids) → ∀ a ∈ l, pc Q n_scope_table_term [.agg [sl m 1 (rs.map .str), .vm (ns.map .str) (vs.map (.int .i64))], tmV a] = some (.int .i64 (scoT ns rs a)) :=
      fun l hs a ha => ih a (by have := Tm.size_le (hs a ha); omega) (by have := Tm.size_le (hs a ha); omega)
    have hlp := fun (m' : Bool × Bool) (l : List Tm) (hs : ∀ a ∈ l, a ∈ t.kids) (hl : l.length ≤ 1099511627776) => loop_term m rs ns vs m' l hl (hkids l hs)
    clear ih hkids
    have hE := scoT_eq ns rs t
    have p1 := pc_is t (bs [112, 97, 105, 114]) 2
    have p2 := pc_is t (bs [101, 110, 99]) 2
    have p3 := pc_is t (bs [104, 97, 115, 104]) 1
    have p4 := pc_is t (bs [97, 101, 110, 99]) 2
    have p5 := pc_is t (bs [115, 105, 103, 110]) 2
    have p6 := pc_public m rs (ns.map .str) (vs.map (.int .i64)) hr t
    have p7 := pc_is t (bs [115, 104, 107]) 2
    generalize scoT ns rs t = v at *
    refine pcQ res_scope_table_term rfl (by simp [x_scope_table_term]) fun fr hl ha => ?_
    have h0 := ha 0
    have h1 := ha 1
    clear ha
    simp [x_scope_table_term] at hl h0 h1
    by_cases hk : t.kind = 3
    · rw [if_neg (by simp [hk])] at hE
      have key : ∀ (m' : Bool × Bool) (l : List Tm) (fr1 : Fr) (h : AH), (∀ a ∈ l, a ∈ t.kids) → l.length ≤ 1099511627776 → v = firstE (scoT ns rs) l → fr1.length = 98 → look fr1 2 = .ptr 0 0 → look fr1 85 = sl m' 4 (tmVs l) → look fr1 86 = .int .i64 l.length → look fr1 87 = .int .i64 0 → (∃ b1, h.boxes = [[sl m 1 (rs.map .str), .vm (ns.map .str) (vs.map (.int .i64))], b1]) →
          Ends (lp (evalCode (lim Q) (ctxF n_scope_table_term) x_scope_table_term_0) (fr1, h)) (BL 1 (SQ (lim Q) (ctxF n_scope_table_term) (.seq (.region false [⟨some 4, .mov (.c (.int .i64 0)), none⟩]) .ret) (FIN [.tmp 4] (.int .i64 v)))) := by
        rintro m' l fr1 h hs hll rfl hl q2 q85 q86 q87 ⟨b1, hb⟩
        refine Ends.mono (hlp m' l hs hll b1 fr1 h hb hl q2 q85 q86 q87) ?_
        rintro e fr2 h2 ⟨K, ⟨rfl, hz⟩ | ⟨rfl, k4⟩⟩
        · have hl2 : fr2.length = 98 := K.1.trans hl
          simp [hl2, hz]
        · simp [k4]
      by_cases h2 : t.kids.length = 2
      · obtain ⟨x, y, hxy⟩ := kids_two h2
        have n0 : nth (tmVs t.kids) 0 = some (tmV x) := by rw [hxy]; rfl
        have n1 : nth (tmVs t.kids) 1 = some (tmV y) := by rw [hxy]; rfl
        have s1 := slc_take ⟨[[sl m 1 (rs.map .str), .vm (ns.map .str) (vs.map (.int .i64))], [.int .i64 t.kind, .str t.name, .int .i64 t.sort, sl t.cm 4 (tmVs t.kids)]], []⟩ t.cm 4 (by omega) (tmVs t.kids) 1 (by simp [h2])
        rw [show ((1 : Nat) : Int) = 1 from rfl] at s1
        have c1 := pc_public m rs (ns.map .str) (vs.map (.int .i64)) hr y
        have c2 := pc_private m rs (ns.map .str) (vs.map (.int .i64)) hr y
        have c3 := pc_role m rs (ns.map .str) (vs.map (.int .i64)) hr x
        have c4 := pc_role m rs (ns.map .str) (vs.map (.int .i64)) hr y
        have f1 : sndB (pubT rs) t.kids = pubT rs y := by rw [hxy]; rfl
        have f2 : sndB (privT rs) t.kids = privT rs y := by rw [hxy]; rfl
        have f3 : fstB (roleT rs) t.kids = roleT rs x := by rw [hxy]; rfl
        have f4 : sndB (roleT rs) t.kids = roleT rs y := by rw [hxy]; rfl
        have f5 : difB t.kids = decide (x.name ≠ y.name) := by rw [hxy]; rfl
        have b3 : appT t (bs [104, 97, 115, 104]) 1 = false := appT_len (by omega)
        have b6 : pubT rs t = false := by simp [pubT, appT_len (show (t.kids.length : Int) ≠ 1 by omega)]
        simp only [kidsT, shkT, b3, b6, f1, f2, f3, f4, f5] at hE p3 p6
        clear f1 f2 f3 f4 f5 b3 b6 hlp
        have ex1 : ∀ {a b : ByteArray}, a ≠ b → appT t a 2 = true → appT t b 2 = false := fun hab ha => by
          simp only [appT, Bool.and_eq_true, decide_eq_true_eq] at ha
          simp [appT, ha.1.2, hab]
        have x45 := ex1 (a := bs [97, 101, 110, 99]) (b := bs [115, 105, 103, 110]) (by decide)
        have x47 := ex1 (a := bs [97, 101, 110, 99]) (b := bs [115, 104, 107]) (by decide)
        have x57 := ex1 (a := bs [115, 105, 103, 110]) (b := bs [115, 104, 107]) (by decide)
        clear ex1
        generalize appT t (bs [112, 97, 105, 114]) 2 = b1 at *
        generalize appT t (bs [101, 110, 99]) 2 = b2 at *
        generalize appT t (bs [97, 101, 110, 99]) 2 = b4 at *
        generalize appT t (bs [115, 105, 103, 110]) 2 = b5 at *
        generalize appT t (bs [115, 104, 107]) 2 = b7 at *
        generalize pubT rs y = e1 at *
        generalize privT rs y = e2 at *
        generalize roleT rs x = e3 at *
        generalize roleT rs y = e4 at *
        have t2 : t.kids.take 2 = t.kids := List.take_of_length_le (by omega)
        cases b1 with
        | true =>
          simp [t2] at hE
          simp [x_scope_table_term, hl, h0, h1, dec_t hk, p1]
          exact key t.cm t.kids _ _ (fun _ h => h) (by omega) hE (by simp [hl]) (by simp [hl]) (by simp [hl]) (by simp [hl]) (by simp [hl]) ⟨_, rfl⟩
        | false =>
          cases b2 with
          | true =>
            simp [t2] at hE
            simp [x_scope_table_term, hl, h0, h1, dec_t hk, p1, p2]
            exact key t.cm t.kids _ _ (fun _ h => h) (by omega) hE (by simp [hl]) (by simp [hl]) (by simp [hl]) (by simp [hl]) (by simp [hl]) ⟨_, rfl⟩
          | false =>
            cases b4 with
            | true =>
              obtain rfl := x45 rfl
              obtain rfl := x47 rfl
              cases e1 with
              | true =>
                simp at hE
                simp [x_scope_table_term, hl, h0, h1, dec_t hk, p1, p2, p3, p4, n1, c1, s1]
                exact key _ _ _ _ (fun q h => List.mem_of_mem_take h) (by rw [List.length_take]; omega) hE (by simp [hl]) (by simp [hl]) (by simp [hl, tmVs_map]; rfl) (by simp [hl]) (by simp [hl]) ⟨_, rfl⟩
              | false =>
                simp at hE
                subst hE
                simp [x_scope_table_term, hl, h0, h1, dec_t hk, p1, p2, p3, p4, p5, p6, p7, n1, c1]
            | false =>
              cases b5 with
              | true =>
                obtain rfl := x57 rfl
                cases e2 with
                | true =>
                  simp at hE
                  simp [x_scope_table_term, hl, h0, h1, dec_t hk, p1, p2, p3, p4, p5, n1, c2, s1]
                  exact key _ _ _ _ (fun q h => List.mem_of_mem_take h) (by rw [List.length_take]; omega) hE (by simp [hl]) (by simp [hl]) (by simp [hl, tmVs_map]; rfl) (by simp [hl]) (by simp [hl]) ⟨_, rfl⟩
                | false =>
                  simp at hE
                  subst hE
                  simp [x_scope_table_term, hl, h0, h1, dec_t hk, p1, p2, p3, p4, p5, p6, p7, n1, c2]
              | false =>
                cases b7 with
                | false =>
                  simp at hE
                  subst hE
                  simp [x_scope_table_term, hl, h0, h1, dec_t hk, p1, p2, p3, p4, p5, p6, p7]
                | true =>
                  cases e3 with
                  | false =>
                    simp at hE
                    subst hE
                    simp [x_scope_table_term, hl, h0, h1, dec_t hk, p1, p2, p3, p4, p5, p6, p7, n0, c3]
                  | true =>
                    cases e4 with
                    | false =>
                      simp at hE
                      subst hE
                      simp [x_scope_table_term, hl, h0, h1, dec_t hk, p1, p2, p3, p4, p5, p6, p7, n0, n1, c3, c4]
                    | true =>
                      by_cases hxn : x.name = y.name
                      · simp [hxn] at hE
                        subst hE
                        simp [x_scope_table_term, hl, h0, h1, dec_t hk, p1, p2, p3, p4, p5, p6, p7, n0, n1, c3, c4, dec_t hxn]
                      · simp [hxn, firstE] at hE
                        subst hE
                        simp [x_scope_table_term, hl, h0, h1, dec_t hk, p1, p2, p3, p4, p5, p6, p7, n0, n1, c3, c4, dec_f hxn]
                        exact key (true, false) [] _ _ (fun q h => nomatch h) (by simp) rfl (by simp [hl]) (by simp [hl]) (by simp [hl]; exact sl_nil 4) (by simp [hl]) (by simp [hl]) ⟨_, rfl⟩
      · have b1 : appT t (bs [112, 97, 105, 114]) 2 = false := appT_len (by omega)
        have b2 : appT t (bs [101, 110, 99]) 2 = false := appT_len (by omega)
        have b4 : appT t (bs [97, 101, 110, 99]) 2 = false := appT_len (by omega)
        have b5 : appT t (bs [115, 105, 103, 110]) 2 = false := appT_len (by omega)
        have b7 : appT t (bs [115, 104, 107]) 2 = false := appT_len (by omega)
        simp only [kidsT, shkT, b1, b2, b4, b5, b7] at hE p1 p2 p4 p5 p7
        clear b1 b2 b4 b5 b7 hlp
        have t1 : appT t (bs [104, 97, 115, 104]) 1 = true → t.kids.take 1 = t.kids := fun h => by
          obtain ⟨a, ha⟩ := appT_one h
          rw [ha]
          rfl
        generalize appT t (bs [104, 97, 115, 104]) 1 = b3 at *
        generalize pubT rs t = b6 at *
        cases b3 with
        | true =>
          simp [t1 rfl] at hE
          simp [x_scope_table_term, hl, h0, h1, dec_t hk, p1, p2, p3]
          exact key t.cm t.kids _ _ (fun _ h => h) (by omega) hE (by simp [hl]) (by simp [hl]) (by simp [hl]) (by simp [hl]) (by simp [hl]) ⟨_, rfl⟩
        | false =>
          cases b6 with
          | true =>
            simp [firstE] at hE
            subst hE
            simp [x_scope_table_term, hl, h0, h1, dec_t hk, p1, p2, p3, p4, p5, p6]
            exact key (true, false) [] _ _ (fun q h => nomatch h) (by simp) rfl (by simp [hl]) (by simp [hl]) (by simp [hl]; exact sl_nil 4) (by simp [hl]) (by simp [hl]) ⟨_, rfl⟩
          | false =>
            simp at hE
            subst hE
            simp [x_scope_table_term, hl, h0, h1, dec_t hk, p1, p2, p3, p4, p5, p6, p7]
    · rw [if_pos hk] at hE
      obtain ⟨z, hz⟩ := vm_look ns vs hkv ⟨[[sl m 1 (rs.map .str), .vm (ns.map .str) (vs.map (.int .i64))], [.int .i64 t.kind, .str t.name, .int .i64 t.sort, sl t.cm 4 (tmVs t.kids)]], []⟩ t.name
      simp +contextual (maxSteps := 10000000) [x_scope_table_term, hl, h0, h1, hk, hz, hE]
end Go.Abs.Q

namespace Go.Abs.Q
open Go.Proofs
attribute [local simp] look_set_ne look_set_eq fin tupled code_loop Ends_brn Ends_grdt Ends_grdf toL_iff toL_dec raw_scope_declared_1 rawv_scope_declared raw_scope_declared raw_slices_Contains_string raw_strings_Contains

theorem decL_none (rs seen : List ByteArray) (a : ByteArray) (r : List (ByteArray × Option ByteArray)) : decL rs seen ((a, none) :: r) = if nxtE seen a false ≠ 0 then nxtE seen a false else decL rs (seen ++ [a]) r := by
  rw [decL]
  simp [knB]
theorem decL_some (rs seen : List ByteArray) (a x : ByteArray) (r : List (ByteArray × Option ByteArray)) : decL rs seen ((a, some x) :: r) = if nxtE seen a true ≠ 0 then nxtE seen a true else if rs.any (eqS x) = false then 13 else decL rs (seen ++ [a]) r := by
  rw [decL]
  rfl
theorem Grw_cells {sz : Nat} {acc : List AV} {v : AV} {h : AH} (hg : Grw sz acc v h) : v.isTup = false ∧ v.cells = [v] ∧ isMB [v] = false := by
  rcases hg with ⟨_, rfl⟩ | ⟨_, k, rfl, _⟩ <;> exact ⟨rfl, rfl, rfl⟩

theorem rc_next (h : AH) (seen : List ByteArray) (v : AV) (hb : h.boxes[1]? = some [v]) (hg : Grw 1 (seen.map .str) v h) (hlen : seen.length ≤ 1048576) (a : ByteArray) (f : Bool) :
    ∃ w h', rc Q n_scope_declared_1 [.str a, .bool f, .ptr 1 0] h = some (w, h') ∧ w = .int .i64 (nxtE seen a f) ∧ (nxtE seen a f = 0 → ∃ v', h'.boxes = h.boxes.set 1 [v'] ∧ Grw 1 ((seen ++ [a]).map .str) v' h') := by
  have hH : pc Q n_strings_Contains [.str a, .str (bs [35])] = some (.bool (hashB a)) := pc_has a 35
  obtain ⟨m, hm⟩ := Grw_frz hg
  have hC := pc_Contains' m seen a hlen
  obtain ⟨v', h', ha, hg', hbx⟩ := Grw_one (c := ctxF n_scope_declared_1) (bytes := 16) (x := .str a) hg rfl (true, true) (by simp; omega) (by simp; omega)
  have hg2 : Grw 1 ((seen ++ [a]).map AV.str) v' h' := by rw [List.map_append]; exact hg'
  have hv := (Grw_cells hg).2.2
  obtain ⟨c1, c2, c3⟩ := Grw_cells hg'
  have hlt : 1 < h.boxes.length := getq_lt hb
  have hE : nxtE seen a f = if hashB a = true then 2 else if f = true ∧ (a = bs [101] ∨ a = bs [103]) then 1 else if seen.any (eqS a) = true then 5 else 0 := rfl
  generalize nxtE seen a f = z at *
  generalize seen.any (eqS a) = s at *
  generalize hashB a = x at *
  refine rcQ res_scope_declared_1 (by simp [x_scope_declared_1]) fun fr hl ha => ?_
  have h0 := ha 0
  have h1 := ha 1
  have h2 := ha 2
  clear ha
  simp [x_scope_declared_1] at hl h0 h1 h2
  cases x with
  | true =>
    simp at hE
    simp [x_scope_declared_1, hl, h0, hH, hE]
  | false =>
    cases f with
    | true =>
      by_cases he : a = bs [101]
      · subst he
        simp at hE
        simp [x_scope_declared_1, hl, h0, h1, hH, hE]
      · by_cases hg : a = bs [103]
        · subst hg
          simp at hE
          simp [x_scope_declared_1, hl, h0, h1, hH, hE, dec_f he]
        · simp [he, hg] at hE
          cases s with
          | true =>
            simp at hE
            simp [x_scope_declared_1, hl, h0, h1, h2, hH, hE, dec_f he, dec_f hg, hb, hv, hm, hC]
          | false =>
            simp at hE
            subst hE
            simp [x_scope_declared_1, hl, h0, h1, h2, hH, dec_f he, dec_f hg, hb, hv, hm, hC, sliceParts, ha, hbx, c1, c2]
            exact ⟨v', rfl, Grw_fams hg' rfl⟩
    | false =>
      cases s with
      | true =>
        simp at hE
        simp [x_scope_declared_1, hl, h0, h1, h2, hH, hE, hb, hv, hm, hC]
      | false =>
        simp at hE
        subst hE
        simp [x_scope_declared_1, hl, h0, h1, h2, hH, hb, hv, hm, hC, sliceParts, ha, hbx, c1, c2]
        exact ⟨v', rfl, Grw_fams hg' rfl⟩

theorem loop_dec2 (m : Bool × Bool) (rs seen : List ByteArray) (l : List ByteArray) (hlen : seen.length + l.length ≤ 1048576) (A : List AV) (fr : Fr) (h : AH) (hh : ∃ v B, h.boxes = A :: [v] :: B ∧ Grw 1 (seen.map .str) v h) (hl : fr.length = 64) (h4 : look fr 4 = .fn n_scope_declared_1 [.ptr 1 0]) (h16 : look fr 16 = sl m 1 (l.map .str)) (h17 : look fr 17 = .int .i64 l.length) (h18 : look fr 18 = .int .i64 0) :
    Ends (lp (evalCode (lim Q) (ctxF n_scope_declared) x_scope_declared_2) (fr, h)) fun e fr' h' => Kp x_scope_declared_2.wr fr fr' ∧ (e = .exit 0 ∧ decL rs seen (l.map fun a => (a, none)) = 0 ∧ (∃ v B, h'.boxes = A :: [v] :: B ∧ Grw 1 ((seen ++ l).map .str) v h') ∨ e = .ret ∧ look fr' 2 = .int .i64 (decL rs seen (l.map fun a => (a, none))) ∧ decL rs seen (l.map fun a => (a, none)) ≠ 0) := by
  refine Ends_lpw rfl fr (fun n fr h' => ∃ (i : Nat), i + n = l.length ∧ look fr 18 = .int .i64 (i : Nat) ∧ (∃ v B, h'.boxes = A :: [v] :: B ∧ Grw 1 ((seen ++ l.take i).map .str) v h') ∧ decL rs (seen ++ l.take i) ((l.drop i).map fun a => (a, none)) = decL rs seen (l.map fun a => (a, none))) ?_ l.length h ⟨0, by omega, h18, by simpa using hh, by simp⟩
  rintro J Φ hJ hΦ n fr1 H1 K ⟨i, hi, k18, hr⟩
  have hl1 : fr1.length = 64 := K.1.trans hl
  have k4 := (K.2 4 (by decide)).trans h4
  have k16 := (K.2 16 (by decide)).trans h16
  have k17 := (K.2 17 (by decide)).trans h17
  clear K
  by_cases hlt : i < l.length
  · have hwp : IntKind.i64.wrap ((i : Int) + 1) = (i : Int) + 1 := wrap_id (by omega) (by omega)
    obtain ⟨⟨v, B, hB, hg⟩, hr⟩ := hr
    have hx := nth_map (f := AV.str) (List.getElem?_eq_getElem hlt)
    obtain ⟨w, h', hN, hw2, hz⟩ := rc_next H1 _ v (by rw [hB]; rfl) hg (by simp; omega) l[i] false
    subst hw2
    rw [List.drop_eq_getElem_cons hlt, List.map_cons] at hr
    rw [decL_none] at hr
    by_cases hzz : nxtE (seen ++ l.take i) l[i] false = 0
    · obtain ⟨v', hb', hg'⟩ := hz hzz
      rw [if_neg (by simp [hzz])] at hr
      simp [x_scope_declared_2, hl1, k4, k16, k17, k18, hlt, hwp, hx, hN, hzz]
      exact ⟨n - 1, by omega, hJ _ _ _ ⟨i + 1, by omega, by simp [hl1], ⟨v', B, by rw [hb', hB]; rfl, by rw [List.take_succ_eq_append_getElem hlt, ← List.append_assoc]; exact hg'⟩, by rw [List.take_succ_eq_append_getElem hlt, ← List.append_assoc]; exact hr⟩⟩
    · rw [if_pos hzz] at hr
      simp [x_scope_declared_2, hl1, k4, k16, k17, k18, hlt, hx, hN, hzz]
      exact hΦ _ _ _ (.inr ⟨rfl, by simp [hl1, hr], by rw [← hr]; exact hzz⟩)
  · obtain ⟨hh', hr⟩ := hr
    rw [List.drop_eq_nil_of_le (by omega)] at hr
    rw [List.take_of_length_le (by omega)] at hr hh'
    simp only [List.map_nil, decL] at hr
    simp [x_scope_declared_2, hl1, k17, k18, hlt]
    exact hΦ _ _ _ (.inl ⟨rfl, hr.symm, hh'⟩)

theorem loop_dec0 (m : Bool × Bool) (rs seen : List ByteArray) (l : List ByteArray) (hlen : seen.length + l.length ≤ 1048576) (A : List AV) (fr : Fr) (h : AH) (hh : ∃ v B, h.boxes = A :: [v] :: B ∧ Grw 1 (seen.map .str) v h) (hl : fr.length = 64) (h4 : look fr 4 = .fn n_scope_declared_1 [.ptr 1 0]) (h51 : look fr 51 = sl m 1 (l.map .str)) (h52 : look fr 52 = .int .i64 l.length) (h53 : look fr 53 = .int .i64 0) :
    Ends (lp (evalCode (lim Q) (ctxF n_scope_declared) x_scope_declared_0) (fr, h)) fun e fr' h' => Kp x_scope_declared_0.wr fr fr' ∧ (e = .exit 4 ∧ decL rs seen (l.map fun a => (a, none)) = 0 ∧ (∃ v B, h'.boxes = A :: [v] :: B ∧ Grw 1 ((seen ++ l).map .str) v h') ∨ e = .ret ∧ look fr' 2 = .int .i64 (decL rs seen (l.map fun a => (a, none))) ∧ decL rs seen (l.map fun a => (a, none)) ≠ 0) := by
  refine Ends_lpw rfl fr (fun n fr h' => ∃ (i : Nat), i + n = l.length ∧ look fr 53 = .int .i64 (i : Nat) ∧ (∃ v B, h'.boxes = A :: [v] :: B ∧ Grw 1 ((seen ++ l.take i).map .str) v h') ∧ decL rs (seen ++ l.take i) ((l.drop i).map fun a => (a, none)) = decL rs seen (l.map fun a => (a, none))) ?_ l.length h ⟨0, by omega, h53, by simpa using hh, by simp⟩
  rintro J Φ hJ hΦ n fr1 H1 K ⟨i, hi, k53, hr⟩
  have hl1 : fr1.length = 64 := K.1.trans hl
  have k4 := (K.2 4 (by decide)).trans h4
  have k51 := (K.2 51 (by decide)).trans h51
  have k52 := (K.2 52 (by decide)).trans h52
  clear K
  by_cases hlt : i < l.length
  · have hwp : IntKind.i64.wrap ((i : Int) + 1) = (i : Int) + 1 := wrap_id (by omega) (by omega)
    obtain ⟨⟨v, B, hB, hg⟩, hr⟩ := hr
    have hx := nth_map (f := AV.str) (List.getElem?_eq_getElem hlt)
    obtain ⟨w, h', hN, hw2, hz⟩ := rc_next H1 _ v (by rw [hB]; rfl) hg (by simp; omega) l[i] false
    subst hw2
    rw [List.drop_eq_getElem_cons hlt, List.map_cons] at hr
    rw [decL_none] at hr
    by_cases hzz : nxtE (seen ++ l.take i) l[i] false = 0
    · obtain ⟨v', hb', hg'⟩ := hz hzz
      rw [if_neg (by simp [hzz])] at hr
      simp [x_scope_declared_0, hl1, k4, k51, k52, k53, hlt, hwp, hx, hN, hzz]
      exact ⟨n - 1, by omega, hJ _ _ _ ⟨i + 1, by omega, by simp [hl1], ⟨v', B, by rw [hb', hB]; rfl, by rw [List.take_succ_eq_append_getElem hlt, ← List.append_assoc]; exact hg'⟩, by rw [List.take_succ_eq_append_getElem hlt, ← List.append_assoc]; exact hr⟩⟩
    · rw [if_pos hzz] at hr
      simp [x_scope_declared_0, hl1, k4, k51, k52, k53, hlt, hx, hN, hzz]
      exact hΦ _ _ _ (.inr ⟨rfl, by simp [hl1, hr], by rw [← hr]; exact hzz⟩)
  · obtain ⟨hh', hr⟩ := hr
    rw [List.drop_eq_nil_of_le (by omega)] at hr
    rw [List.take_of_length_le (by omega)] at hr hh'
    simp only [List.map_nil, decL] at hr
    simp [x_scope_declared_0, hl1, k52, k53, hlt]
    exact hΦ _ _ _ (.inl ⟨rfl, hr.symm, hh'⟩)
end Go.Abs.Q
