/- Contracts: narrations with sorts (program). -/
import Derived.Test.YtpkegmgepnhfnaaGreatV12
/- Contracts: the error of the names (program). -/
namespace Go.Abs.Q
open Go.Proofs
attribute [local simp] look_set_ne look_set_eq fin tupled code_loop Ends_brn Ends_grdt Ends_grdf toL_iff toL_dec raw_scope_declared_1 rawv_scope_declared ro_scope_declared raw_scope_declared raw_slices_Contains_string raw_strings_Contains

theorem tk_map {α β : Type} (f : α → β) {l : List α} {i : Nat} (h : i < l.length) : (l.map f).take (i + 1) = (l.map f).take i ++ [f l[i]] := by
  rw [List.take_succ_eq_append_getElem (by simpa using h)]
  simp

theorem loop_dec1 (m m0 : Bool × Bool) (rs seen : List ByteArray) (hrs : rs.length ≤ 1048576) (l : List Fre) (hlen : seen.length + l.length ≤ 1048576) (a0 a2 a3 a4 a5 : AV) (fr : Fr) (h : AH) (hh : ∃ v B, h.boxes = [a0, sl m0 1 (rs.map .str), a2, a3, a4, a5] :: [v] :: B ∧ Grw 1 (seen.map .str) v h) (hl : fr.length = 64) (h1 : look fr 1 = .ptr 0 0) (h4 : look fr 4 = .fn n_scope_declared_1 [.ptr 1 0]) (h30 : look fr 30 = sl m 3 (l.map frV)) (h31 : look fr 31 = .int .i64 l.length) (h32 : look fr 32 = .int .i64 0) :
    Ends (lp (evalCode (lim Q) (ctxF n_scope_declared) x_scope_declared_1l) (fr, h)) fun e fr' h' => Kp x_scope_declared_1l.wr fr fr' ∧ (e = .exit 2 ∧ decL rs seen (l.map fun f => (f.name, some f.role)) = 0 ∧ (∃ v B, h'.boxes = [a0, sl m0 1 (rs.map .str), a2, a3, a4, a5] :: [v] :: B ∧ Grw 1 ((seen ++ l.map Fre.name).map .str) v h') ∨ e = .ret ∧ look fr' 2 = .int .i64 (decL rs seen (l.map fun f => (f.name, some f.role))) ∧ decL rs seen (l.map fun f => (f.name, some f.role)) ≠ 0) := by
  refine Ends_lpw rfl fr (fun n fr h' => ∃ (i : Nat), i + n = l.length ∧ look fr 32 = .int .i64 (i : Nat) ∧ (∃ v B, h'.boxes = [a0, sl m0 1 (rs.map .str), a2, a3, a4, a5] :: [v] :: B ∧ Grw 1 ((seen ++ (l.map Fre.name).take i).map .str) v h') ∧ decL rs (seen ++ (l.map Fre.name).take i) ((l.drop i).map fun f => (f.name, some f.role)) = decL rs seen (l.map fun f => (f.name, some f.role))) ?_ l.length h ⟨0, by omega, h32, by simpa using hh, by simp⟩
  rintro J Φ hJ hΦ n fr1 H1 K ⟨i, hi, k32, hr⟩
  have hl1 : fr1.length = 64 := K.1.trans hl
  have k1 := (K.2 1 (by decide)).trans h1
  have k4 := (K.2 4 (by decide)).trans h4
  have k30 := (K.2 30 (by decide)).trans h30
  have k31 := (K.2 31 (by decide)).trans h31
  clear K
  by_cases hlt : i < l.length
  · have hwp : IntKind.i64.wrap ((i : Int) + 1) = (i : Int) + 1 := wrap_id (by omega) (by omega)
    obtain ⟨⟨v, B, hB, hg⟩, hr⟩ := hr
    have hx := nth_map (f := frV) (List.getElem?_eq_getElem hlt)
    have hC := pc_Contains' m0 rs l[i].role hrs
    obtain ⟨bx, fams⟩ := H1
    simp only at hB
    subst hB
    obtain ⟨w, h', hN, hw2, hz⟩ := rc_next ⟨[a0, sl m0 1 (rs.map .str), a2, a3, a4, a5] :: [v] :: (B ++ [(frV l[i]).cells]), fams⟩ _ v rfl (Grw_fams hg rfl) (by simp; omega) l[i].name true
    subst hw2
    rw [List.drop_eq_getElem_cons hlt, List.map_cons] at hr
    rw [decL_some] at hr
    by_cases hzz : nxtE (seen ++ (l.map Fre.name).take i) l[i].name true = 0
    · obtain ⟨v', hb', hg'⟩ := hz hzz
      rw [if_neg (by simp [hzz])] at hr
      simp only [List.set_cons_succ, List.set_cons_zero] at hb'
      simp only [fr_cells] at hN hb'
      cases hq : rs.any (eqS l[i].role) with
      | true =>
        rw [hq] at hC hr
        rw [if_neg (by simp)] at hr
        simp [x_scope_declared_1l, hl1, k1, k4, k30, k31, k32, hlt, hwp, hx, hN, hzz, hb', hC]
        exact ⟨n - 1, by omega, hJ _ _ _ ⟨i + 1, by omega, by simp [hl1], ⟨v', _, hb', by rw [tk_map _ hlt, ← List.append_assoc]; exact Grw_fams hg' rfl⟩, by rw [tk_map _ hlt, ← List.append_assoc]; exact hr⟩⟩
      | false =>
        rw [hq] at hC hr
        rw [if_pos rfl] at hr
        simp [x_scope_declared_1l, hl1, k1, k4, k30, k31, k32, hlt, hx, hN, hzz, hb', hC]
        exact hΦ _ _ _ (.inr ⟨rfl, by rw [← hr]; simp [hl1], by rw [← hr]; omega⟩)
    · rw [if_pos hzz] at hr
      simp only [fr_cells] at hN
      simp [x_scope_declared_1l, hl1, k4, k30, k31, k32, hlt, hx, hN, hzz]
      exact hΦ _ _ _ (.inr ⟨rfl, by simp [hl1, hr], by rw [← hr]; exact hzz⟩)
  · obtain ⟨hh', hr⟩ := hr
    rw [List.drop_eq_nil_of_le (by omega)] at hr
    rw [List.take_of_length_le (by simp; omega)] at hr hh'
    simp only [List.map_nil, decL] at hr
    simp [x_scope_declared_1l, hl1, k31, k32, hlt]
    exact hΦ _ _ _ (.inl ⟨rfl, hr.symm, hh'⟩)

theorem pc_declared (n : Nar) (hS : n.roles.length + n.fresh.length + n.tags.length ≤ 1048576) : pc Q n_scope_declared [narV n] = some (.int .i64 (decE n)) := by
  have hE : decE n = if decL n.roles [] (n.roles.map fun a => (a, none)) ≠ 0 then decL n.roles [] (n.roles.map fun a => (a, none))
      else if decL n.roles n.roles (n.fresh.map fun f => (f.name, some f.role)) ≠ 0 then decL n.roles n.roles (n.fresh.map fun f => (f.name, some f.role))
      else decL n.roles (n.roles ++ n.fresh.map Fre.name) (n.tags.map fun a => (a, none)) := by
    unfold decE entN
    rw [decL_app, decL_app]
    have e1 : (n.roles.map fun a => ((a, none) : ByteArray × Option ByteArray)).map (·.1) = n.roles := by simp [Function.comp_def]
    have e2 : (n.fresh.map fun f => ((f.name, some f.role) : ByteArray × Option ByteArray)).map (·.1) = n.fresh.map Fre.name := by simp [Function.comp_def]
    rw [List.map_append, e1, e2, List.nil_append]
    split <;> simp_all
  generalize decE n = z at *
  obtain ⟨name, rm, roles, fm, fresh, tm, tags, sm, steps, gm, goals⟩ := n
  simp only at hE hS
  refine pcQ res_scope_declared rfl (by simp [x_scope_declared]) fun fr hl ha => ?_
  have h0 := ha 0
  clear ha
  simp [x_scope_declared, narV] at hl h0
  simp [x_scope_declared, hl, h0]
  refine Ends.mono (loop_dec2 rm roles [] roles (by simp; omega) [.str name, sl rm 1 (roles.map .str), sl fm 3 (fresh.map frV), sl tm 1 (tags.map .str), sl sm 7 (steps.map stV), sl gm 5 (goals.map goV)] _ _ ?_ ?_ ?_ ?_ ?_ ?_) ?_ <;> first | (simp [hl]; done) | skip
  · exact ⟨_, _, rfl, Grw_nil _ _⟩
  rintro e fr1 h1 ⟨K, ⟨rfl, hz, hh⟩ | ⟨rfl, k2, hz⟩⟩
  · have hlfr1 : fr1.length = 64 := K.1.trans (by simp [hl])
    have k1fr1 : look fr1 1 = .ptr 0 0 := (K.2 1 (by decide)).trans (by simp [hl])
    have k4fr1 : look fr1 4 = .fn n_scope_declared_1 [.ptr 1 0] := (K.2 4 (by decide)).trans (by simp [hl])
    clear K
    rw [if_neg (by simp [hz])] at hE
    rw [List.nil_append] at hh
    have hh0 := hh
    obtain ⟨v, B, hB, hg⟩ := hh
    simp [hlfr1, k1fr1, hB]
    refine Ends.mono (loop_dec1 fm rm roles roles (by omega) fresh (by omega) _ _ _ _ _ _ h1 hh0 ?_ ?_ ?_ ?_ ?_ ?_) ?_ <;> first | (simp [hlfr1, k1fr1, k4fr1]; done) | skip
    rintro e fr2 h2 ⟨K, ⟨rfl, hz, hh⟩ | ⟨rfl, k2, hz⟩⟩
    · have hlfr2 : fr2.length = 64 := K.1.trans (by simp [hlfr1])
      have k1fr2 : look fr2 1 = .ptr 0 0 := (K.2 1 (by decide)).trans (by simp [k1fr1])
      have k4fr2 : look fr2 4 = .fn n_scope_declared_1 [.ptr 1 0] := (K.2 4 (by decide)).trans (by simp [k4fr1])
      clear K
      rw [if_neg (by simp [hz])] at hE
      have hh0 := hh
      obtain ⟨v, B, hB, hg⟩ := hh
      simp [hlfr2, k1fr2, hB]
      refine Ends.mono (loop_dec0 tm roles (roles ++ fresh.map Fre.name) tags (by simp; omega) _ _ h2 hh0 ?_ ?_ ?_ ?_ ?_) ?_ <;> first | (simp [hlfr2, k4fr2]; done) | skip
      rintro e fr3 h3 ⟨K, ⟨rfl, hz, hh⟩ | ⟨rfl, k2, hz⟩⟩
      · have hlfr3 : fr3.length = 64 := K.1.trans (by simp [hlfr2])
        clear K
        rw [hz] at hE
        simp [hlfr3, hE]
      · simp [k2, hE]
    · rw [if_pos hz] at hE
      simp [k2, hE]
  · rw [if_pos hz] at hE
    simp [k2, hE]
end Go.Abs.Q

/- Contracts: the table of the names (program). -/
namespace Go.Abs.Q
open Go.Proofs
attribute [local simp] look_set_ne look_set_eq fin tupled code_loop raw_scope_names

theorem frz1_mp (h : AH) (b : Nat) (ks vs : List AV) (hb : h.boxes[b]? = some [.mbox ks vs]) : frz1 h true (.mp b) = some (.vm ks vs) := by simp [frz1, hb]
@[simp] theorem isMB_mbox (ks vs : List AV) : isMB [.mbox ks vs] = true := rfl

theorem decL_zero_none {rs seen : List ByteArray} {a : ByteArray} {r : List (ByteArray × Option ByteArray)} (h : decL rs seen ((a, none) :: r) = 0) : seen.any (eqS a) = false ∧ decL rs (seen ++ [a]) r = 0 := by
  rw [decL_none] at h
  by_cases hz : nxtE seen a false = 0
  · rw [if_neg (by simp [hz])] at h
    refine ⟨?_, h⟩
    unfold nxtE at hz
    cases hs : seen.any (eqS a) with
    | false => rfl
    | true =>
      rw [hs] at hz
      split at hz <;> simp at hz
  · rw [if_pos hz] at h
    exact absurd h hz
theorem decL_zero_some {rs seen : List ByteArray} {a x : ByteArray} {r : List (ByteArray × Option ByteArray)} (h : decL rs seen ((a, some x) :: r) = 0) : seen.any (eqS a) = false ∧ rs.any (eqS x) = true ∧ decL rs (seen ++ [a]) r = 0 := by
  rw [decL_some] at h
  by_cases hz : nxtE seen a true = 0
  · rw [if_neg (by simp [hz])] at h
    have h2 : seen.any (eqS a) = false := by
      unfold nxtE at hz
      cases hs : seen.any (eqS a) with
      | false => rfl
      | true =>
        rw [hs] at hz
        split at hz
        · simp at hz
        · split at hz <;> simp at hz
    cases hx : rs.any (eqS x) with
    | false => rw [hx, if_pos rfl] at h; omega
    | true => rw [hx, if_neg (by simp)] at h; exact ⟨h2, rfl, h⟩
  · rw [if_pos hz] at h
    exact absurd h hz

theorem loop_nm2 (m : Bool × Bool) (rs seen : List ByteArray) (so : List Int) (l : List ByteArray) (hlen : l.length ≤ 1048576) (hd : decL rs seen (l.map fun a => (a, none)) = 0) (A C : List AV) (t0 : AV) (B : List (List AV)) (fr : Fr) (h : AH) (hh : h.boxes = A :: C :: [.mbox (seen.map .str) (so.map (.int .i64))] :: [t0, .mp 2] :: B) (hl : fr.length = 51) (h3 : look fr 3 = .ptr 3 0) (h15 : look fr 15 = sl m 1 (l.map .str)) (h16 : look fr 16 = .int .i64 l.length) (h17 : look fr 17 = .int .i64 0) :
    Ends (lp (evalCode (lim Q) (ctxF n_scope_names) x_scope_names_2) (fr, h)) fun e fr' h' => Kp x_scope_names_2.wr fr fr' ∧ e = .exit 0 ∧ h'.boxes = A :: C :: [.mbox ((seen ++ l).map .str) ((so ++ l.map fun _ => (1 : Int)).map (.int .i64))] :: [t0, .mp 2] :: B := by
  refine Ends_lpw rfl fr (fun n fr h' => ∃ (i : Nat), i + n = l.length ∧ look fr 17 = .int .i64 (i : Nat) ∧ h'.boxes = A :: C :: [.mbox ((seen ++ l.take i).map .str) ((so ++ (l.take i).map fun _ => (1 : Int)).map (.int .i64))] :: [t0, .mp 2] :: B ∧ decL rs (seen ++ l.take i) ((l.drop i).map fun a => (a, none)) = 0) ?_ l.length h ⟨0, by omega, h17, by rw [hh, List.take_zero, List.map_nil, List.append_nil, List.append_nil], by simpa using hd⟩
  rintro J Φ hJ hΦ n fr1 H1 K ⟨i, hi, k17, hr⟩
  have hl1 : fr1.length = 51 := K.1.trans hl
  have k3 := (K.2 3 (by decide)).trans h3
  have k15 := (K.2 15 (by decide)).trans h15
  have k16 := (K.2 16 (by decide)).trans h16
  clear K
  by_cases hlt : i < l.length
  · have hwp : IntKind.i64.wrap ((i : Int) + 1) = (i : Int) + 1 := wrap_id (by omega) (by omega)
    obtain ⟨hB, hr⟩ := hr
    obtain ⟨bx, fams⟩ := H1
    simp only at hB
    subst hB
    have hx := nth_map (f := AV.str) (List.getElem?_eq_getElem hlt)
    rw [List.drop_eq_getElem_cons hlt, List.map_cons] at hr
    obtain ⟨q1, q2⟩ := decL_zero_none hr
    have hM := mup_new ⟨A :: C :: [.mbox ((seen ++ l.take i).map .str) ((so ++ (l.take i).map fun _ => (1 : Int)).map (.int .i64))] :: [t0, .mp 2] :: B, fams⟩ 2 _ _ l[i] 1 rfl q1
    have e1 : (seen ++ l.take i ++ [l[i]]) = seen ++ l.take (i + 1) := by rw [List.take_succ_eq_append_getElem hlt, List.append_assoc]
    have e2 : (so ++ (l.take i).map fun _ => (1 : Int)).map (AV.int .i64) ++ [.int .i64 1] = (so ++ (l.take (i + 1)).map fun _ => (1 : Int)).map (AV.int .i64) := by
      rw [List.take_succ_eq_append_getElem hlt]
      simp only [List.map_append, List.map_cons, List.map_nil, List.append_assoc]
    rw [e1, e2] at hM
    rw [e1] at q2
    simp only [List.set_cons_succ, List.set_cons_zero] at hM
    generalize (seen ++ l.take i).map AV.str = U at *
    generalize (so ++ (l.take i).map fun _ => (1 : Int)).map (AV.int .i64) = V at *
    generalize hU : (seen ++ l.take (i + 1)).map AV.str = U' at *
    generalize hV : (so ++ (l.take (i + 1)).map fun _ => (1 : Int)).map (AV.int .i64) = V' at *
    simp [x_scope_names_2, hl1, k3, k15, k16, k17, hlt, hwp, hx, hM]
    exact ⟨n - 1, by omega, hJ _ _ _ ⟨i + 1, by omega, by simp [hl1], by rw [hU, hV], q2⟩⟩
  · obtain ⟨hB, hr⟩ := hr
    rw [List.drop_eq_nil_of_le (by omega)] at hr
    rw [List.take_of_length_le (by omega)] at hB
    simp [x_scope_names_2, hl1, k16, k17, hlt]
    exact hΦ _ _ _ ⟨rfl, hB⟩

theorem loop_nm0 (m : Bool × Bool) (rs seen : List ByteArray) (so : List Int) (l : List ByteArray) (hlen : l.length ≤ 1048576) (hd : decL rs seen (l.map fun a => (a, none)) = 0) (A C : List AV) (t0 : AV) (B : List (List AV)) (fr : Fr) (h : AH) (hh : h.boxes = A :: C :: [.mbox (seen.map .str) (so.map (.int .i64))] :: [t0, .mp 2] :: B) (hl : fr.length = 51) (h3 : look fr 3 = .ptr 3 0) (h40 : look fr 40 = sl m 1 (l.map .str)) (h41 : look fr 41 = .int .i64 l.length) (h42 : look fr 42 = .int .i64 0) :
    Ends (lp (evalCode (lim Q) (ctxF n_scope_names) x_scope_names_0) (fr, h)) fun e fr' h' => Kp x_scope_names_0.wr fr fr' ∧ e = .exit 4 ∧ h'.boxes = A :: C :: [.mbox ((seen ++ l).map .str) ((so ++ l.map fun _ => (5 : Int)).map (.int .i64))] :: [t0, .mp 2] :: B := by
  refine Ends_lpw rfl fr (fun n fr h' => ∃ (i : Nat), i + n = l.length ∧ look fr 42 = .int .i64 (i : Nat) ∧ h'.boxes = A :: C :: [.mbox ((seen ++ l.take i).map .str) ((so ++ (l.take i).map fun _ => (5 : Int)).map (.int .i64))] :: [t0, .mp 2] :: B ∧ decL rs (seen ++ l.take i) ((l.drop i).map fun a => (a, none)) = 0) ?_ l.length h ⟨0, by omega, h42, by rw [hh, List.take_zero, List.map_nil, List.append_nil, List.append_nil], by simpa using hd⟩
  rintro J Φ hJ hΦ n fr1 H1 K ⟨i, hi, k42, hr⟩
  have hl1 : fr1.length = 51 := K.1.trans hl
  have k3 := (K.2 3 (by decide)).trans h3
  have k40 := (K.2 40 (by decide)).trans h40
  have k41 := (K.2 41 (by decide)).trans h41
  clear K
  by_cases hlt : i < l.length
  · have hwp : IntKind.i64.wrap ((i : Int) + 1) = (i : Int) + 1 := wrap_id (by omega) (by omega)
    obtain ⟨hB, hr⟩ := hr
    obtain ⟨bx, fams⟩ := H1
    simp only at hB
    subst hB
    have hx := nth_map (f := AV.str) (List.getElem?_eq_getElem hlt)
    rw [List.drop_eq_getElem_cons hlt, List.map_cons] at hr
    obtain ⟨q1, q2⟩ := decL_zero_none hr
    have hM := mup_new ⟨A :: C :: [.mbox ((seen ++ l.take i).map .str) ((so ++ (l.take i).map fun _ => (5 : Int)).map (.int .i64))] :: [t0, .mp 2] :: B, fams⟩ 2 _ _ l[i] 5 rfl q1
    have e1 : (seen ++ l.take i ++ [l[i]]) = seen ++ l.take (i + 1) := by rw [List.take_succ_eq_append_getElem hlt, List.append_assoc]
    have e2 : (so ++ (l.take i).map fun _ => (5 : Int)).map (AV.int .i64) ++ [.int .i64 5] = (so ++ (l.take (i + 1)).map fun _ => (5 : Int)).map (AV.int .i64) := by
      rw [List.take_succ_eq_append_getElem hlt]
      simp only [List.map_append, List.map_cons, List.map_nil, List.append_assoc]
    rw [e1, e2] at hM
    rw [e1] at q2
    simp only [List.set_cons_succ, List.set_cons_zero] at hM
    generalize (seen ++ l.take i).map AV.str = U at *
    generalize (so ++ (l.take i).map fun _ => (5 : Int)).map (AV.int .i64) = V at *
    generalize hU : (seen ++ l.take (i + 1)).map AV.str = U' at *
    generalize hV : (so ++ (l.take (i + 1)).map fun _ => (5 : Int)).map (AV.int .i64) = V' at *
    simp [x_scope_names_0, hl1, k3, k40, k41, k42, hlt, hwp, hx, hM]
    exact ⟨n - 1, by omega, hJ _ _ _ ⟨i + 1, by omega, by simp [hl1], by rw [hU, hV], q2⟩⟩
  · obtain ⟨hB, hr⟩ := hr
    rw [List.drop_eq_nil_of_le (by omega)] at hr
    rw [List.take_of_length_le (by omega)] at hB
    simp [x_scope_names_0, hl1, k41, k42, hlt]
    exact hΦ _ _ _ ⟨rfl, hB⟩

theorem loop_nm1 (m : Bool × Bool) (rs seen : List ByteArray) (so : List Int) (l : List Fre) (hlen : l.length ≤ 1048576) (hd : decL rs seen (l.map fun f => (f.name, some f.role)) = 0) (A C : List AV) (t0 : AV) (fr : Fr) (h : AH) (hh : h.boxes = A :: C :: [.mbox (seen.map .str) (so.map (.int .i64))] :: [t0, .mp 2] :: []) (hl : fr.length = 51) (h3 : look fr 3 = .ptr 3 0) (h26 : look fr 26 = sl m 3 (l.map frV)) (h27 : look fr 27 = .int .i64 l.length) (h28 : look fr 28 = .int .i64 0) :
    Ends (lp (evalCode (lim Q) (ctxF n_scope_names) x_scope_names_1) (fr, h)) fun e fr' h' => Kp x_scope_names_1.wr fr fr' ∧ e = .exit 2 ∧ ∃ B, h'.boxes = A :: C :: [.mbox ((seen ++ l.map Fre.name).map .str) ((so ++ l.map Fre.sort).map (.int .i64))] :: [t0, .mp 2] :: B := by
  refine Ends_lpw rfl fr (fun n fr h' => ∃ (i : Nat), i + n = l.length ∧ look fr 28 = .int .i64 (i : Nat) ∧ (∃ B, h'.boxes = A :: C :: [.mbox ((seen ++ (l.map Fre.name).take i).map .str) ((so ++ (l.map Fre.sort).take i).map (.int .i64))] :: [t0, .mp 2] :: B) ∧ decL rs (seen ++ (l.map Fre.name).take i) ((l.drop i).map fun f => (f.name, some f.role)) = 0) ?_ l.length h ⟨0, by omega, h28, ⟨[], by rw [hh, List.take_zero, List.take_zero, List.append_nil, List.append_nil]⟩, by simpa using hd⟩
  rintro J Φ hJ hΦ n fr1 H1 K ⟨i, hi, k28, hr⟩
  have hl1 : fr1.length = 51 := K.1.trans hl
  have k3 := (K.2 3 (by decide)).trans h3
  have k26 := (K.2 26 (by decide)).trans h26
  have k27 := (K.2 27 (by decide)).trans h27
  clear K
  by_cases hlt : i < l.length
  · have hwp : IntKind.i64.wrap ((i : Int) + 1) = (i : Int) + 1 := wrap_id (by omega) (by omega)
    obtain ⟨⟨B, hB⟩, hr⟩ := hr
    obtain ⟨bx, fams⟩ := H1
    simp only at hB
    subst hB
    have hx := nth_map (f := frV) (List.getElem?_eq_getElem hlt)
    rw [List.drop_eq_getElem_cons hlt, List.map_cons] at hr
    obtain ⟨q1, -, q2⟩ := decL_zero_some hr
    have hM := mup_new ⟨A :: C :: [.mbox ((seen ++ (l.map Fre.name).take i).map .str) ((so ++ (l.map Fre.sort).take i).map (.int .i64))] :: [t0, .mp 2] :: (B ++ [(frV l[i]).cells]), fams⟩ 2 _ _ l[i].name l[i].sort rfl q1
    have e1 : (seen ++ (l.map Fre.name).take i ++ [l[i].name]) = seen ++ (l.map Fre.name).take (i + 1) := by rw [tk_map _ hlt, List.append_assoc]
    have e2 : (so ++ (l.map Fre.sort).take i).map (AV.int .i64) ++ [.int .i64 l[i].sort] = (so ++ (l.map Fre.sort).take (i + 1)).map (AV.int .i64) := by
      rw [tk_map _ hlt]
      simp only [List.map_append, List.map_cons, List.map_nil, List.append_assoc]
    rw [e1, e2] at hM
    rw [e1] at q2
    simp only [List.set_cons_succ, List.set_cons_zero, fr_cells] at hM
    generalize (seen ++ (l.map Fre.name).take i).map AV.str = U at *
    generalize (so ++ (l.map Fre.sort).take i).map (AV.int .i64) = V at *
    generalize hU : (seen ++ (l.map Fre.name).take (i + 1)).map AV.str = U' at *
    generalize hV : (so ++ (l.map Fre.sort).take (i + 1)).map (AV.int .i64) = V' at *
    simp [x_scope_names_1, hl1, k3, k26, k27, k28, hlt, hwp, hx, hM]
    exact ⟨n - 1, by omega, hJ _ _ _ ⟨i + 1, by omega, by simp [hl1], ⟨_, by rw [hU, hV]⟩, q2⟩⟩
  · obtain ⟨⟨B, hB⟩, hr⟩ := hr
    rw [List.drop_eq_nil_of_le (by omega)] at hr
    rw [List.take_of_length_le (by simp; omega), List.take_of_length_le (by simp; omega)] at hB
    simp [x_scope_names_1, hl1, k27, k28, hlt]
    exact hΦ _ _ _ ⟨rfl, B, hB⟩

theorem decE_zero {n : Nar} (hd : decE n = 0) : decL n.roles [] (n.roles.map fun a => (a, none)) = 0 ∧ decL n.roles n.roles (n.fresh.map fun f => (f.name, some f.role)) = 0 ∧ decL n.roles (n.roles ++ n.fresh.map Fre.name) (n.tags.map fun a => (a, none)) = 0 := by
  have e1 : (n.roles.map fun a => ((a, none) : ByteArray × Option ByteArray)).map (·.1) = n.roles := by simp [Function.comp_def]
  have e2 : (n.fresh.map fun f => ((f.name, some f.role) : ByteArray × Option ByteArray)).map (·.1) = n.fresh.map Fre.name := by simp [Function.comp_def]
  unfold decE entN at hd
  rw [decL_app, decL_app, List.map_append, e1, e2, List.nil_append, List.nil_append] at hd
  by_cases d1 : decL n.roles [] (n.roles.map fun a => (a, none)) = 0
  · rw [if_neg (c := decL n.roles [] (n.roles.map fun a => (a, none)) ≠ 0) (by simp [d1])] at hd
    by_cases d2 : decL n.roles n.roles (n.fresh.map fun f => (f.name, some f.role)) = 0
    · rw [if_neg (by simp [d2])] at hd
      exact ⟨d1, d2, hd⟩
    · rw [if_pos d2] at hd
      exact absurd hd d2
  · simp [d1] at hd

theorem pc_scopeNames (n : Nar) (hS : n.roles.length + n.fresh.length + n.tags.length ≤ 1048576) (hd : decE n = 0) : pc Q n_scope_names [narV n] = some (tabV n.rm n) := by
  obtain ⟨d1, d2, hd⟩ := decE_zero hd
  unfold tabV namesN sortsN
  obtain ⟨name, rm, roles, fm, fresh, tm, tags, sm, steps, gm, goals⟩ := n
  simp only at hd d1 d2 hS ⊢
  generalize hU : (roles ++ fresh.map Fre.name ++ tags).map AV.str = U
  generalize hV : ((roles.map fun _ => (1 : Int)) ++ fresh.map Fre.sort ++ tags.map fun _ => (5 : Int)).map (AV.int .i64) = V
  refine pcQ res_scope_names rfl (by simp [x_scope_names]) fun fr hl ha => ?_
  have h0 := ha 0
  clear ha
  simp [x_scope_names, narV] at hl h0
  simp [x_scope_names, hl, h0, buildParts, fillParts]
  refine Ends.mono (loop_nm2 rm roles [] [] roles (by omega) d1 [.str name, sl rm 1 (roles.map .str), sl fm 3 (fresh.map frV), sl tm 1 (tags.map .str), sl sm 7 (steps.map stV), sl gm 5 (goals.map goV)] [.vs true 0 [], .nilm] (sl rm 1 (roles.map .str)) [] _ _ ?_ ?_ ?_ ?_ ?_ ?_) ?_ <;> first | (simp [hl]; done) | skip
  rintro e fr1 ⟨bx, fams⟩ ⟨K, rfl, hB⟩
  simp only at hB
  subst hB
  have hlfr1 : fr1.length = 51 := K.1.trans (by simp [hl])
  have k1fr1 : look fr1 1 = .ptr 0 0 := (K.2 1 (by decide)).trans (by simp [hl])
  have k2fr1 : look fr1 2 = .ptr 1 0 := (K.2 2 (by decide)).trans (by simp [hl])
  have k3fr1 : look fr1 3 = .ptr 3 0 := (K.2 3 (by decide)).trans (by simp [hl])
  clear K
  simp [hlfr1, k1fr1]
  refine Ends.mono (loop_nm1 fm roles roles (roles.map fun _ => 1) fresh (by omega) d2 [.str name, sl rm 1 (roles.map .str), sl fm 3 (fresh.map frV), sl tm 1 (tags.map .str), sl sm 7 (steps.map stV), sl gm 5 (goals.map goV)] [.vs true 0 [], .nilm] (sl rm 1 (roles.map .str)) _ _ ?_ ?_ ?_ ?_ ?_ ?_) ?_ <;> first | (simp [hlfr1, k3fr1]; done) | skip
  rintro e fr2 ⟨bx, fams⟩ ⟨K, rfl, B, hB⟩
  simp only at hB
  subst hB
  have hlfr2 : fr2.length = 51 := K.1.trans (by simp [hlfr1])
  have k1fr2 : look fr2 1 = .ptr 0 0 := (K.2 1 (by decide)).trans (by simp [k1fr1])
  have k2fr2 : look fr2 2 = .ptr 1 0 := (K.2 2 (by decide)).trans (by simp [k2fr1])
  have k3fr2 : look fr2 3 = .ptr 3 0 := (K.2 3 (by decide)).trans (by simp [k3fr1])
  clear K
  simp [hlfr2, k1fr2]
  refine Ends.mono (loop_nm0 tm roles (roles ++ fresh.map Fre.name) ((roles.map fun _ => 1) ++ fresh.map Fre.sort) tags (by omega) hd [.str name, sl rm 1 (roles.map .str), sl fm 3 (fresh.map frV), sl tm 1 (tags.map .str), sl sm 7 (steps.map stV), sl gm 5 (goals.map goV)] [.vs true 0 [], .nilm] (sl rm 1 (roles.map .str)) B _ _ ?_ ?_ ?_ ?_ ?_ ?_) ?_ <;> first | (simp [hlfr2, k3fr2]; done) | skip
  rintro e fr3 ⟨bx, fams⟩ ⟨K, rfl, hB⟩
  simp only at hB
  rw [hU, hV] at hB
  subst hB
  have hlfr3 : fr3.length = 51 := K.1.trans (by simp [hlfr2])
  have k1fr3 : look fr3 1 = .ptr 0 0 := (K.2 1 (by decide)).trans (by simp [k1fr2])
  have k2fr3 : look fr3 2 = .ptr 1 0 := (K.2 2 (by decide)).trans (by simp [k2fr2])
  have k3fr3 : look fr3 3 = .ptr 3 0 := (K.2 3 (by decide)).trans (by simp [k3fr2])
  clear K
  have hF : ∀ (A C T : List AV) (B : List (List AV)) (f : List Fam), frz1 ⟨A :: C :: [.mbox U V] :: T :: B, f⟩ true (.mp 2) = some (.vm U V) := fun _ _ _ _ _ => frz1_mp _ 2 U V rfl
  simp [hlfr3, k2fr3, k3fr3, hF]
end Go.Abs.Q

/- Contracts: the error of a narration in its scope (program). -/
namespace Go.Abs.Q
open Go.Proofs
attribute [local simp] look_set_ne look_set_eq fin tupled code_loop raw_scope_table_goal raw_scope_table_two raw_scope_table_term raw_slices_Contains_string raw_scope_Check raw_syntax_Valid raw_scope_declared raw_scope_names

theorem loop_sgoal (m : Bool × Bool) (rs ns : List ByteArray) (vs : List Int) (m' : Bool × Bool) (l : List Tm) (hlen : l.length ≤ 1099511627776) (IH : ∀ t ∈ l, pc Q n_scope_table_term [.agg [sl m 1 (rs.map .str), .vm (ns.map .str) (vs.map (.int .i64))], tmV t] = some (.int .i64 (scoT ns rs t))) (b1 : List AV) (fr : Fr) (h : AH) (hh : h.boxes = [[sl m 1 (rs.map .str), .vm (ns.map .str) (vs.map (.int .i64))], b1]) (hl : fr.length = 46) (h2 : look fr 2 = .ptr 0 0) (h33 : look fr 33 = sl m' 4 (tmVs l)) (h34 : look fr 34 = .int .i64 l.length) (h35 : look fr 35 = .int .i64 0) :
    Ends (lp (evalCode (lim Q) (ctxF n_scope_table_goal) x_scope_table_goal_0) (fr, h)) fun e fr' h' => Kp x_scope_table_goal_0.wr fr fr' ∧ (e = .exit 0 ∧ firstE (scoT ns rs) l = 0 ∨ e = .ret ∧ look fr' 4 = .int .i64 (firstE (scoT ns rs) l)) := by
  refine Ends_lpw rfl fr (fun n fr h' => ∃ (i : Nat), i + n = l.length ∧ look fr 35 = .int .i64 (i : Nat) ∧ (∃ B, h'.boxes = [sl m 1 (rs.map .str), .vm (ns.map .str) (vs.map (.int .i64))] :: B) ∧ firstE (scoT ns rs) (l.drop i) = firstE (scoT ns rs) l) ?_ l.length h ⟨0, by omega, h35, ⟨_, hh⟩, rfl⟩
  rintro J Φ hJ hΦ n fr1 H1 K ⟨i, hi, k35, hr⟩
  have hl1 : fr1.length = 46 := K.1.trans hl
  have k2 := (K.2 2 (by decide)).trans h2
  have k33 := (K.2 33 (by decide)).trans h33
  have k34 := (K.2 34 (by decide)).trans h34
  clear K
  by_cases hlt : i < l.length
  · have hwp : IntKind.i64.wrap ((i : Int) + 1) = (i : Int) + 1 := wrap_id (by omega) (by omega)
    obtain ⟨⟨B, hB⟩, hr⟩ := hr
    obtain ⟨bx, fams⟩ := H1
    simp only at hB
    subst hB
    have hx := nth_tm hlt
    have hI := IH l[i] (List.getElem_mem hlt)
    rw [List.drop_eq_getElem_cons hlt] at hr
    simp only [firstE] at hr
    generalize l[i] = t at *
    generalize scoT ns rs t = v at *
    by_cases hz : v = 0
    · rw [if_neg (by simp [hz])] at hr
      simp [x_scope_table_goal_0, hl1, k2, k33, k34, k35, hlt, hwp, hx, hI, hz]
      exact ⟨n - 1, by omega, hJ _ _ _ ⟨i + 1, by omega, by simp [hl1], ⟨_, rfl⟩, hr⟩⟩
    · rw [if_pos hz] at hr
      simp [x_scope_table_goal_0, hl1, k2, k33, k34, k35, hlt, hx, hI, hz]
      exact hΦ _ _ _ (.inr ⟨rfl, by simp [hl1, hr]⟩)
  · obtain ⟨_, hr⟩ := hr
    rw [List.drop_eq_nil_of_le (by omega)] at hr
    simp [x_scope_table_goal_0, hl1, k34, k35, hlt]
    exact hΦ _ _ _ (.inl ⟨rfl, hr.symm⟩)

theorem pc_sgoal (m : Bool × Bool) (rs ns : List ByteArray) (vs : List Int) (hr : rs.length ≤ 1048576) (hkv : ns.length = vs.length) (g : Gol) (hg : Tm.sizes g.data ≤ 1099511627776) :
    pc Q n_scope_table_goal [.agg [sl m 1 (rs.map .str), .vm (ns.map .str) (vs.map (.int .i64))], goV g] = some (.int .i64 (scoG ns rs g)) := by
  have hlen := Tm.length_le g.data
  have hlp := loop_sgoal m rs ns vs g.dm g.data (by omega) (fun t ht => pc_term m rs ns vs hr hkv _ t (Nat.le_refl _) (by have := Tm.size_le ht; omega))
  have hC := pc_Contains' m rs g.role hr
  have hT := pc_two m rs (ns.map .str) (vs.map (.int .i64)) hr g.role g.wth
  have hE : scoG ns rs g = if rs.any (eqS g.role) = false then 13 else if agrB g = true ∧ twoE rs g.role g.wth ≠ 0 then twoE rs g.role g.wth else firstE (scoT ns rs) g.data := rfl
  have hA : agrB g = (decide (g.kind = 2) || decide (g.kind = 3)) := rfl
  generalize scoG ns rs g = z at *
  generalize rs.any (eqS g.role) = b at *
  generalize twoE rs g.role g.wth = w at *
  generalize agrB g = ab at *
  refine pcQ res_scope_table_goal rfl (by simp [x_scope_table_goal]) fun fr hl ha => ?_
  have h0 := ha 0
  have h1 := ha 1
  clear ha
  simp [x_scope_table_goal] at hl h0 h1
  have key : ∀ (fr1 : Fr) (h : AH), z = firstE (scoT ns rs) g.data → fr1.length = 46 → look fr1 2 = .ptr 0 0 → look fr1 33 = sl g.dm 4 (tmVs g.data) → look fr1 34 = .int .i64 g.data.length → look fr1 35 = .int .i64 0 → (∃ b1, h.boxes = [[sl m 1 (rs.map .str), .vm (ns.map .str) (vs.map (.int .i64))], b1]) →
      Ends (lp (evalCode (lim Q) (ctxF n_scope_table_goal) x_scope_table_goal_0) (fr1, h)) (BL 0 (SQ (lim Q) (ctxF n_scope_table_goal) (.seq (.region false [⟨some 4, .mov (.c (.int .i64 0)), none⟩]) .ret) (FIN [.tmp 4] (.int .i64 z)))) := by
    rintro fr1 h rfl hl q2 q33 q34 q35 ⟨b1, hb⟩
    refine Ends.mono (hlp b1 fr1 h hb hl q2 q33 q34 q35) ?_
    rintro e fr2 h2 ⟨K, ⟨rfl, hz⟩ | ⟨rfl, k4⟩⟩
    · have hl2 : fr2.length = 46 := K.1.trans hl
      simp [hl2, hz]
    · simp [k4]
  cases b with
  | false =>
    rw [if_pos rfl] at hE
    simp [x_scope_table_goal, hl, h0, h1, hC, hE]
  | true =>
    rw [if_neg (by simp)] at hE
    have fin : ab = false ∨ w = 0 → z = firstE (scoT ns rs) g.data := by
      intro h
      rw [if_neg (by rintro ⟨a, b⟩; rcases h with h | h; simp [h] at a; exact b h)] at hE
      exact hE
    by_cases k2 : g.kind = 2
    · have ea : ab = true := by simp [hA, k2]
      by_cases hw : w = 0
      · simp [x_scope_table_goal, hl, h0, h1, hC, dec_t k2, hT, hw]
        exact key _ _ (fin (.inr hw)) (by simp [hl]) (by simp [hl]) (by simp [hl]) (by simp [hl]) (by simp [hl]) ⟨_, rfl⟩
      · rw [if_pos ⟨ea, hw⟩] at hE
        simp [x_scope_table_goal, hl, h0, h1, hC, dec_t k2, hT, hw, hE]
    · by_cases k3 : g.kind = 3
      · have ea : ab = true := by simp [hA, k3]
        by_cases hw : w = 0
        · simp [x_scope_table_goal, hl, h0, h1, hC, dec_f k2, dec_t k3, hT, hw]
          exact key _ _ (fin (.inr hw)) (by simp [hl]) (by simp [hl]) (by simp [hl]) (by simp [hl]) (by simp [hl]) ⟨_, rfl⟩
        · rw [if_pos ⟨ea, hw⟩] at hE
          simp [x_scope_table_goal, hl, h0, h1, hC, dec_f k2, dec_t k3, hT, hw, hE]
      · have ea : ab = false := by simp [hA, k2, k3]
        simp [x_scope_table_goal, hl, h0, h1, hC, dec_f k2, dec_f k3]
        exact key _ _ (fin (.inl ea)) (by simp [hl]) (by simp [hl]) (by simp [hl]) (by simp [hl]) (by simp [hl]) ⟨_, rfl⟩

theorem loop_Check1 (m : Bool × Bool) (rs ns : List ByteArray) (vs : List Int) (hr : rs.length ≤ 1048576) (m' : Bool × Bool) (l : List Ste) (hlen : l.length ≤ 1099511627776) (IH : ∀ s ∈ l, pc Q n_scope_table_term [.agg [sl m 1 (rs.map .str), .vm (ns.map .str) (vs.map (.int .i64))], tmV s.msg] = some (.int .i64 (scoT ns rs s.msg))) (A : List AV) (fr : Fr) (h : AH) (hh : h.boxes = [A, [sl m 1 (rs.map .str), .vm (ns.map .str) (vs.map (.int .i64))]]) (hl : fr.length = 66) (h6 : look fr 6 = .ptr 1 0) (h26 : look fr 26 = sl m' 7 (l.map stV)) (h27 : look fr 27 = .int .i64 l.length) (h28 : look fr 28 = .int .i64 0) :
    Ends (lp (evalCode (lim Q) (ctxF n_scope_Check) x_scope_Check_1) (fr, h)) fun e fr' h' => Kp x_scope_Check_1.wr fr fr' ∧ (e = .exit 0 ∧ lineE (scoS ns rs) Ste.line l = (0, 0) ∧ (∃ B, h'.boxes = A :: [sl m 1 (rs.map .str), .vm (ns.map .str) (vs.map (.int .i64))] :: B) ∨ e = .ret ∧ look fr' 2 = .int .i64 (lineE (scoS ns rs) Ste.line l).1 ∧ look fr' 3 = .int .i64 (lineE (scoS ns rs) Ste.line l).2 ∧ lineE (scoS ns rs) Ste.line l ≠ (0, 0)) := by
  refine Ends_lpw rfl fr (fun n fr h' => ∃ (i : Nat), i + n = l.length ∧ look fr 28 = .int .i64 (i : Nat) ∧ (∃ B, h'.boxes = A :: [sl m 1 (rs.map .str), .vm (ns.map .str) (vs.map (.int .i64))] :: B) ∧ lineE (scoS ns rs) Ste.line (l.drop i) = lineE (scoS ns rs) Ste.line l) ?_ l.length h ⟨0, by omega, h28, ⟨_, hh⟩, rfl⟩
  rintro J Φ hJ hΦ n fr1 H1 K ⟨i, hi, k28, hr⟩
  have hl1 : fr1.length = 66 := K.1.trans hl
  have k6 := (K.2 6 (by decide)).trans h6
  have k26 := (K.2 26 (by decide)).trans h26
  have k27 := (K.2 27 (by decide)).trans h27
  clear K
  by_cases hlt : i < l.length
  · have hwp : IntKind.i64.wrap ((i : Int) + 1) = (i : Int) + 1 := wrap_id (by omega) (by omega)
    obtain ⟨⟨B, hB⟩, hr⟩ := hr
    obtain ⟨bx, fams⟩ := H1
    simp only at hB
    subst hB
    have hx := nth_map (f := stV) (List.getElem?_eq_getElem hlt)
    have hI := IH l[i] (List.getElem_mem hlt)
    have hT := pc_two m rs (ns.map .str) (vs.map (.int .i64)) (by omega) l[i].frm l[i].to
    rw [List.drop_eq_getElem_cons hlt] at hr
    simp only [lineE] at hr
    have hE : scoS ns rs l[i] = if twoE rs l[i].frm l[i].to ≠ 0 then twoE rs l[i].frm l[i].to else scoT ns rs l[i].msg := rfl
    generalize l[i] = t at *
    generalize scoT ns rs t.msg = v at *
    generalize twoE rs t.frm t.to = w at *
    generalize scoS ns rs t = z at *
    generalize hgl : lineE (scoS ns rs) Ste.line l = L at *
    by_cases hw : w = 0
    · rw [if_neg (by simp [hw])] at hE
      subst hE
      by_cases hz : z = 0
      · rw [if_neg (by simp [hz])] at hr
        simp [x_scope_Check_1, hl1, k6, k26, k27, k28, hlt, hwp, hx, hT, hw, hI, hz]
        exact ⟨n - 1, by omega, hJ _ _ _ ⟨i + 1, by omega, by simp [hl1], ⟨_, rfl⟩, hr⟩⟩
      · rw [if_pos hz] at hr
        simp [x_scope_Check_1, hl1, k6, k26, k27, k28, hlt, hx, hT, hw, hI, hz]
        exact hΦ _ _ _ (.inr ⟨rfl, by simp [hl1, ← hr], by simp [hl1, ← hr], by simp [← hr, hz]⟩)
    · rw [if_pos hw] at hE
      rw [hE, if_pos hw] at hr
      simp [x_scope_Check_1, hl1, k6, k26, k27, k28, hlt, hx, hT, hw]
      exact hΦ _ _ _ (.inr ⟨rfl, by simp [hl1, ← hr], by simp [hl1, ← hr], by simp [← hr, hw]⟩)
  · obtain ⟨hh', hr⟩ := hr
    rw [List.drop_eq_nil_of_le (by omega)] at hr
    simp [x_scope_Check_1, hl1, k27, k28, hlt]
    exact hΦ _ _ _ (.inl ⟨rfl, hr.symm, hh'⟩)

theorem loop_Check0 (m : Bool × Bool) (rs ns : List ByteArray) (vs : List Int) (m' : Bool × Bool) (l : List Gol) (hlen : l.length ≤ 1099511627776) (IH : ∀ s ∈ l, pc Q n_scope_table_goal [.agg [sl m 1 (rs.map .str), .vm (ns.map .str) (vs.map (.int .i64))], goV s] = some (.int .i64 (scoG ns rs s))) (A : List AV) (fr : Fr) (h : AH) (hh : ∃ B, h.boxes = A :: [sl m 1 (rs.map .str), .vm (ns.map .str) (vs.map (.int .i64))] :: B) (hl : fr.length = 66) (h6 : look fr 6 = .ptr 1 0) (h51 : look fr 51 = sl m' 5 (l.map goV)) (h52 : look fr 52 = .int .i64 l.length) (h53 : look fr 53 = .int .i64 0) :
    Ends (lp (evalCode (lim Q) (ctxF n_scope_Check) x_scope_Check_0) (fr, h)) fun e fr' h' => Kp x_scope_Check_0.wr fr fr' ∧ (e = .exit 2 ∧ lineE (scoG ns rs) Gol.line l = (0, 0) ∨ e = .ret ∧ look fr' 2 = .int .i64 (lineE (scoG ns rs) Gol.line l).1 ∧ look fr' 3 = .int .i64 (lineE (scoG ns rs) Gol.line l).2) := by
  refine Ends_lpw rfl fr (fun n fr h' => ∃ (i : Nat), i + n = l.length ∧ look fr 53 = .int .i64 (i : Nat) ∧ (∃ B, h'.boxes = A :: [sl m 1 (rs.map .str), .vm (ns.map .str) (vs.map (.int .i64))] :: B) ∧ lineE (scoG ns rs) Gol.line (l.drop i) = lineE (scoG ns rs) Gol.line l) ?_ l.length h ⟨0, by omega, h53, hh, rfl⟩
  rintro J Φ hJ hΦ n fr1 H1 K ⟨i, hi, k53, hr⟩
  have hl1 : fr1.length = 66 := K.1.trans hl
  have k6 := (K.2 6 (by decide)).trans h6
  have k51 := (K.2 51 (by decide)).trans h51
  have k52 := (K.2 52 (by decide)).trans h52
  clear K
  by_cases hlt : i < l.length
  · have hwp : IntKind.i64.wrap ((i : Int) + 1) = (i : Int) + 1 := wrap_id (by omega) (by omega)
    obtain ⟨⟨B, hB⟩, hr⟩ := hr
    obtain ⟨bx, fams⟩ := H1
    simp only at hB
    subst hB
    have hx := nth_map (f := goV) (List.getElem?_eq_getElem hlt)
    have hI := IH l[i] (List.getElem_mem hlt)
    rw [List.drop_eq_getElem_cons hlt] at hr
    simp only [lineE] at hr
    generalize l[i] = t at *
    generalize scoG ns rs t = z at *
    generalize hgl : lineE (scoG ns rs) Gol.line l = L at *
    by_cases hz : z = 0
    · rw [if_neg (by simp [hz])] at hr
      simp [x_scope_Check_0, hl1, k6, k51, k52, k53, hlt, hwp, hx, hI, hz]
      exact ⟨n - 1, by omega, hJ _ _ _ ⟨i + 1, by omega, by simp [hl1], ⟨_, rfl⟩, hr⟩⟩
    · rw [if_pos hz] at hr
      simp [x_scope_Check_0, hl1, k6, k51, k52, k53, hlt, hx, hI, hz]
      exact hΦ _ _ _ (.inr ⟨rfl, by simp [hl1, ← hr], by simp [hl1, ← hr]⟩)
  · obtain ⟨hh', hr⟩ := hr
    rw [List.drop_eq_nil_of_le (by omega)] at hr
    simp [x_scope_Check_0, hl1, k52, k53, hlt]
    exact hΦ _ _ _ (.inl ⟨rfl, hr.symm⟩)

theorem namesN_len (n : Nar) : (namesN n).length = (sortsN n).length := by simp [namesN, sortsN]

theorem pc_scoCheck (n : Nar) (F : Fine n) (hS : n.roles.length + n.fresh.length + n.tags.length ≤ 1048576) : pc Q n_scope_Check [narV n] = some (.tup [.int .i64 (scoE n).1, .int .i64 (scoE n).2]) := by
  have hV := pc_narValid n F
  have hD := pc_declared n hS
  have l1 := F.stepsL
  have l2 := F.goalsL
  have fs := F.steps
  have fg := F.goals
  have hT : ∀ t : Tm, t.size ≤ 1099511627776 → pc Q n_scope_table_term [tabV n.rm n, tmV t] = some (.int .i64 (scoT (namesN n) n.roles t)) := fun t ht => pc_term n.rm n.roles (namesN n) (sortsN n) (by omega) (namesN_len n) _ t (Nat.le_refl _) ht
  have hG : ∀ g : Gol, Tm.sizes g.data ≤ 1099511627776 → pc Q n_scope_table_goal [tabV n.rm n, goV g] = some (.int .i64 (scoG (namesN n) n.roles g)) := fun g hg => pc_sgoal n.rm n.roles (namesN n) (sortsN n) (by omega) (namesN_len n) g hg
  have hE : scoE n = if narE n ≠ 0 then (0, narE n) else if decE n ≠ 0 then (0, decE n)
    else if lineE (scoS (namesN n) n.roles) Ste.line n.steps ≠ (0, 0) then lineE (scoS (namesN n) n.roles) Ste.line n.steps else lineE (scoG (namesN n) n.roles) Gol.line n.goals := rfl
  have hN : decE n = 0 → pc Q n_scope_names [narV n] = some (tabV n.rm n) := pc_scopeNames n hS
  unfold tabV at hT hG hN
  generalize scoE n = z at *
  generalize narE n = e1 at *
  generalize decE n = e2 at *
  generalize namesN n = ns at *
  generalize sortsN n = vs at *
  clear F
  obtain ⟨name, rm, roles, fm, fresh, tm, tags, sm, steps, gm, goals⟩ := n
  simp only at *
  have q1 := loop_Check1 rm roles ns vs (by omega) sm steps l1 (fun s hs => hT _ (fs s hs).2.2) [.str name, sl rm 1 (roles.map .str), sl fm 3 (fresh.map frV), sl tm 1 (tags.map .str), sl sm 7 (steps.map stV), sl gm 5 (goals.map goV)]
  have q2 := loop_Check0 rm roles ns vs gm goals l2 (fun g hg => hG g (fg g hg).2.2) [.str name, sl rm 1 (roles.map .str), sl fm 3 (fresh.map frV), sl tm 1 (tags.map .str), sl sm 7 (steps.map stV), sl gm 5 (goals.map goV)]
  clear hT hG
  generalize lineE (scoS ns roles) Ste.line steps = L1 at *
  generalize lineE (scoG ns roles) Gol.line goals = L2 at *
  refine pcQ res_scope_Check rfl (by simp [x_scope_Check]) fun fr hl ha => ?_
  have h0 := ha 0
  clear ha
  simp [x_scope_Check, narV] at hl h0
  simp only [narV] at hV hD hN
  by_cases z1 : e1 = 0
  · rw [if_neg (by simp [z1])] at hE
    by_cases z2 : e2 = 0
    · rw [if_neg (by simp [z2])] at hE
      have hN := hN z2
      generalize hU : ns.map AV.str = U at *
      generalize hW : vs.map (AV.int .i64) = W at *
      simp [x_scope_Check, hl, h0, hV, z1, hD, z2, hN]
      refine Ends.mono (q1 _ _ ?_ ?_ ?_ ?_ ?_ ?_) ?_ <;> first | (simp [hl]; done) | skip
      rintro e fr1 ⟨bx, fams⟩ ⟨K, ⟨rfl, hz, B, hB⟩ | ⟨rfl, k2, k3, hz⟩⟩
      · simp only at hB
        subst hB
        have hlfr1 : fr1.length = 66 := K.1.trans (by simp [hl])
        have k1fr1 : look fr1 1 = .ptr 0 0 := (K.2 1 (by decide)).trans (by simp [hl])
        have k6fr1 : look fr1 6 = .ptr 1 0 := (K.2 6 (by decide)).trans (by simp [hl])
        clear K
        rw [if_neg (by simp [hz])] at hE
        simp [hlfr1, k1fr1]
        refine Ends.mono (q2 _ _ ?_ ?_ ?_ ?_ ?_ ?_) ?_ <;> first | (simp [hlfr1, k6fr1]; done) | skip
        rintro e fr2 h2 ⟨K, ⟨rfl, hz⟩ | ⟨rfl, k2, k3⟩⟩
        · have hlfr2 : fr2.length = 66 := K.1.trans (by simp [hlfr1])
          clear K
          simp [hlfr2, hE, hz]
        · simp [k2, k3, hE]
      · rw [if_pos hz] at hE
        simp [k2, k3, hE]
    · rw [if_pos z2] at hE
      simp [x_scope_Check, hl, h0, hV, z1, hD, z2, hE]
  · rw [if_pos z1] at hE
    simp [x_scope_Check, hl, h0, hV, z1, hE]
end Go.Abs.Q

/- Contracts: terms with sorts (program). -/
namespace Go.Abs.Q
open Go.Proofs
attribute [local simp] look_set_ne look_set_eq fin tupled code_loop raw_scope_changed raw_scope_Resolve_1 rawv_scope_changed raw_slices_Clone_string raw_slices_Clone_Term raw_slices_Clone_Fresh raw_slices_Clone_Step raw_slices_Clone_Goal

/-- The sort of a name. -/
def lookS (ns : List ByteArray) (vs : List Int) (a : ByteArray) : Int := if ns.any (eqS a) = true then vs.getD (idx (eqS a) ns).toNat 0 else 0
mutual
/-- A term with sorts; it is forgotten how its lists lie. -/
def srtT (f : ByteArray → Int) : Tm → Tm
  | .mk k nm s _ l => .mk k nm (if k = 2 then f nm else s) (false, false) (srtTs f l)
def srtTs (f : ByteArray → Int) : List Tm → List Tm
  | [] => []
  | t :: l => srtT f t :: srtTs f l
end
mutual
def erT : Tm → Tm
  | .mk k nm s _ l => .mk k nm s (false, false) (erTs l)
def erTs : List Tm → List Tm
  | [] => []
  | t :: l => erT t :: erTs l
end
theorem srtTs_map (f : ByteArray → Int) (l : List Tm) : srtTs f l = l.map (srtT f) := by
  induction l with
  | nil => rfl
  | cons t l ih => simp [srtTs, ih]
theorem erTs_map (l : List Tm) : erTs l = l.map erT := by
  induction l with
  | nil => rfl
  | cons t l ih => simp [erTs, ih]
theorem vm_look1 (ns : List ByteArray) (vs : List Int) (hkv : ns.length = vs.length) (h : AH) (a : ByteArray) :
    mlookA true false (.int .i64 0) h (.vm (ns.map .str) (vs.map (.int .i64))) (.str a) = some (.int .i64 (lookS ns vs a), h) := by
  cases hk : ns.any (eqS a) with
  | false => simp [mlookA, keyOk, mapEnts, findK_none a ns 0 hk, lookS, hk]
  | true =>
    have hge := (idxFrom_ge (eqS a) ns 0).2 hk
    have hlt := idxFrom_lt (eqS a) ns 0
    have hi : (idxFrom (eqS a) 0 ns).toNat < vs.length := by omega
    simp [mlookA, keyOk, mapEnts, findK_some a ns 0 hk, hi, lookS, hk, idx]

theorem rc_setSort (ns : List ByteArray) (vs : List Int) (hkv : ns.length = vs.length) (r x0 x2 x3 : AV) (nm : ByteArray) (h : AH) (hb : h.boxes[0]? = some [x0, .str nm, x2, x3]) :
    ∃ w h', rc Q n_scope_Resolve_1 [.ptr 0 0, .pv [r, .vm (ns.map .str) (vs.map (.int .i64))]] h = some (w, h') ∧ w = .tup [] ∧ h' = { h with boxes := h.boxes.set 0 [x0, .str nm, .int .i64 (lookS ns vs nm), x3] } := by
  have hM := vm_look1 ns vs hkv h nm
  have hlt := getq_lt hb
  refine rcQ res_scope_Resolve_1 (by simp [x_scope_Resolve_1]) fun fr hl ha => ?_
  have h0 := ha 0
  have h1 := ha 1
  clear ha
  simp [x_scope_Resolve_1] at hl h0 h1
  simp [x_scope_Resolve_1, hl, h0, h1, hb, hM]

def byF (r : AV) (ns : List ByteArray) (vs : List Int) : AV := .fn n_scope_Resolve_1 [.pv [r, .vm (ns.map .str) (vs.map (.int .i64))]]
@[simp] theorem byF_frz (h : AH) (am : Bool) (r : AV) (ns : List ByteArray) (vs : List Int) : frz h am (byF r ns vs) = some (byF r ns vs) := rfl
@[simp] theorem byF_tame (h : AH) (r : AV) (ns : List ByteArray) (vs : List Int) : tame h (byF r ns vs) = true := rfl
def zT : AV := .agg [.int .i64 0, .str (bs []), .int .i64 0, .vs true 0 []]

theorem loop_changed (by' : AV) (f : ByteArray → Int) (m : Bool × Bool) (l : List Tm) (hlen : l.length ≤ 1099511627776) (hby : ∀ h am, frz h am by' = some by') (hby2 : ∀ h, tame h by' = true) (IH : ∀ t ∈ l, ∃ t', pc Q n_scope_changed [tmV t, by'] = some (tmV t') ∧ erT t' = srtT f t) (A C : List AV) (fr : Fr) (h : AH) (hh : h = ⟨[A, C], [⟨List.replicate l.length zT, 4, true⟩]⟩) (hl : fr.length = 36) (h1 : look fr 1 = by') (h5 : look fr 5 = .sl 0 l.length 0 l.length) (h19 : look fr 19 = sl m 4 (tmVs l)) (h20 : look fr 20 = .int .i64 l.length) (h21 : look fr 21 = .int .i64 0) :
    Ends (lp (evalCode (lim Q) (ctxF n_scope_changed) x_scope_changed_0) (fr, h)) fun e fr' h' => Kp x_scope_changed_0.wr fr fr' ∧ e = .exit 0 ∧ ∃ B done, h' = ⟨A :: C :: B, [⟨tmVs done, 4, true⟩]⟩ ∧ erTs done = srtTs f l ∧ done.length = l.length := by
  refine Ends_lpw rfl fr (fun n fr h' => ∃ (i : Nat), i + n = l.length ∧ look fr 21 = .int .i64 (i : Nat) ∧ (∃ B done, h' = ⟨A :: C :: B, [⟨tmVs done ++ List.replicate (l.length - i) zT, 4, true⟩]⟩ ∧ erTs done = srtTs f (l.take i) ∧ done.length = i)) ?_ l.length h ⟨0, by omega, h21, ⟨[], [], by simp [hh, tmVs], by simp [erTs, srtTs], rfl⟩⟩
  rintro J Φ hJ hΦ n fr1 H1 K ⟨i, hi, k21, hr⟩
  have hl1 : fr1.length = 36 := K.1.trans hl
  have k1 := (K.2 1 (by decide)).trans h1
  have k5 := (K.2 5 (by decide)).trans h5
  have k19 := (K.2 19 (by decide)).trans h19
  have k20 := (K.2 20 (by decide)).trans h20
  clear K
  by_cases hlt : i < l.length
  · have hwp : IntKind.i64.wrap ((i : Int) + 1) = (i : Int) + 1 := wrap_id (by omega) (by omega)
    obtain ⟨B, done, rfl, hd, hdl⟩ := hr
    have hx := nth_tm hlt
    obtain ⟨t', hI, ht⟩ := IH l[i] (List.getElem_mem hlt)
    have e1 : l.length - i = (l.length - (i + 1)) + 1 := by omega
    have e2 : erTs (done ++ [t']) = srtTs f (l.take (i + 1)) := by
      rw [List.take_succ_eq_append_getElem hlt, erTs_map, List.map_append, ← erTs_map, hd, srtTs_map, srtTs_map, List.map_append, List.map_cons, List.map_nil, List.map_cons, List.map_nil, ht]
    have e3 : (tmVs done ++ List.replicate (l.length - i) zT).set i (tmV t') = tmVs (done ++ [t']) ++ List.replicate (l.length - (i + 1)) zT := by
      rw [e1, List.replicate_succ, List.set_append_right _ _ (by simp [hdl]), tmVs_app1]
      simp [hdl]
    have e4 : (tmVs done ++ List.replicate (l.length - i) zT)[i]? = some zT := by
      rw [e1, List.replicate_succ, List.getElem?_append_right (by simp [hdl])]
      simp [hdl]
    have e5 : (tmVs done ++ List.replicate (l.length - i) zT).length = l.length := by simp [hdl]; omega
    clear ht hd
    generalize l[i] = t at *
    generalize tmVs done ++ List.replicate (l.length - i) zT = X at *
    have e6 : (AV.agg [.int .i64 t'.kind, .str t'.name, .int .i64 t'.sort, sl t'.cm 4 (tmVs t'.kids)]) = tmV t' := tm_agg t'
    obtain ⟨_, e7⟩ := List.getElem?_eq_some_iff.1 e4
    simp [x_scope_changed_0, hl1, k1, k5, k19, k20, k21, hlt, hwp, hx, hI, hby, hby2, e7, e5, zT, AV.reform]
    exact ⟨n - 1, by omega, hJ _ _ _ ⟨i + 1, by omega, by simp [hl1], ⟨_, done ++ [t'], by rw [e3], e2, by simp [hdl]⟩⟩⟩
  · obtain ⟨B, done, rfl, hd, hdl⟩ := hr
    have e : i = l.length := by omega
    subst e
    rw [List.take_length] at hd
    simp [x_scope_changed_0, hl1, k20, k21]
    exact hΦ _ _ _ ⟨rfl, B, done, by simp, hd, hdl⟩

theorem pc_changed (r : AV) (hr : r.flat = true) (ns : List ByteArray) (vs : List Int) (hkv : ns.length = vs.length) : ∀ (n : Nat) (t : Tm), t.size ≤ n → t.size ≤ 1099511627776 → nodesE t = 0 → ∃ t', pc Q n_scope_changed [tmV t, byF r ns vs] = some (tmV t') ∧ erT t' = srtT (lookS ns vs) t := by
  intro n
  induction n with
  | zero => intro t h; have := t.size_pos; omega
  | succ n ih =>
    intro t hn hb hne
    obtain ⟨k, nm, s, m, kids⟩ := t
    have hsz : Tm.size (.mk k nm s m kids) = 1 + Tm.sizes kids := rfl
    have hlen := Tm.length_le kids
    obtain ⟨hne1, hne2⟩ := nodes_kids hne
    have hnb := (nodeE_name hne1).2.1
    have hlp := loop_changed (byF r ns vs) (lookS ns vs) m kids (by omega) (fun _ _ => rfl) (fun _ => rfl) (fun t ht => ih t (by have := Tm.size_le ht; omega) (by have := Tm.size_le ht; omega) (nodesEs_mem hne2 t ht))
    suffices h : ∃ v, pc Q n_scope_changed [tmV (.mk k nm s m kids), byF r ns vs] = some v ∧ ∃ t', v = tmV t' ∧ erT t' = srtT (lookS ns vs) (.mk k nm s m kids) by
      obtain ⟨v, h1, t', rfl, h2⟩ := h
      exact ⟨t', h1, h2⟩
    refine pc_ends_ex (C := Q) ((Q_spec _).trans rfl) ((Q_code _).trans res_scope_changed) (by simp [x_scope_changed]) fun Ψ hΨ fr hl ha => ?_
    rw [Q_ctx]
    have h0 := ha 0
    have h1 := ha 1
    clear ha
    simp [x_scope_changed, tmV] at hl h0 h1
    by_cases hk : k = 2
    · have hkd : kids = [] := List.eq_nil_of_length_eq_zero (hnb (.inr hk))
      have hS := fun (h : AH) (hb : h.boxes[0]? = some [.int .i64 k, .str nm, .int .i64 s, sl m 4 (tmVs kids)]) => rc_setSort ns vs hkv r _ _ _ nm h hb
      obtain ⟨w, h', q1, q2, q3⟩ := hS ⟨[[.int .i64 k, .str nm, .int .i64 s, sl m 4 (tmVs kids)], [.int .i64 0, .str (bs []), .int .i64 0, .vs true 0 []]], []⟩ rfl
      simp only [List.set_cons_zero] at q3
      subst q2 q3
      simp [x_scope_changed, hl, h0, h1, byF, dec_t hk, q1]
      exact hΨ _ ⟨.mk k nm (lookS ns vs nm) m kids, rfl, by subst hkd; simp [erT, erTs, srtT, srtTs, hk]⟩
    · have r1 : (kids.length : Int) * 56 ≤ (roomA : Int) ∧ kids.length ≤ maxLen := by simp only [roomA, maxLen]; omega
      simp [x_scope_changed, hl, h0, dec_f hk, r1]
      refine Ends.mono (hlp [.int .i64 k, .str nm, .int .i64 s, sl m 4 (tmVs kids)] [.int .i64 0, .str (bs []), .int .i64 0, .vs true 0 []] _ _ ?_ ?_ ?_ ?_ ?_ ?_ ?_) ?_ <;> first | (simp [hl, h1]; done) | rfl | skip
      rintro e fr1 h1 ⟨K, rfl, B, done, rfl, hd, hdl⟩
      have hlfr1 : fr1.length = 36 := K.1.trans (by simp [hl])
      have k2fr1 : look fr1 2 = .ptr 0 0 := (K.2 2 (by decide)).trans (by simp [hl])
      have k4fr1 : look fr1 4 = .ptr 1 0 := (K.2 4 (by decide)).trans (by simp [hl])
      have k5fr1 : look fr1 5 = .sl 0 kids.length 0 kids.length := (K.2 5 (by decide)).trans (by simp [hl])
      clear K
      have e1 : List.take kids.length (tmVs done) = tmVs done := List.take_of_length_le (by simp [hdl])
      simp [hlfr1, k2fr1, k4fr1, k5fr1, e1, hdl]
      exact hΨ _ ⟨.mk k nm s (false, true) done, rfl, by simp [erT, srtT, hk, hd]⟩
end Go.Abs.Q

/- Contracts: copies of lists (program). -/
namespace Go.Abs.Q
open Go.Proofs
attribute [local simp] look_set_ne look_set_eq fin tupled code_loop raw_slices_Clone_string raw_slices_Clone_Term raw_slices_Clone_Fresh raw_slices_Clone_Step raw_slices_Clone_Goal nqA_sl

/-- A row that may be written to, of the elements of a list; the k-th one, if the list isn't empty. -/
def Row (k sz : Nat) (xs : List AV) (v : AV) (h : AH) : Prop := (xs = [] ∧ ∃ b, v = sl (true, b) sz []) ∨ (xs ≠ [] ∧ v = .sl k xs.length 0 xs.length ∧ h.fams[k]? = some ⟨xs, sz, true⟩)
@[simp] theorem frzRes_view (h : AH) (k n off len : Nat) : frzRes h (.sl k n off len) = frz1 h true (.sl k n off len) := rfl
@[simp] theorem frzRes_nilv (h : AH) : frzRes h (.vs true 0 []) = some (.vs true 0 []) := rfl
theorem Row_cells {k sz : Nat} {xs : List AV} {v : AV} {h : AH} (hg : Row k sz xs v h) : v.isTup = false ∧ v.cells = [v] ∧ isMB [v] = false := by
  rcases hg with ⟨_, b, rfl⟩ | ⟨_, rfl, _⟩ <;> exact ⟨rfl, rfl, rfl⟩
theorem Row_len {k sz : Nat} {xs : List AV} {v : AV} {h : AH} (hg : Row k sz xs v h) (h' : AH) : lenA h' v = some (.int .i64 xs.length, h') := by
  rcases hg with ⟨rfl, b, rfl⟩ | ⟨_, rfl, _⟩
  · simp
  · rfl
theorem Row_frz {k sz : Nat} {xs : List AV} {v : AV} {h : AH} (hg : Row k sz xs v h) : ∃ m, frz1 h true v = some (sl m sz xs) ∧ frz h true v = some (sl m sz xs) := by
  rcases hg with ⟨rfl, b, rfl⟩ | ⟨_, rfl, hk⟩
  · exact ⟨_, sl_frz1 _ _ _ _ _, sl_frz _ _ _ _ _⟩
  · have : frz1 h true (.sl k xs.length 0 xs.length) = some (sl (false, true) sz xs) := by
      rw [frz1_view, hk, Option.bind_some, if_pos ⟨rfl, by omega, rfl⟩]
      simp
    exact ⟨_, this, this⟩

theorem pc_Clonestring (m : Bool × Bool) (xs : List AV) (hxl : xs.length ≤ 1048576) : ∃ m', pc Q n_slices_Clone_string [sl m 1 xs] = some (sl m' 1 xs) := by
  suffices h : ∃ r, pc Q n_slices_Clone_string [sl m 1 xs] = some r ∧ ∃ m', r = sl m' 1 xs by
    obtain ⟨r, h1, m', rfl⟩ := h
    exact ⟨m', h1⟩
  have hr : xs.length * 16 ≤ roomA ∧ xs.length ≤ maxLen := by simp only [roomA, maxLen]; omega
  refine pc_ends_ex (C := Q) ((Q_spec _).trans rfl) ((Q_code _).trans res_slices_Clone_string) (by simp [x_slices_Clone_string]) fun Ψ hΨ fr hl ha => ?_
  rw [Q_ctx]
  have h0 := ha 0
  clear ha
  simp [x_slices_Clone_string] at hl h0
  by_cases he : xs = []
  · subst he
    obtain ⟨m1, m2⟩ := m
    cases m2 with
    | false =>
      simp [x_slices_Clone_string, hl, h0]
      exact hΨ _ ⟨(true, false), sl_nil 1⟩
    | true =>
      simp [x_slices_Clone_string, hl, h0, app_sl, sliceParts]
      exact hΨ _ ⟨_, rfl⟩
  · have he' : xs.isEmpty = false := by simpa using he
    simp [x_slices_Clone_string, hl, h0, he', app_sl, sliceParts, he, hr, frzRes_view]
    exact hΨ _ ⟨_, rfl⟩

theorem pc_CloneFresh (m : Bool × Bool) (xs : List AV) (hxl : xs.length ≤ 1048576) : ∃ m', pc Q n_slices_Clone_Fresh [sl m 3 xs] = some (sl m' 3 xs) := by
  suffices h : ∃ r, pc Q n_slices_Clone_Fresh [sl m 3 xs] = some r ∧ ∃ m', r = sl m' 3 xs by
    obtain ⟨r, h1, m', rfl⟩ := h
    exact ⟨m', h1⟩
  have hr : xs.length * 40 ≤ roomA ∧ xs.length ≤ maxLen := by simp only [roomA, maxLen]; omega
  refine pc_ends_ex (C := Q) ((Q_spec _).trans rfl) ((Q_code _).trans res_slices_Clone_Fresh) (by simp [x_slices_Clone_Fresh]) fun Ψ hΨ fr hl ha => ?_
  rw [Q_ctx]
  have h0 := ha 0
  clear ha
  simp [x_slices_Clone_Fresh] at hl h0
  by_cases he : xs = []
  · subst he
    obtain ⟨m1, m2⟩ := m
    cases m2 with
    | false =>
      simp [x_slices_Clone_Fresh, hl, h0]
      exact hΨ _ ⟨(true, false), sl_nil 3⟩
    | true =>
      simp [x_slices_Clone_Fresh, hl, h0, app_sl, sliceParts]
      exact hΨ _ ⟨_, rfl⟩
  · have he' : xs.isEmpty = false := by simpa using he
    simp [x_slices_Clone_Fresh, hl, h0, he', app_sl, sliceParts, he, hr, frzRes_view]
    exact hΨ _ ⟨_, rfl⟩

theorem rc_CloneTerm (m : Bool × Bool) (xs : List AV) (hxl : xs.length ≤ 1048576) (h : AH) : ∃ w h', rc Q n_slices_Clone_Term [sl m 4 xs] h = some (w, h') ∧ Row h.fams.length 4 xs w h' ∧ h'.boxes = h.boxes ∧ ∃ e, h'.fams = h.fams ++ e := by
  have hr : xs.length * 56 ≤ roomA ∧ xs.length ≤ maxLen := by simp only [roomA, maxLen]; omega
  suffices hq : ∃ w h', rc Q n_slices_Clone_Term [sl m 4 xs] h = some (w, h') ∧ ∀ Ψ : AV → AH → Prop, (∀ w h', Row h.fams.length 4 xs w h' ∧ h'.boxes = h.boxes ∧ (∃ e, h'.fams = h.fams ++ e) → Ψ w h') → Ψ w h' by
    obtain ⟨w, h', h1, h2⟩ := hq
    exact ⟨w, h', h1, h2 _ fun _ _ h => h⟩
  refine rcQ res_slices_Clone_Term (by simp [x_slices_Clone_Term]) fun fr hl ha => ?_
  have h0 := ha 0
  clear ha
  simp [x_slices_Clone_Term] at hl h0
  by_cases he : xs = []
  · subst he
    obtain ⟨m1, m2⟩ := m
    cases m2 with
    | false =>
      simp [x_slices_Clone_Term, hl, h0]
      exact fun Ψ hΨ => hΨ _ _ (.inl ⟨rfl, false, sl_nil 4⟩) rfl [] (by simp)
    | true =>
      simp [x_slices_Clone_Term, hl, h0, app_sl, sliceParts]
      exact fun Ψ hΨ => hΨ _ _ (.inl ⟨rfl, true, rfl⟩) rfl [] (by simp)
  · have he' : xs.isEmpty = false := by simpa using he
    simp [x_slices_Clone_Term, hl, h0, he', app_sl, sliceParts, he, hr, show mutF n_slices_Clone_Term = true from rfl]
    exact fun Ψ hΨ => hΨ _ _ (.inr ⟨he, rfl, by simp⟩) rfl _ rfl

theorem rc_CloneStep (m : Bool × Bool) (xs : List AV) (hxl : xs.length ≤ 1048576) (h : AH) : ∃ w h', rc Q n_slices_Clone_Step [sl m 7 xs] h = some (w, h') ∧ Row h.fams.length 7 xs w h' ∧ h'.boxes = h.boxes ∧ ∃ e, h'.fams = h.fams ++ e := by
  have hr : xs.length * 96 ≤ roomA ∧ xs.length ≤ maxLen := by simp only [roomA, maxLen]; omega
  suffices hq : ∃ w h', rc Q n_slices_Clone_Step [sl m 7 xs] h = some (w, h') ∧ ∀ Ψ : AV → AH → Prop, (∀ w h', Row h.fams.length 7 xs w h' ∧ h'.boxes = h.boxes ∧ (∃ e, h'.fams = h.fams ++ e) → Ψ w h') → Ψ w h' by
    obtain ⟨w, h', h1, h2⟩ := hq
    exact ⟨w, h', h1, h2 _ fun _ _ h => h⟩
  refine rcQ res_slices_Clone_Step (by simp [x_slices_Clone_Step]) fun fr hl ha => ?_
  have h0 := ha 0
  clear ha
  simp [x_slices_Clone_Step] at hl h0
  by_cases he : xs = []
  · subst he
    obtain ⟨m1, m2⟩ := m
    cases m2 with
    | false =>
      simp [x_slices_Clone_Step, hl, h0]
      exact fun Ψ hΨ => hΨ _ _ (.inl ⟨rfl, false, sl_nil 7⟩) rfl [] (by simp)
    | true =>
      simp [x_slices_Clone_Step, hl, h0, app_sl, sliceParts]
      exact fun Ψ hΨ => hΨ _ _ (.inl ⟨rfl, true, rfl⟩) rfl [] (by simp)
  · have he' : xs.isEmpty = false := by simpa using he
    simp [x_slices_Clone_Step, hl, h0, he', app_sl, sliceParts, he, hr, show mutF n_slices_Clone_Step = true from rfl]
    exact fun Ψ hΨ => hΨ _ _ (.inr ⟨he, rfl, by simp⟩) rfl _ rfl

theorem rc_CloneGoal (m : Bool × Bool) (xs : List AV) (hxl : xs.length ≤ 1048576) (h : AH) : ∃ w h', rc Q n_slices_Clone_Goal [sl m 5 xs] h = some (w, h') ∧ Row h.fams.length 5 xs w h' ∧ h'.boxes = h.boxes ∧ ∃ e, h'.fams = h.fams ++ e := by
  have hr : xs.length * 72 ≤ roomA ∧ xs.length ≤ maxLen := by simp only [roomA, maxLen]; omega
  suffices hq : ∃ w h', rc Q n_slices_Clone_Goal [sl m 5 xs] h = some (w, h') ∧ ∀ Ψ : AV → AH → Prop, (∀ w h', Row h.fams.length 5 xs w h' ∧ h'.boxes = h.boxes ∧ (∃ e, h'.fams = h.fams ++ e) → Ψ w h') → Ψ w h' by
    obtain ⟨w, h', h1, h2⟩ := hq
    exact ⟨w, h', h1, h2 _ fun _ _ h => h⟩
  refine rcQ res_slices_Clone_Goal (by simp [x_slices_Clone_Goal]) fun fr hl ha => ?_
  have h0 := ha 0
  clear ha
  simp [x_slices_Clone_Goal] at hl h0
  by_cases he : xs = []
  · subst he
    obtain ⟨m1, m2⟩ := m
    cases m2 with
    | false =>
      simp [x_slices_Clone_Goal, hl, h0]
      exact fun Ψ hΨ => hΨ _ _ (.inl ⟨rfl, false, sl_nil 5⟩) rfl [] (by simp)
    | true =>
      simp [x_slices_Clone_Goal, hl, h0, app_sl, sliceParts]
      exact fun Ψ hΨ => hΨ _ _ (.inl ⟨rfl, true, rfl⟩) rfl [] (by simp)
  · have he' : xs.isEmpty = false := by simpa using he
    simp [x_slices_Clone_Goal, hl, h0, he', app_sl, sliceParts, he, hr, show mutF n_slices_Clone_Goal = true from rfl]
    exact fun Ψ hΨ => hΨ _ _ (.inr ⟨he, rfl, by simp⟩) rfl _ rfl
end Go.Abs.Q

/- Contracts: narrations with sorts (program). -/
namespace Go.Abs.Q
open Go.Proofs
attribute [local simp] look_set_ne look_set_eq fin tupled code_loop raw_scope_all raw_scope_changed raw_slices_Clone_string raw_slices_Clone_Term raw_slices_Clone_Fresh raw_slices_Clone_Step raw_slices_Clone_Goal

@[simp] theorem kpB_t' (B : List (List AV)) (f f' : List Fam) (v : AV) : kpB true ⟨B, f⟩ (some (v, ⟨B, f'⟩)) = some (v, ⟨B, f'⟩) := kpB_t ⟨B, f⟩ v f'
@[simp] theorem st_reform (s : Ste) (cs : List AV) : (stV s).reform cs = some (.agg cs) := rfl
@[simp] theorem go_reform (s : Gol) (cs : List AV) : (goV s).reform cs = some (.agg cs) := rfl
@[simp] theorem tm_reform (s : Tm) (cs : List AV) : (tmV s).reform cs = some (.agg cs) := by cases s; rfl
theorem st_mk (a b : ByteArray) (t : Tm) (c : Int) : AV.agg [.str a, .str b, .int .i64 t.kind, .str t.name, .int .i64 t.sort, sl t.cm 4 (tmVs t.kids), .int .i64 c] = stV ⟨a, b, t, c⟩ := by cases t; rfl
def erS (s : Ste) : Ste := ⟨s.frm, s.to, erT s.msg, s.line⟩
def srtS (f : ByteArray → Int) (s : Ste) : Ste := ⟨s.frm, s.to, srtT f s.msg, s.line⟩
def erG (g : Gol) : Gol := ⟨g.kind, g.role, g.wth, (false, false), erTs g.data, g.line⟩
def srtG (f : ByteArray → Int) (g : Gol) : Gol := ⟨g.kind, g.role, g.wth, (false, false), srtTs f g.data, g.line⟩

theorem mid_get {α β : Type} (g : α → β) (done l : List α) {i : Nat} (hi : i < l.length) (hd : done.length = i) : ∃ h : i < ((done ++ l.drop i).map g).length, ((done ++ l.drop i).map g)[i] = g l[i] ∧ ((done ++ l.drop i).map g).length = l.length := by
  have e : (done ++ l.drop i).length = l.length := by simp [hd]; omega
  refine ⟨by simp [hd]; omega, ?_, by simpa using e⟩
  simp [hd, List.getElem_append_right]
theorem mid_set {α β : Type} (g : α → β) (done l : List α) {i : Nat} (hi : i < l.length) (hd : done.length = i) (x : α) : ((done ++ l.drop i).map g).set i (g x) = ((done ++ [x]) ++ l.drop (i + 1)).map g := by
  rw [List.drop_eq_getElem_cons hi, ← List.map_set, List.set_append_right _ _ (by omega), hd, Nat.sub_self, List.set_cons_zero, List.append_assoc, List.singleton_append]

theorem set_same {α : Type} {l : List α} {k : Nat} {x : α} (h : l[k]? = some x) : l.set k x = l := by
  obtain ⟨h1, h2⟩ := List.getElem?_eq_some_iff.1 h
  subst h2
  exact List.set_getElem_self h1

theorem loop_all2 (by' : AV) (f : ByteArray → Int) (l : List Ste) (hlen : l.length ≤ 1048576) (hby : ∀ h am, frz h am by' = some by') (hby2 : ∀ h, tame h by' = true) (IH : ∀ s ∈ l, ∃ t', pc Q n_scope_changed [tmV s.msg, by'] = some (tmV t') ∧ erT t' = srtT f s.msg) (k : Nat) (b0 b1 b2 b3 b5 : AV) (C : List AV) (fr : Fr) (h : AH) (hh : h.boxes = [[b0, b1, b2, b3, .sl k l.length 0 l.length, b5], C]) (hfam : h.fams[k]? = some ⟨l.map stV, 7, true⟩) (hl : fr.length = 85) (h1 : look fr 1 = by') (h2 : look fr 2 = .ptr 0 0) (h31 : look fr 31 = .int .i64 l.length) (h32 : look fr 32 = .int .i64 0) :
    Ends (lp (evalCode (lim Q) (ctxF n_scope_all) x_scope_all_2) (fr, h)) fun e fr' h' => Kp x_scope_all_2.wr fr fr' ∧ e = .exit 0 ∧ ∃ done : List Ste, h' = ⟨h.boxes, h.fams.set k ⟨done.map stV, 7, true⟩⟩ ∧ done.map erS = l.map (srtS f) ∧ done.length = l.length := by
  refine Ends_lpw rfl fr (fun n fr h' => ∃ (i : Nat), i + n = l.length ∧ look fr 32 = .int .i64 (i : Nat) ∧ (∃ done : List Ste, h' = ⟨h.boxes, h.fams.set k ⟨(done ++ l.drop i).map stV, 7, true⟩⟩ ∧ done.map erS = (l.take i).map (srtS f) ∧ done.length = i)) ?_ l.length h ⟨0, by omega, h32, ⟨[], by simp [set_same hfam], rfl, rfl⟩⟩
  rintro J Φ hJ hΦ n fr1 H1 K ⟨i, hi, k32, hr⟩
  have hl1 : fr1.length = 85 := K.1.trans hl
  have k1 := (K.2 1 (by decide)).trans h1
  have k2 := (K.2 2 (by decide)).trans h2
  have k31 := (K.2 31 (by decide)).trans h31
  clear K
  by_cases hlt : i < l.length
  · have hwp : IntKind.i64.wrap ((i : Int) + 1) = (i : Int) + 1 := wrap_id (by omega) (by omega)
    obtain ⟨done, rfl, hd, hdl⟩ := hr
    obtain ⟨t', hI, ht⟩ := IH l[i] (List.getElem_mem hlt)
    obtain ⟨q1, q2, q3⟩ := mid_get stV done l hlt hdl
    have q4 := mid_set stV done l hlt hdl ⟨l[i].frm, l[i].to, t', l[i].line⟩
    have e2 : (done ++ [Ste.mk l[i].frm l[i].to t' l[i].line]).map erS = (l.take (i + 1)).map (srtS f) := by
      rw [List.take_succ_eq_append_getElem hlt, List.map_append, hd, List.map_append, List.map_cons, List.map_nil, List.map_cons, List.map_nil]
      simp only [erS, ht, srtS]
    have hkl := getq_lt hfam
    have e6 := st_mk l[i].frm l[i].to t' l[i].line
    rw [hh] at hJ ⊢
    clear hd ht
    generalize (done ++ l.drop i).map stV = X at *
    generalize hY : (done ++ [Ste.mk l[i].frm l[i].to t' l[i].line] ++ l.drop (i + 1)).map stV = Y at *
    generalize l[i] = s at *
    simp [x_scope_all_2, hl1, k1, k2, k31, k32, hlt, hwp, hI, hby, hby2, q2, q3, q4, e6, hkl]
    exact ⟨n - 1, by omega, hJ _ _ _ ⟨i + 1, by omega, by simp [hl1], ⟨_, by rw [hY], e2, by simp [hdl]⟩⟩⟩
  · obtain ⟨done, rfl, hd, hdl⟩ := hr
    have e : i = l.length := by omega
    subst e
    rw [List.take_length] at hd
    rw [List.drop_length, List.append_nil]
    simp [x_scope_all_2, hl1, k31, k32]
    exact hΦ _ _ _ ⟨rfl, done, rfl, hd, hdl⟩

theorem loop_all0 (by' : AV) (f : ByteArray → Int) (l : List Tm) (hlen : l.length ≤ 1048576) (hby : ∀ h am, frz h am by' = some by') (hby2 : ∀ h, tame h by' = true) (IH : ∀ s ∈ l, ∃ t', pc Q n_scope_changed [tmV s, by'] = some (tmV t') ∧ erT t' = srtT f s) (k : Nat) (fr : Fr) (h : AH) (hfam : h.fams[k]? = some ⟨tmVs l, 4, true⟩) (hl : fr.length = 85) (h1 : look fr 1 = by') (h7 : look fr 7 = .sl k l.length 0 l.length) (h63 : look fr 63 = .int .i64 l.length) (h64 : look fr 64 = .int .i64 0) :
    Ends (lp (evalCode (lim Q) (ctxF n_scope_all) x_scope_all_0) (fr, h)) fun e fr' h' => Kp x_scope_all_0.wr fr fr' ∧ e = .exit 4 ∧ ∃ done : List Tm, h' = ⟨h.boxes, h.fams.set k ⟨tmVs done, 4, true⟩⟩ ∧ erTs done = srtTs f l ∧ done.length = l.length := by
  refine Ends_lpw rfl fr (fun n fr h' => ∃ (i : Nat), i + n = l.length ∧ look fr 64 = .int .i64 (i : Nat) ∧ (∃ done : List Tm, h' = ⟨h.boxes, h.fams.set k ⟨(done ++ l.drop i).map tmV, 4, true⟩⟩ ∧ erTs done = srtTs f (l.take i) ∧ done.length = i)) ?_ l.length h ⟨0, by omega, h64, ⟨[], by simp [set_same hfam, ← tmVs_map], by simp [erTs, srtTs], rfl⟩⟩
  rintro J Φ hJ hΦ n fr1 H1 K ⟨i, hi, k64, hr⟩
  have hl1 : fr1.length = 85 := K.1.trans hl
  have k1 := (K.2 1 (by decide)).trans h1
  have k7 := (K.2 7 (by decide)).trans h7
  have k63 := (K.2 63 (by decide)).trans h63
  clear K
  by_cases hlt : i < l.length
  · have hwp : IntKind.i64.wrap ((i : Int) + 1) = (i : Int) + 1 := wrap_id (by omega) (by omega)
    obtain ⟨done, rfl, hd, hdl⟩ := hr
    obtain ⟨t', hI, ht⟩ := IH l[i] (List.getElem_mem hlt)
    obtain ⟨q1, q2, q3⟩ := mid_get tmV done l hlt hdl
    have q4 := mid_set tmV done l hlt hdl t'
    have e2 : erTs (done ++ [t']) = srtTs f (l.take (i + 1)) := by
      rw [List.take_succ_eq_append_getElem hlt, erTs_map, List.map_append, ← erTs_map, hd, srtTs_map, srtTs_map, List.map_append, List.map_cons, List.map_nil, List.map_cons, List.map_nil, ht]
    have hkl := getq_lt hfam
    clear hd ht
    generalize (done ++ l.drop i).map tmV = X at *
    generalize hY : (done ++ [t'] ++ l.drop (i + 1)).map tmV = Y at *
    generalize l[i] = s at *
    simp [x_scope_all_0, hl1, k1, k7, k63, k64, hlt, hwp, hI, hby, hby2, q2, q3, q4, hkl]
    exact ⟨n - 1, by omega, hJ _ _ _ ⟨i + 1, by omega, by simp [hl1], ⟨_, by rw [hY], e2, by simp [hdl]⟩⟩⟩
  · obtain ⟨done, rfl, hd, hdl⟩ := hr
    have e : i = l.length := by omega
    subst e
    rw [List.take_length] at hd
    rw [List.drop_length, List.append_nil, ← tmVs_map]
    simp [x_scope_all_0, hl1, k63, k64]
    exact hΦ _ _ _ ⟨rfl, done, rfl, hd, hdl⟩

theorem all0_nil (fr : Fr) (h : AH) (hl : fr.length = 85) (h63 : look fr 63 = .int .i64 0) (h64 : look fr 64 = .int .i64 0) :
    Ends (lp (evalCode (lim Q) (ctxF n_scope_all) x_scope_all_0) (fr, h)) fun e fr' h' => Kp x_scope_all_0.wr fr fr' ∧ e = .exit 4 ∧ h' = h := by
  refine Ends_lpw rfl fr (fun n fr' h' => fr' = fr ∧ h' = h) ?_ 0 h ⟨rfl, rfl⟩
  rintro J Φ hJ hΦ n fr1 H1 K ⟨rfl, rfl⟩
  simp [x_scope_all_0, hl, h63, h64]
  exact hΦ _ _ _ ⟨rfl, rfl⟩
end Go.Abs.Q

/- Contracts: narrations with sorts (program). -/
namespace Go.Abs.Q
open Go.Proofs
attribute [local simp] look_set_ne look_set_eq fin tupled code_loop raw_scope_all raw_scope_changed raw_slices_Clone_string raw_slices_Clone_Term raw_slices_Clone_Fresh raw_slices_Clone_Step raw_slices_Clone_Goal

theorem go_mk (a : Int) (b c : ByteArray) (m : Bool × Bool) (l : List Tm) (d : Int) : AV.agg [.int .i64 a, .str b, .str c, sl m 4 (tmVs l), .int .i64 d] = goV ⟨a, b, c, m, l, d⟩ := rfl
theorem store_view {h : AH} {kd kg i m : Nat} {dd : List Tm} {X : List AV} {g : Gol} (h1 : h.fams[kd]? = some ⟨tmVs dd, 4, true⟩) (h2 : h.fams[kg]? = some ⟨X, 5, true⟩) (hne : kd ≠ kg) (hm : X.length = m) (hx : X[i]? = some (goV g)) :
    storeA h 1 (.sl kd dd.length 0 dd.length) (.ep kg m i 3 5) = some ⟨h.boxes, (h.fams.set kd ⟨tmVs dd, 4, false⟩).set kg ⟨X.set i (goV ⟨g.kind, g.role, g.wth, (false, true), dd, g.line⟩), 5, true⟩⟩ := by
  have hk := getq_lt h1
  have hl : layH h (.sl kd dd.length 0 dd.length) = some ⟨h.boxes, h.fams.set kd ⟨tmVs dd, 4, false⟩⟩ := by
    simp [layH, frz_view, frz1_view, h1, rstF]
  have hf : frz ⟨h.boxes, h.fams.set kd ⟨tmVs dd, 4, false⟩⟩ false (.sl kd dd.length 0 dd.length) = some (sl (false, true) 4 (tmVs dd)) := by
    rw [frz_view, frz1_view]
    simp only
    rw [List.getElem?_set_self hk, Option.bind_some, if_pos ⟨by simp, by omega, rfl⟩, List.drop_zero, List.take_of_length_le (by simp)]
  rw [storeA_ep, hl, Option.bind_some]
  simp only
  rw [List.getElem?_set_ne hne, h2, Option.bind_some, if_pos ⟨hm, rfl, rfl⟩]
  simp only
  rw [hx, Option.bind_some, hf, Option.bind_some]
  simp [go_mk]
theorem store_empty {h : AH} {kg i m : Nat} {b : Bool} {X : List AV} {g : Gol} (h2 : h.fams[kg]? = some ⟨X, 5, true⟩) (hm : X.length = m) (hx : X[i]? = some (goV g)) :
    storeA h 1 (sl (true, b) 4 []) (.ep kg m i 3 5) = some ⟨h.boxes, h.fams.set kg ⟨X.set i (goV ⟨g.kind, g.role, g.wth, (true, b), [], g.line⟩), 5, true⟩⟩ := by
  rw [storeA_ep]
  simp only [layH, sl_frz, Option.bind_some]
  rw [h2, Option.bind_some, if_pos ⟨hm, rfl, rfl⟩]
  simp only
  rw [hx, Option.bind_some]
  have e := go_mk g.kind g.role g.wth (true, b) [] g.line
  rw [show tmVs [] = [] from rfl] at e
  simp [e]

theorem loop_all1 (by' : AV) (f : ByteArray → Int) (l : List Gol) (hlen : l.length ≤ 1048576) (hdl : ∀ g ∈ l, g.data.length ≤ 1048576) (hby : ∀ h am, frz h am by' = some by') (hby2 : ∀ h, tame h by' = true) (IH : ∀ g ∈ l, ∀ t ∈ g.data, ∃ t', pc Q n_scope_changed [tmV t, by'] = some (tmV t') ∧ erT t' = srtT f t) (kg : Nat) (b0 b1 b2 b3 b4 : AV) (C : List AV) (fr : Fr) (h : AH) (hh : h.boxes = [[b0, b1, b2, b3, b4, .sl kg l.length 0 l.length], C]) (hfam : h.fams[kg]? = some ⟨l.map goV, 5, true⟩) (hl : fr.length = 85) (h1 : look fr 1 = by') (h2 : look fr 2 = .ptr 0 0) (h51 : look fr 51 = .int .i64 l.length) (h52 : look fr 52 = .int .i64 0) :
    Ends (lp (evalCode (lim Q) (ctxF n_scope_all) x_scope_all_1) (fr, h)) fun e fr' h' => Kp x_scope_all_1.wr fr fr' ∧ e = .exit 2 ∧ ∃ (F : List Fam) (done : List Gol), h' = ⟨h.boxes, F⟩ ∧ F[kg]? = some ⟨done.map goV, 5, true⟩ ∧ (∀ j, j ≠ kg → j < h.fams.length → F[j]? = h.fams[j]?) ∧ done.map erG = l.map (srtG f) ∧ done.length = l.length := by
  refine Ends_lpw rfl fr (fun n fr h' => ∃ (i : Nat), i + n = l.length ∧ look fr 52 = .int .i64 (i : Nat) ∧ (∃ (F : List Fam) (done : List Gol), h' = ⟨h.boxes, F⟩ ∧ F[kg]? = some ⟨(done ++ l.drop i).map goV, 5, true⟩ ∧ (∀ j, j ≠ kg → j < h.fams.length → F[j]? = h.fams[j]?) ∧ h.fams.length ≤ F.length ∧ done.map erG = (l.take i).map (srtG f) ∧ done.length = i)) ?_ l.length h ⟨0, by omega, h52, ⟨_, [], rfl, by simpa using hfam, fun _ _ _ => rfl, Nat.le_refl _, rfl, rfl⟩⟩
  rintro J Φ hJ hΦ n fr1 H1 K ⟨i, hi, k52, hr⟩
  have hl1 : fr1.length = 85 := K.1.trans hl
  have k1 := (K.2 1 (by decide)).trans h1
  have k2 := (K.2 2 (by decide)).trans h2
  have k51 := (K.2 51 (by decide)).trans h51
  clear K
  by_cases hlt : i < l.length
  · have hwp : IntKind.i64.wrap ((i : Int) + 1) = (i : Int) + 1 := wrap_id (by omega) (by omega)
    obtain ⟨F, done, rfl, hF, hFo, hFl, hd, hdn⟩ := hr
    obtain ⟨q1, q2, q3⟩ := mid_get goV done l hlt hdn
    have hq2 := List.getElem?_eq_some_iff.2 ⟨q1, q2⟩
    have hkg := getq_lt hF
    have hkg0 := getq_lt hfam
    obtain ⟨w, ⟨bx, F1⟩, hC, hRow, hbx, e, hFe⟩ := rc_CloneTerm l[i].dm (tmVs l[i].data) (by have := hdl l[i] (List.getElem_mem hlt); simpa using this) ⟨h.boxes, F⟩
    simp only at hbx hFe
    subst hbx
    have hF1 : F1[kg]? = some ⟨(done ++ l.drop i).map goV, 5, true⟩ := by rw [hFe, List.getElem?_append_left hkg]; exact hF
    have hF1o : ∀ j, j ≠ kg → j < h.fams.length → F1[j]? = h.fams[j]? := fun j h1 h2 => by rw [hFe, List.getElem?_append_left (by omega)]; exact hFo j h1 h2
    have hF1l : h.fams.length ≤ F1.length := by rw [hFe]; simp; omega
    have hlen7 : ∀ h', lenA h' w = some (.int .i64 l[i].data.length, h') := fun h' => by have := Row_len hRow h'; simpa using this
    have hIH := IH l[i] (List.getElem_mem hlt)
    have hdl' := hdl l[i] (List.getElem_mem hlt)
    have q4 := fun g' : Gol => mid_set goV done l hlt hdn g'
    have fin : ∀ g' : Gol, erG g' = srtG f l[i] → (done ++ [g']).map erG = (l.take (i + 1)).map (srtG f) := by
      intro g' he
      rw [List.take_succ_eq_append_getElem hlt, List.map_append, hd, List.map_append, List.map_cons, List.map_nil, List.map_cons, List.map_nil, he]
    rw [hh] at hC hJ ⊢
    clear hd hFe hFo
    generalize hX : (done ++ l.drop i).map goV = X at *
    generalize l[i] = g at *
    by_cases hnil : g.data = []
    · obtain ⟨-, b, rfl⟩ : tmVs g.data = [] ∧ ∃ b, w = sl (true, b) 4 [] := by
        rcases hRow with h | ⟨h, _⟩
        · exact h
        · rw [hnil] at h
          exact absurd rfl h
      have hSt := store_empty (h := ⟨[[b0, b1, b2, b3, b4, .sl kg l.length 0 l.length], C], F1⟩) (b := b) hF1 q3 hq2
      simp [x_scope_all_1, hl1, k2, k51, k52, hlt, hF, q2, q3, hC, hlen7]
      rw [hnil]
      refine Ends.mono (all0_nil _ _ ?_ ?_ ?_) ?_ <;> first | (simp [hl1]; done) | skip
      rintro e fr2 h2 ⟨K, rfl, rfl⟩
      have hlfr2 : fr2.length = 85 := K.1.trans (by simp [hl1])
      have k2fr2 : look fr2 2 = .ptr 0 0 := (K.2 2 (by decide)).trans (by simp [k2])
      have k6fr2 : look fr2 6 = .int .i64 (i : Nat) := (K.2 6 (by decide)).trans (by simp [hl1])
      have k7fr2 : look fr2 7 = sl (true, b) 4 [] := (K.2 7 (by decide)).trans (by simp [hl1])
      have k52fr2 : look fr2 52 = .int .i64 (i : Nat) := (K.2 52 (by decide)).trans (by simp [k52])
      clear K
      simp [hlfr2, k2fr2, k6fr2, k7fr2, k52fr2, hlt, hSt, hwp, -storeA_ep]
      exact ⟨n - 1, by omega, hJ _ _ _ ⟨i + 1, by omega, by simp [hlfr2], _, done ++ [⟨g.kind, g.role, g.wth, (true, b), [], g.line⟩], rfl, by rw [List.getElem?_set_self (getq_lt hF1), q4], fun j h1 h2 => by rw [List.getElem?_set_ne (Ne.symm h1)]; exact hF1o j h1 h2, by simpa using hF1l, fin _ (by simp [erG, srtG, hnil, erTs, srtTs]), by simp [hdn]⟩⟩
    · obtain ⟨rfl, hkd⟩ : w = .sl F.length g.data.length 0 g.data.length ∧ F1[F.length]? = some ⟨tmVs g.data, 4, true⟩ := by
        rcases hRow with ⟨h, _⟩ | ⟨_, h, h'⟩
        · rw [tmVs_map, List.map_eq_nil_iff] at h
          exact absurd h hnil
        · exact ⟨by simpa using h, h'⟩
      have hne : F.length ≠ kg := by omega
      simp [x_scope_all_1, hl1, k2, k51, k52, hlt, hF, q2, q3, hC, hlen7]
      refine Ends.mono (loop_all0 by' f g.data hdl' hby hby2 hIH F.length _ _ ?_ ?_ ?_ ?_ ?_ ?_) ?_ <;> first | (simp [hl1, k1]; done) | skip
      · exact hkd
      rintro e fr2 h2 ⟨K, rfl, dd, rfl, hdd, hddl⟩
      have hlfr2 : fr2.length = 85 := K.1.trans (by simp [hl1])
      have k2fr2 : look fr2 2 = .ptr 0 0 := (K.2 2 (by decide)).trans (by simp [k2])
      have k6fr2 : look fr2 6 = .int .i64 (i : Nat) := (K.2 6 (by decide)).trans (by simp [hl1])
      have k7fr2 : look fr2 7 = .sl F.length g.data.length 0 g.data.length := (K.2 7 (by decide)).trans (by simp [hl1])
      have k52fr2 : look fr2 52 = .int .i64 (i : Nat) := (K.2 52 (by decide)).trans (by simp [k52])
      clear K
      have hkdl := getq_lt hkd
      have hSt := store_view (h := ⟨[[b0, b1, b2, b3, b4, .sl kg l.length 0 l.length], C], F1.set F.length ⟨tmVs dd, 4, true⟩⟩) (kd := F.length) (dd := dd) (List.getElem?_set_self hkdl) (by simp only; rw [List.getElem?_set_ne hne]; exact hF1) hne q3 hq2
      rw [hddl] at hSt
      simp only [List.set_set] at hSt
      simp [hlfr2, k2fr2, k6fr2, k7fr2, k52fr2, hlt, hSt, hwp, -storeA_ep]
      exact ⟨n - 1, by omega, hJ _ _ _ ⟨i + 1, by omega, by simp [hlfr2], _, done ++ [⟨g.kind, g.role, g.wth, (false, true), dd, g.line⟩], rfl, by rw [List.getElem?_set_self (by simpa using getq_lt hF1), q4], fun j h1 h2 => by rw [List.getElem?_set_ne (Ne.symm h1), List.getElem?_set_ne (by omega)]; exact hF1o j h1 h2, by simpa using hF1l, fin _ (by simp [erG, srtG, hdd]), by simp [hdn]⟩⟩
  · obtain ⟨F, done, rfl, hF, hFo, hFl, hd, hdn⟩ := hr
    have e : i = l.length := by omega
    subst e
    rw [List.take_length] at hd
    rw [List.drop_length, List.append_nil] at hF
    simp [x_scope_all_1, hl1, k51, k52]
    exact hΦ _ _ _ ⟨rfl, F, done, rfl, hF, hFo, hd, hdn⟩
end Go.Abs.Q

/- Contracts: narrations with sorts (program). -/
namespace Go.Abs.Q
open Go.Proofs
attribute [local simp] look_set_ne look_set_eq fin tupled code_loop raw_scope_all raw_scope_changed raw_slices_Clone_string raw_slices_Clone_Term raw_slices_Clone_Fresh raw_slices_Clone_Step raw_slices_Clone_Goal raw_scope_Check raw_scope_names ro_scope_Resolve

def erN (n : Nar) : Nar := ⟨n.name, (false, false), n.roles, (false, false), n.fresh, (false, false), n.tags, (false, false), n.steps.map erS, (false, false), n.goals.map erG⟩
def srtN (f : ByteArray → Int) (n : Nar) : Nar := ⟨n.name, (false, false), n.roles, (false, false), n.fresh, (false, false), n.tags, (false, false), n.steps.map (srtS f), (false, false), n.goals.map (srtG f)⟩

theorem all1_nil (fr : Fr) (h : AH) (hl : fr.length = 85) (h51 : look fr 51 = .int .i64 0) (h52 : look fr 52 = .int .i64 0) :
    Ends (lp (evalCode (lim Q) (ctxF n_scope_all) x_scope_all_1) (fr, h)) fun e fr' h' => Kp x_scope_all_1.wr fr fr' ∧ e = .exit 2 ∧ h' = h := by
  refine Ends_lpw rfl fr (fun n fr' h' => fr' = fr ∧ h' = h) ?_ 0 h ⟨rfl, rfl⟩
  rintro J Φ hJ hΦ n fr1 H1 K ⟨rfl, rfl⟩
  simp [x_scope_all_1, hl, h51, h52]
  exact hΦ _ _ _ ⟨rfl, rfl⟩
theorem frz_row {h : AH} {k sz : Nat} {xs : List AV} {b : Bool} (hk : h.fams[k]? = some ⟨xs, sz, b⟩) {n : Nat} (hn : xs.length = n) : frz1 h true (.sl k n 0 n) = some (sl (false, true) sz xs) := by
  rw [frz1_view, hk, Option.bind_some, if_pos ⟨hn, by omega, rfl⟩, List.drop_zero, List.take_of_length_le (by simp [hn])]

/-- How long the lists of a narration are. -/
structure Lens (n : Nar) : Prop where
  names : n.roles.length + n.fresh.length + n.tags.length ≤ 1048576
  steps : n.steps.length ≤ 1048576
  goals : n.goals.length ≤ 1048576
  data : ∀ g ∈ n.goals, g.data.length ≤ 1048576

theorem pc_all (n : Nar) (hS : Lens n) (hne : n.steps ≠ []) (r : AV) (ns : List ByteArray) (vs : List Int) (f : ByteArray → Int)
    (IH1 : ∀ s ∈ n.steps, ∃ t', pc Q n_scope_changed [tmV s.msg, byF r ns vs] = some (tmV t') ∧ erT t' = srtT f s.msg) (IH2 : ∀ g ∈ n.goals, ∀ t ∈ g.data, ∃ t', pc Q n_scope_changed [tmV t, byF r ns vs] = some (tmV t') ∧ erT t' = srtT f t) :
    ∃ n', pc Q n_scope_all [narV n, byF r ns vs] = some (narV n') ∧ erN n' = srtN f n := by
  suffices h : ∃ v, pc Q n_scope_all [narV n, byF r ns vs] = some v ∧ ∃ n', v = narV n' ∧ erN n' = srtN f n by
    obtain ⟨v, h1, n', rfl, h2⟩ := h
    exact ⟨n', h1, h2⟩
  obtain ⟨s0, s1, s2, s3⟩ := hS
  obtain ⟨name, rm, roles, fm, fresh, tm, tags, sm, steps, gm, goals⟩ := n
  simp only at *
  obtain ⟨m1, c1⟩ := pc_Clonestring rm (roles.map .str) (by simp; omega)
  obtain ⟨m2, c2⟩ := pc_CloneFresh fm (fresh.map frV) (by simp; omega)
  obtain ⟨m3, c3⟩ := pc_Clonestring tm (tags.map .str) (by simp; omega)
  obtain ⟨w1, ⟨B1, F1⟩, c4, r4, hb4, e4, f4⟩ := rc_CloneStep sm (steps.map stV) (by simpa using s1) ⟨[[.str name, sl m1 1 (roles.map .str), sl m2 3 (fresh.map frV), sl m3 1 (tags.map .str), sl sm 7 (steps.map stV), sl gm 5 (goals.map goV)], [.str (bs []), .vs true 0 [], .vs true 0 [], .vs true 0 [], .vs true 0 [], .vs true 0 []]], []⟩
  simp only at hb4 f4
  subst hb4
  obtain ⟨w2, ⟨B2, F2⟩, c5, r5, hb5, e5, f5⟩ := rc_CloneGoal gm (goals.map goV) (by simpa using s2) ⟨[[.str name, sl m1 1 (roles.map .str), sl m2 3 (fresh.map frV), sl m3 1 (tags.map .str), sl sm 7 (steps.map stV), sl gm 5 (goals.map goV)], [.str (bs []), .vs true 0 [], .vs true 0 [], .vs true 0 [], .vs true 0 [], .vs true 0 []]], F1⟩
  simp only at hb5 f5
  subst hb5
  obtain ⟨rfl, hF1⟩ : w1 = .sl 0 steps.length 0 steps.length ∧ F1[0]? = some ⟨steps.map stV, 7, true⟩ := by
    rcases r4 with ⟨h, _⟩ | ⟨_, h, h'⟩
    · rw [List.map_eq_nil_iff] at h
      exact absurd h hne
    · exact ⟨by simpa using h, by simpa using h'⟩
  have hF2 : F2[0]? = some ⟨steps.map stV, 7, true⟩ := by rw [f5, List.getElem?_append_left (getq_lt hF1)]; exact hF1
  have hw2 := Row_cells r5
  have hn2 : ∀ h', lenA h' w2 = some (.int .i64 goals.length, h') := fun h' => by have := Row_len r5 h'; simpa using this
  have g1 := loop_all2 (byF r ns vs) f steps s1 (fun _ _ => rfl) (fun _ => rfl) IH1 0 (.str name) (sl m1 1 (roles.map .str)) (sl m2 3 (fresh.map frV)) (sl m3 1 (tags.map .str)) w2 [.str (bs []), .vs true 0 [], .vs true 0 [], .vs true 0 [], .vs true 0 [], .vs true 0 []]
  refine pc_ends_ex (C := Q) ((Q_spec _).trans rfl) ((Q_code _).trans res_scope_all) (by simp [x_scope_all]) fun Ψ hΨ fr hl ha => ?_
  rw [Q_ctx]
  have h0 := ha 0
  have h1 := ha 1
  clear ha
  simp [x_scope_all, narV] at hl h0 h1
  simp [x_scope_all, hl, h0, c1, c2, c3, c4, c5, hw2]
  refine Ends.mono (g1 _ _ ?_ ?_ ?_ ?_ ?_ ?_ ?_) ?_ <;> first | (simp [hl, h1]; done) | skip
  · exact hF2
  rintro e fr1 h1' ⟨K, rfl, S, rfl, hS1, hS2⟩
  have hlfr1 : fr1.length = 85 := K.1.trans (by simp [hl])
  have k1fr1 : look fr1 1 = byF r ns vs := (K.2 1 (by decide)).trans (by simp [h1])
  have k2fr1 : look fr1 2 = .ptr 0 0 := (K.2 2 (by decide)).trans (by simp [hl])
  have k4fr1 : look fr1 4 = .ptr 1 0 := (K.2 4 (by decide)).trans (by simp [hl])
  clear K
  simp [hlfr1, k2fr1, hn2]
  have hFz : (F2.set 0 ⟨S.map stV, 7, true⟩)[0]? = some ⟨S.map stV, 7, true⟩ := List.getElem?_set_self (getq_lt hF2)
  by_cases hg : goals = []
  · subst hg
    obtain ⟨-, b, rfl⟩ : ([] : List Gol).map goV = [] ∧ ∃ b, w2 = sl (true, b) 5 [] := by
      rcases r5 with h | ⟨h, _⟩
      · exact h
      · exact absurd rfl h
    refine Ends.mono (all1_nil _ _ ?_ ?_ ?_) ?_ <;> first | (simp [hlfr1]; done) | skip
    rintro e fr2 h2 ⟨K, rfl, rfl⟩
    have hlfr2 : fr2.length = 85 := K.1.trans (by simp [hlfr1])
    have k2fr2 : look fr2 2 = .ptr 0 0 := (K.2 2 (by decide)).trans (by simp [k2fr1])
    have k4fr2 : look fr2 4 = .ptr 1 0 := (K.2 4 (by decide)).trans (by simp [k4fr1])
    clear K
    have hz := fun B : List (List AV) => frz_row (h := ⟨B, F2.set 0 ⟨S.map stV, 7, true⟩⟩) hFz (n := steps.length) (by simpa using hS2)
    simp [hlfr2, k2fr2, k4fr2, hz]
    exact hΨ _ ⟨⟨name, m1, roles, m2, fresh, m3, tags, (false, true), S, (true, b), []⟩, rfl, by simp [erN, srtN, hS1]⟩
  · obtain ⟨rfl, hF2g⟩ : w2 = .sl F1.length goals.length 0 goals.length ∧ F2[F1.length]? = some ⟨goals.map goV, 5, true⟩ := by
      rcases r5 with ⟨h, _⟩ | ⟨_, h, h'⟩
      · rw [List.map_eq_nil_iff] at h
        exact absurd h hg
      · exact ⟨by simpa using h, h'⟩
    have h0F : 0 < F1.length := getq_lt hF1
    have hFg : (F2.set 0 ⟨S.map stV, 7, true⟩)[F1.length]? = some ⟨goals.map goV, 5, true⟩ := by rw [List.getElem?_set_ne (by omega)]; exact hF2g
    refine Ends.mono (loop_all1 (byF r ns vs) f goals s2 s3 (fun _ _ => rfl) (fun _ => rfl) IH2 F1.length (.str name) (sl m1 1 (roles.map .str)) (sl m2 3 (fresh.map frV)) (sl m3 1 (tags.map .str)) (.sl 0 steps.length 0 steps.length) [.str (bs []), .vs true 0 [], .vs true 0 [], .vs true 0 [], .vs true 0 [], .vs true 0 []] _ _ ?_ ?_ ?_ ?_ ?_ ?_ ?_) ?_ <;> first | (simp [hlfr1, k1fr1, k2fr1]; done) | skip
    · exact hFg
    rintro e fr2 h2 ⟨K, rfl, F, G, rfl, hG1, hG2, hG3, hG4⟩
    have hlfr2 : fr2.length = 85 := K.1.trans (by simp [hlfr1])
    have k2fr2 : look fr2 2 = .ptr 0 0 := (K.2 2 (by decide)).trans (by simp [k2fr1])
    have k4fr2 : look fr2 4 = .ptr 1 0 := (K.2 4 (by decide)).trans (by simp [k4fr1])
    clear K
    have hFs := hG2 0 (by omega) (by simpa using getq_lt hF2)
    rw [hFz] at hFs
    have hz := fun B : List (List AV) => frz_row (h := ⟨B, F⟩) hFs (n := steps.length) (by simpa using hS2)
    have hz2 := fun B : List (List AV) => frz_row (h := ⟨B, F⟩) hG1 (n := goals.length) (by simpa using hG4)
    simp [hlfr2, k2fr2, k4fr2, hz, hz2]
    exact hΨ _ ⟨⟨name, m1, roles, m2, fresh, m3, tags, (false, true), S, (false, true), G⟩, rfl, by simp [erN, srtN, hS1, hG3]⟩
end Go.Abs.Q

namespace Go.Abs.Q
open Go.Proofs
attribute [local simp] look_set_ne look_set_eq fin tupled code_loop raw_scope_all raw_scope_Check raw_scope_names raw_scope_Resolve ro_scope_Resolve

theorem valid_nodes {t : Tm} (h : validT t = 0) : nodesE t = 0 := by
  unfold validT at h
  apply Classical.byContradiction
  intro hv
  rw [if_pos hv] at h
  exact hv h
theorem msg_nodes {t : Tm} (h : msgE t = 0) : nodesE t = 0 := by
  refine valid_nodes ?_
  unfold msgE rawTE at h
  apply Classical.byContradiction
  intro hv
  rw [if_pos hv, if_pos hv] at h
  exact hv h
theorem narE_zero {n : Nar} (h : narE n = 0) : headE n = 0 ∧ (∀ s ∈ n.steps, steE s = 0) ∧ ∀ g ∈ n.goals, golE g = 0 := by
  unfold narE at h
  by_cases h1 : headE n = 0
  · rw [if_neg (by simp [h1])] at h
    by_cases h2 : firstE steE n.steps = 0
    · rw [if_neg (by simp [h2])] at h
      exact ⟨h1, firstE_zero h2, firstE_zero h⟩
    · rw [if_pos h2] at h
      exact absurd h h2
  · rw [if_pos h1] at h
    exact absurd h h1
theorem head_steps {n : Nar} (h : headE n = 0) : n.steps ≠ [] ∧ numE n = 0 := by
  have hn : numE n = 0 := by
    unfold headE at h
    by_cases h1 : lexN n.name = false
    · rw [if_pos h1] at h; omega
    · rw [if_neg h1] at h
      apply Classical.byContradiction
      intro h2
      rw [if_pos h2] at h
      exact h2 h
  refine ⟨fun e => ?_, hn⟩
  unfold numE at hn
  rw [e] at hn
  split at hn
  · omega
  · split at hn
    · omega
    · simp at hn
theorem ste_msg {s : Ste} (h : steE s = 0) : msgE s.msg = 0 := by
  unfold steE at h
  split at h
  · omega
  · exact h
theorem gol_data {g : Gol} (h : golE g = 0) : ∀ t ∈ g.data, msgE t = 0 := by
  unfold golE at h
  split at h
  · omega
  · split at h
    · omega
    · split at h
      · omega
      · split at h
        · omega
        · exact firstE_zero h
theorem lineE_zero {α : Type} {g ln : α → Int} : ∀ {l : List α}, (lineE g ln l).2 = 0 → lineE g ln l = (0, 0) ∧ ∀ a ∈ l, g a = 0
  | [], _ => ⟨rfl, fun a h => by cases h⟩
  | a :: l, h => by
    simp only [lineE] at h ⊢
    by_cases hz : g a = 0
    · rw [if_neg (by simp [hz])] at h ⊢
      obtain ⟨h1, h2⟩ := lineE_zero h
      exact ⟨h1, fun b hb => by rcases List.mem_cons.1 hb with rfl | hb; exact hz; exact h2 b hb⟩
    · rw [if_pos hz] at h
      exact absurd h hz
/-- A narration that is right in its scope. -/
structure Right (n : Nar) : Prop where
  nar : narE n = 0
  dec : decE n = 0
  steps : ∀ s ∈ n.steps, scoS (namesN n) n.roles s = 0
  goals : ∀ g ∈ n.goals, scoG (namesN n) n.roles g = 0
theorem scoE_zero {n : Nar} (h : (scoE n).2 = 0) : scoE n = (0, 0) ∧ Right n := by
  unfold scoE at h ⊢
  by_cases h1 : narE n = 0
  · rw [if_neg (by simp [h1])] at h ⊢
    by_cases h2 : decE n = 0
    · rw [if_neg (by simp [h2])] at h ⊢
      by_cases h3 : lineE (scoS (namesN n) n.roles) Ste.line n.steps = (0, 0)
      · rw [if_neg (by simp [h3])] at h ⊢
        obtain ⟨q1, q2⟩ := lineE_zero h
        exact ⟨q1, h1, h2, (lineE_zero (by rw [h3])).2, q2⟩
      · rw [if_pos h3] at h
        exact absurd (lineE_zero h).1 h3
    · rw [if_pos h2] at h
      exact absurd h h2
  · rw [if_pos h1] at h
    exact absurd h h1

@[simp] theorem frz_fnpv (h : AH) (am : Bool) (f : FuncId) (cs : List AV) : frz h am (.fn f [.pv cs]) = some (.fn f [.pv cs]) := rfl
@[simp] theorem tame_fn (h : AH) (f : FuncId) (cs : List AV) : tame h (.fn f cs) = true := rfl
def noN : Nar := ⟨bs [], (true, false), [], (true, false), [], (true, false), [], (true, false), [], (true, false), []⟩
theorem noN_eq : AV.agg [.str (bs []), sl (true, false) 1 [], sl (true, false) 1 [], sl (true, false) 1 [], sl (true, false) 1 [], sl (true, false) 1 []] = narV noN := by
  unfold narV noN
  simp [sl]

theorem pc_Resolve (n : Nar) (F : Fine n) (S : Lens n) : ∃ r, pc Q n_scope_Resolve [narV n] = some (.tup [narV r, .int .i64 (scoE n).1, .int .i64 (scoE n).2]) ∧ ((scoE n).2 = 0 → erN r = srtN (lookS (namesN n) (sortsN n)) n) := by
  suffices h : ∃ v, pc Q n_scope_Resolve [narV n] = some v ∧ ∃ r, v = .tup [narV r, .int .i64 (scoE n).1, .int .i64 (scoE n).2] ∧ ((scoE n).2 = 0 → erN r = srtN (lookS (namesN n) (sortsN n)) n) by
    obtain ⟨v, h1, r, rfl, h2⟩ := h
    exact ⟨r, h1, h2⟩
  have hC := pc_scoCheck n F S.names
  have nb := na_cells n
  by_cases hz : (scoE n).2 = 0
  · obtain ⟨hz0, hR⟩ := scoE_zero hz
    obtain ⟨k1, k2, k3⟩ := narE_zero hR.nar
    have hN := pc_scopeNames n S.names hR.dec
    have hA : ∃ n', pc Q n_scope_all [narV n, byF (sl n.rm 1 (n.roles.map .str)) (namesN n) (sortsN n)] = some (narV n') ∧ erN n' = srtN (lookS (namesN n) (sortsN n)) n := by
      refine pc_all n S (head_steps k1).1 _ _ _ _ (fun s hs => ?_) fun g hg t ht => ?_
      · exact pc_changed _ rfl _ _ (namesN_len n) _ _ (Nat.le_refl _) (F.steps s hs).2.2 (msg_nodes (ste_msg (k2 s hs)))
      · exact pc_changed _ rfl _ _ (namesN_len n) _ _ (Nat.le_refl _) (by have := (F.goals g hg).2.2; have := Tm.size_le ht; omega) (msg_nodes (gol_data (k3 g hg) t ht))
    obtain ⟨n', hA, hA2⟩ := hA
    rw [hz0] at hC ⊢
    unfold tabV at hN
    unfold byF at hA
    generalize hU : (namesN n).map AV.str = U at *
    generalize hV : (sortsN n).map (AV.int .i64) = V at *
    refine pc_ends_ex (C := Q) ((Q_spec _).trans rfl) ((Q_code _).trans res_scope_Resolve) (by simp [x_scope_Resolve]) fun Ψ hΨ fr hl ha => ?_
    rw [Q_ctx]
    have h0 := ha 0
    clear ha
    simp [x_scope_Resolve] at hl h0
    simp [x_scope_Resolve, hl, h0, na_cells, hC, hN, hA, roCaps, show (AV.vm U V).flat = true from rfl]
    exact hΨ _ ⟨n', rfl, fun _ => hA2⟩
  · refine pc_ends_ex (C := Q) ((Q_spec _).trans rfl) ((Q_code _).trans res_scope_Resolve) (by simp [x_scope_Resolve]) fun Ψ hΨ fr hl ha => ?_
    rw [Q_ctx]
    have h0 := ha 0
    clear ha
    simp [x_scope_Resolve] at hl h0
    simp [x_scope_Resolve, hl, h0, nb, hC, hz, fillParts, buildParts]
    exact hΨ _ ⟨noN, by rw [← noN_eq, sl_nil_any (true, false) rfl 1 1], fun h => absurd h hz⟩
end Go.Abs.Q
