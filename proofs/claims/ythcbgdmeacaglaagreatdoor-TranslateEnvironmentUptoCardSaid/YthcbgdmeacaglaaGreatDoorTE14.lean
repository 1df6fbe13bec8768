/- A part of the proof. -/
import Derived.Test.YthcbgdmeacaglaaGreatDoorTE13
set_option linter.all false
namespace Go.Abs.Q
open Go.Proofs
attribute [local simp] look_set_ne look_set_eq fin tupled code_loop
def nodeE (k s : Int) (nm : ByteArray) (n : Nat) : Int :=
  if (k = 1 ∨ k = 2) ∧ (s < 0 ∨ 5 < s ∨ 0 < n) ∨ k = 3 ∧ s ≠ 0 ∨ (k ≠ 1 ∧ k ≠ 2 ∧ k ≠ 3) then 1 else if nameB nm = false then 2 else if 8 < n then 3 else 0
mutual
def nodesE : Tm → Int
  | .mk k nm s _ l => if nodeE k s nm l.length ≠ 0 then nodeE k s nm l.length else nodesEs l
def nodesEs : List Tm → Int
  | [] => 0
  | t :: l => if nodesE t ≠ 0 then nodesE t else nodesEs l
end
mutual
def depT : Tm → Nat
  | .mk _ _ _ _ l => depTs l + 1
def depTs : List Tm → Nat
  | [] => 0
  | t :: l => max (depT t) (depTs l)
end
mutual
theorem dep_le : ∀ t : Tm, depT t ≤ t.size
  | .mk _ _ _ _ l => by
    have := deps_le l
    simp only [depT, Tm.size]
    omega
theorem deps_le : ∀ l : List Tm, depTs l ≤ Tm.sizes l
  | [] => Nat.le_refl _
  | t :: l => by
    have := dep_le t
    have := deps_le l
    simp only [depTs, Tm.sizes]
    omega
end
def validT (t : Tm) : Int := if nodesE t ≠ 0 then nodesE t else if 400 < t.size ∨ 40 < depT t then 3 else 0
def Fr2 (p q : Nat) (h h' : AH) : Prop := h'.fams = h.fams ∧ h.boxes.length ≤ h'.boxes.length ∧ ∀ j, j ≠ p → j ≠ q → j < h.boxes.length → h'.boxes[j]? = h.boxes[j]?
theorem Fr2.refl (p q : Nat) (h : AH) : Fr2 p q h h := ⟨rfl, Nat.le_refl _, fun _ _ _ _ => rfl⟩
theorem Fr2.trans {p q : Nat} {a b c : AH} (h : Fr2 p q a b) (k : Fr2 p q b c) : Fr2 p q a c :=
  ⟨k.1.trans h.1, Nat.le_trans h.2.1 k.2.1, fun j h1 h2 h3 => (k.2.2 j h1 h2 (Nat.lt_of_lt_of_le h3 h.2.1)).trans (h.2.2 j h1 h2 h3)⟩
theorem Fr2.box (p q : Nat) (h : AH) (x : List AV) : Fr2 p q h ⟨h.boxes ++ [x], h.fams⟩ :=
  ⟨rfl, by simp, fun j _ _ h3 => by rw [List.getElem?_append_left h3]⟩
theorem Fr2.set1 {p q : Nat} {h : AH} (x : List AV) : Fr2 p q h ⟨h.boxes.set p x, h.fams⟩ :=
  ⟨rfl, by simp, fun j h1 _ _ => by simp only; rw [List.getElem?_set_ne (fun e => h1 e.symm)]⟩
theorem Fr2.set2 {p q : Nat} {h : AH} (x : List AV) : Fr2 p q h ⟨h.boxes.set q x, h.fams⟩ :=
  ⟨rfl, by simp, fun j _ h2 _ => by simp only; rw [List.getElem?_set_ne (fun e => h2 e.symm)]⟩
theorem getq_lt {α : Type} {l : List α} {i : Nat} {x : α} (h : l[i]? = some x) : i < l.length := (List.getElem?_eq_some_iff.1 h).1
theorem rcW {f : FuncId} {rf : RFunc} {args : List AV} {h : AH} {Φ : AV → AH → Prop} (hc : codeF f = some rf) (hl : args.length ≤ rf.ntmps)
    (H : ∀ Ψ : AV → AH → Prop, (∀ v h', Φ v h' → Ψ v h') → ∀ fr : Fr, fr.length = rf.ntmps → (∀ i, look fr i = args.getD i undefA) → Ends (evalCode (lim Q) (ctxF f) rf.body (fr, h)) (RFIN rf.results Ψ)) (hrst : (ctxF f).rst = false := by rfl) : ∃ v h', rc Q f args h = some (v, h') ∧ Φ v h' :=
  rcQ hc hl (H Φ fun _ _ h => h) hrst
theorem check_boxes {h : AH} {p q : Nat} {a d : Int} (hpq : p ≠ q) (hp : h.boxes[p]? = some [.int .i64 a]) (hq : h.boxes[q]? = some [.int .i64 d]) (X : List AV) (d2 : Int) :
    (h.boxes ++ [X])[p]? = some [.int .i64 a] ∧ ((h.boxes ++ [X]).set p [.int .i64 (a + 1)])[q]? = some [.int .i64 d] ∧ (((h.boxes ++ [X]).set p [.int .i64 (a + 1)]).set q [.int .i64 d2])[h.boxes.length]? = some X ∧
    Fr2 p q h ⟨((h.boxes ++ [X]).set p [.int .i64 (a + 1)]).set q [.int .i64 d2], h.fams⟩ ∧ (((h.boxes ++ [X]).set p [.int .i64 (a + 1)]).set q [.int .i64 d2])[p]? = some [.int .i64 (a + 1)] ∧ (((h.boxes ++ [X]).set p [.int .i64 (a + 1)]).set q [.int .i64 d2])[q]? = some [.int .i64 d2] := by
  have hpl := getq_lt hp
  have hql := getq_lt hq
  refine ⟨?_, ?_, ?_, ?_, ?_, ?_⟩
  · rw [List.getElem?_append_left hpl]; exact hp
  · rw [List.getElem?_set_ne hpq, List.getElem?_append_left hql]; exact hq
  · rw [List.getElem?_set_ne (by omega), List.getElem?_set_ne (by omega)]
    simp
  · exact (Fr2.box p q h X).trans ((Fr2.set1 (h := ⟨h.boxes ++ [X], h.fams⟩) _).trans (Fr2.set2 (h := ⟨(h.boxes ++ [X]).set p [.int .i64 (a + 1)], h.fams⟩) _))
  · rw [List.getElem?_set_ne (fun e => hpq e.symm), List.getElem?_set_self (by simp; omega)]
  · rw [List.getElem?_set_self (by simp; omega)]
theorem nth_tm {l : List Tm} {i : Nat} (h : i < l.length) : nth (tmVs l) i = some (tmV l[i]) := nth_tmVs (by simp [h])
def ChkOk (t : Tm) : Prop := ∀ (lv a d : Int) (p q : Nat) (h : AH), 0 ≤ lv → lv + t.size ≤ 4398046511104 → 0 ≤ a → a + t.size ≤ 4398046511104 → p ≠ q → h.boxes[p]? = some [.int .i64 a] → h.boxes[q]? = some [.int .i64 d] →
    ∃ v h', rc Q n_term_check [tmV t, .int .i64 lv, .ptr p 0, .ptr q 0] h = some (v, h') ∧ (v = .int .i64 (nodesE t) ∧ Fr2 p q h h' ∧ ∃ a' d', h'.boxes[p]? = some [.int .i64 a'] ∧ h'.boxes[q]? = some [.int .i64 d'] ∧ (nodesE t = 0 → a' = a + t.size ∧ d' = max d (lv + depT t - 1)))
theorem loop_check (m : Bool × Bool) (kids : List Tm) (IH : ∀ t ∈ kids, ChkOk t) (lv a d : Int) (p q : Nat) (hlv : 0 ≤ lv) (hlv' : lv + Tm.sizes kids + 1 ≤ 4398046511104) (ha0 : 0 ≤ a) (ha1 : a + Tm.sizes kids ≤ 4398046511104) (hpq : p ≠ q) (hlen : kids.length ≤ 4398046511104)
    (fr : Fr) (h : AH) (hl : fr.length = 73) (h1 : look fr 1 = .int .i64 lv) (h2 : look fr 2 = .ptr p 0) (h3 : look fr 3 = .ptr q 0) (h57 : look fr 57 = sl m 4 (tmVs kids)) (h58 : look fr 58 = .int .i64 kids.length) (h59 : look fr 59 = .int .i64 0) (hp : h.boxes[p]? = some [.int .i64 a]) (hq : h.boxes[q]? = some [.int .i64 d]) :
    Ends (lp (evalCode (lim Q) (ctxF n_term_check) x_term_check_0) (fr, h)) fun e fr' h' => Kp x_term_check_0.wr fr fr' ∧ Fr2 p q h h' ∧ (∃ a' d', h'.boxes[p]? = some [.int .i64 a'] ∧ h'.boxes[q]? = some [.int .i64 d'] ∧ (nodesEs kids = 0 → a' = a + Tm.sizes kids ∧ max d' lv = max (max d lv) (lv + depTs kids) ∧ d ≤ d')) ∧
      (e = .exit 1 ∧ nodesEs kids = 0 ∨ e = .ret ∧ look fr' 8 = .int .i64 (nodesEs kids) ∧ nodesEs kids ≠ 0) := by
  refine Ends_lpw rfl fr (fun n fr h' => ∃ (i : Nat) (a' d' : Int), i + n = kids.length ∧ look fr 59 = .int .i64 (i : Nat) ∧ Fr2 p q h h' ∧ h'.boxes[p]? = some [.int .i64 a'] ∧ h'.boxes[q]? = some [.int .i64 d'] ∧ a' + Tm.sizes (kids.drop i) = a + Tm.sizes kids ∧ 0 ≤ a' ∧ d ≤ d' ∧ max (max d' lv) (lv + depTs (kids.drop i)) = max (max d lv) (lv + depTs kids) ∧ nodesEs (kids.drop i) = nodesEs kids) ?_ kids.length h
    ⟨0, a, d, by omega, h59, Fr2.refl _ _ _, hp, hq, rfl, ha0, by omega, rfl, rfl⟩
  rintro J Φ hJ hΦ n fr1 hh K ⟨i, a', d', hi, k59, hF, kp, kq, hsz, ha', hdd, hdm, hr⟩
  have hl1 : fr1.length = 73 := K.1.trans hl
  have k1 := (K.2 1 (by decide)).trans h1
  have k2 := (K.2 2 (by decide)).trans h2
  have k3 := (K.2 3 (by decide)).trans h3
  have k57 := (K.2 57 (by decide)).trans h57
  have k58 := (K.2 58 (by decide)).trans h58
  by_cases hlt : i < kids.length
  · have hx := nth_tm hlt
    have hw : IntKind.i64.wrap ((i : Int) + 1) = (i : Int) + 1 := wrap_id (by omega) (by omega)
    have hwl : IntKind.i64.wrap (lv + 1) = lv + 1 := wrap_id (by omega) (by omega)
    have hI := IH kids[i] (List.getElem_mem hlt)
    rw [List.drop_eq_getElem_cons hlt] at hr hdm hsz
    simp only [nodesEs, depTs, Tm.sizes] at hr hdm hsz
    have hss : Tm.sizes (kids.drop (i + 1)) + (kids[i]).size ≤ Tm.sizes kids := by
      have h1 : Tm.sizes (kids.take i ++ kids.drop i) = Tm.sizes (kids.take i) + Tm.sizes (kids.drop i) := Tm.sizes_append _ _
      rw [List.take_append_drop, List.drop_eq_getElem_cons hlt] at h1
      simp only [Tm.sizes] at h1
      omega
    generalize kids[i] = t at *
    have hpl : p < hh.boxes.length := getq_lt kp
    have hql : q < hh.boxes.length := getq_lt kq
    obtain ⟨v, h', hrc, rfl, hF', a2, d2, hp2, hq2, hz2⟩ := hI (lv + 1) a' d' p q ⟨hh.boxes ++ [(tmV t).cells], hh.fams⟩ (by omega) (by omega) ha' (by omega) hpq
      (by simp only; rw [List.getElem?_append_left hpl]; exact kp) (by simp only; rw [List.getElem?_append_left hql]; exact kq)
    have hF2 : Fr2 p q h h' := hF.trans ((Fr2.box p q hh _).trans hF')
    clear hpl hql kp kq IH hI
    obtain ⟨tk, tn, ts, tm, tl⟩ := t
    simp only [tmV, cells_agg] at hrc hx
    by_cases hz : nodesE (.mk tk tn ts tm tl) = 0
    · rw [hz] at hrc
      obtain ⟨rfl, rfl⟩ := hz2 hz
      rw [if_neg (by simp [hz])] at hr
      simp [x_term_check_0, hl1, k1, k2, k3, k57, k58, k59, hlt, hx, hwl, hw, hrc]
      refine ⟨n - 1, by omega, hJ _ _ _ ⟨i + 1, _, _, by omega, by simp [hl1], hF2, hp2, hq2, by omega, by omega, by omega, by omega, hr⟩⟩
    · rw [if_pos hz] at hr
      simp [x_term_check_0, hl1, k1, k2, k3, k57, k58, k59, hlt, hx, hwl, hrc, hz]
      refine hΦ _ _ _ ⟨hF2, ⟨a2, d2, hp2, hq2, fun e => absurd (hr.trans e) hz⟩, .inr ⟨rfl, by simp [hl1, hr], fun e => hz (hr.trans e)⟩⟩
  · rw [List.drop_eq_nil_of_le (by omega)] at hr hdm hsz
    simp only [nodesEs, depTs, Tm.sizes] at hr hdm hsz
    simp [x_term_check_0, hl1, k58, k59, hlt]
    exact hΦ _ _ _ ⟨hF, ⟨a', d', kp, kq, fun _ => ⟨by omega, by omega, hdd⟩⟩, .inl ⟨rfl, hr.symm⟩⟩
theorem rc_check : ∀ (n : Nat) (t : Tm), t.size ≤ n → ChkOk t := by
  intro n
  induction n with
  | zero => intro t h; have := t.size_pos; omega
  | succ n ih =>
    intro t hn lv a d p q h hlv hlv' ha0 ha1 hpq hp hq
    obtain ⟨k, nm, s, m, kids⟩ := t
    have hsz : Tm.size (.mk k nm s m kids) = 1 + Tm.sizes kids := rfl
    have hlen := Tm.length_le kids
    have hN := pc_isName nm
    have hnE : nodesE (.mk k nm s m kids) = if nodeE k s nm kids.length ≠ 0 then nodeE k s nm kids.length else nodesEs kids := rfl
    have hdE : depT (.mk k nm s m kids) = depTs kids + 1 := rfl
    have hloop := fun X => loop_check m kids (fun t ht => ih t (by have := Tm.size_le ht; omega)) lv (a + 1) X p q hlv (by omega) (by omega) (by omega) hpq (by omega)
    rw [hsz] at hlv' ha1
    rw [hsz, hdE]
    generalize htE : nodesE (.mk k nm s m kids) = te at *
    obtain ⟨d2, hd2⟩ : ∃ d2, (if lv > d then lv else d) = d2 := ⟨_, rfl⟩
    have hd2' : d2 = max d lv := by rw [← hd2]; split <;> omega
    obtain ⟨g1, g2, g3, g4, g5, g6⟩ := check_boxes hpq hp hq [.int .i64 k, .str nm, .int .i64 s, sl m 4 (tmVs kids)] d2
    have hpl : p < h.boxes.length := getq_lt hp
    have hql : q < h.boxes.length := getq_lt hq
    refine rcW res_term_check (by simp [x_term_check]) fun Ψ hΨ fr hl ha => ?_
    have h0 := ha 0
    have h1 := ha 1
    have h2 := ha 2
    have h3 := ha 3
    clear ha
    simp [x_term_check, tmV] at hl h0 h1 h2 h3
    have hw1 : IntKind.i64.wrap (a + 1) = a + 1 := wrap_id (by omega) (by omega)
    have hpl' : p < h.boxes.length + 1 := by omega
    have hql' : q < h.boxes.length + 1 := by omega
    simp only [gt_iff_lt] at hd2
    have bad : ∀ v, nodeE k s nm kids.length = v → v ≠ 0 → Ψ (.int .i64 v) ⟨((h.boxes ++ [[.int .i64 k, .str nm, .int .i64 s, sl m 4 (tmVs kids)]]).set p [.int .i64 (a + 1)]).set q [.int .i64 d2], h.fams⟩ := fun v hv h0 => by
      rw [hv, if_pos h0] at hnE
      exact hΨ _ _ ⟨by rw [hnE], g4, _, _, g5, g6, fun e => absurd (hnE.symm.trans e) h0⟩
    clear hpl hql hpl' hql' hp hq
    obtain ⟨_, g3b⟩ := List.getElem?_eq_some_iff.1 g3
    have hd2m : max d2 lv = d2 := by omega
    have loopFin : nodeE k s nm kids.length = 0 → ∀ fr' : Fr, fr'.length = 73 → look fr' 1 = .int .i64 lv → look fr' 2 = .ptr p 0 → look fr' 3 = .ptr q 0 → look fr' 57 = sl m 4 (tmVs kids) → look fr' 58 = .int .i64 kids.length → look fr' 59 = .int .i64 0 →
        Ends (lp (evalCode (lim Q) (ctxF n_term_check) x_term_check_0) (fr', ⟨((h.boxes ++ [[.int .i64 k, .str nm, .int .i64 s, sl m 4 (tmVs kids)]]).set p [.int .i64 (a + 1)]).set q [.int .i64 d2], h.fams⟩)) fun e fr2 h2 =>
          fr2.length = 73 ∧ (e = .exit 1 ∧ Ψ (.int .i64 0) h2 ∨ e = .ret ∧ look fr2 8 = .int .i64 te ∧ Ψ (.int .i64 te) h2) := by
      intro hnz fr' l0 l1 l2 l3 l57 l58 l59
      refine (hloop d2 fr' _ l0 l1 l2 l3 l57 l58 l59 g5 g6).mono ?_
      rintro e fr2 h2 ⟨K, hF, ⟨a2, d3, b1, b2, b3⟩, hc⟩
      rw [if_neg (by simp [hnz])] at hnE
      refine ⟨K.1.trans l0, ?_⟩
      rcases hc with ⟨rfl, hz⟩ | ⟨rfl, h8, hz⟩
      · refine .inl ⟨rfl, hΨ _ _ ⟨by rw [hnE, hz], g4.trans hF, a2, d3, b1, b2, fun _ => ?_⟩⟩
        have := b3 hz
        omega
      · rw [← hnE] at hz h8
        exact .inr ⟨rfl, h8, hΨ _ _ ⟨rfl, g4.trans hF, a2, d3, b1, b2, fun e => absurd e hz⟩⟩
    by_cases hkk : k = 1 ∨ k = 2
    · by_cases hs0 : s < 0
      · have b := bad 1 (by rw [nodeE, if_pos (.inl ⟨hkk, .inl hs0⟩)]) (by omega)
        rcases hkk with rfl | rfl <;> simp [x_term_check, hl, h0, h1, h2, h3, g1, g2, g3b, hw1, hd2, dec_t hs0] <;> exact b
      by_cases hs5 : 5 < s
      · have b := bad 1 (by rw [nodeE, if_pos (.inl ⟨hkk, .inr (.inl hs5)⟩)]) (by omega)
        rcases hkk with rfl | rfl <;> simp [x_term_check, hl, h0, h1, h2, h3, g1, g2, g3b, hw1, hd2, dec_f hs0, dec_t hs5] <;> exact b
      by_cases hk0 : kids = []
      · subst hk0
        have hnb : nodeE k s nm 0 = if nameB nm = false then 2 else 0 := by
          rw [nodeE, if_neg (by omega), if_neg (show ¬8 < 0 by omega)]
        cases hn : nameB nm with
        | false =>
          rw [hn] at hN
          have b := bad 2 (by rw [List.length_nil, hnb, hn]; rfl) (by omega)
          rcases hkk with rfl | rfl <;> simp [x_term_check, hl, h0, h1, h2, h3, g1, g2, g3b, hw1, hd2, dec_f hs0, dec_f hs5, hN] <;> exact b
        | true =>
          rw [hn] at hN
          have lf := loopFin (by rw [List.length_nil, hnb, hn]; rfl)
          clear bad loopFin hloop
          rcases hkk with rfl | rfl <;>
          · simp [x_term_check, hl, h0, h1, h2, h3, g1, g2, g3b, hw1, hd2, dec_f hs0, dec_f hs5, hN]
            refine Ends.mono (lf _ ?_ ?_ ?_ ?_ ?_ ?_ ?_) ?_ <;> first | (simp [hl, h1, h2, h3, tmVs]; done) | skip
            rintro e fr2 hh2 ⟨l2, ⟨rfl, b⟩ | ⟨rfl, k8, b⟩⟩
            · simp [l2]; exact b
            · simp [k8]; exact b
      · have hpos : 0 < kids.length := List.length_pos_iff.2 hk0
        have b := bad 1 (by rw [nodeE, if_pos (.inl ⟨hkk, .inr (.inr hpos)⟩)]) (by omega)
        rcases hkk with rfl | rfl <;> simp [x_term_check, hl, h0, h1, h2, h3, g1, g2, g3b, hw1, hd2, dec_f hs0, dec_f hs5, hpos] <;> exact b
    · have k1 : ¬k = 1 := fun e => hkk (.inl e)
      have k2 : ¬k = 2 := fun e => hkk (.inr e)
      by_cases k3 : k = 3
      · subst k3
        by_cases hs : s = 0
        · subst hs
          have hnb : nodeE 3 0 nm kids.length = if nameB nm = false then 2 else if 8 < kids.length then 3 else 0 := by
            rw [nodeE, if_neg (by omega)]
          cases hn : nameB nm with
          | false =>
            rw [hn] at hN
            have b := bad 2 (by rw [hnb, hn]; rfl) (by omega)
            simp [x_term_check, hl, h0, h1, h2, h3, g1, g2, g3b, hw1, hd2, hN]
            exact b
          | true =>
            rw [hn] at hN
            by_cases h8 : 8 < kids.length
            · have b := bad 3 (by rw [hnb, hn, if_neg (by simp), if_pos h8]) (by omega)
              have h8' : (8 : Int) < (kids.length : Int) := by omega
              simp [x_term_check, hl, h0, h1, h2, h3, g1, g2, g3b, hw1, hd2, hN, h8']
              exact b
            · have lf := loopFin (by rw [hnb, hn, if_neg (by simp), if_neg h8])
              have h8' : ¬(8 : Int) < (kids.length : Int) := by omega
              clear bad loopFin hloop
              simp [x_term_check, hl, h0, h1, h2, h3, g1, g2, g3b, hw1, hd2, hN, h8']
              refine Ends.mono (lf _ ?_ ?_ ?_ ?_ ?_ ?_ ?_) ?_ <;> first | (simp [hl, h1, h2, h3]; done) | skip
              rintro e fr2 hh2 ⟨l2, ⟨rfl, b⟩ | ⟨rfl, k8, b⟩⟩
              · simp [l2]; exact b
              · simp [k8]; exact b
        · have b := bad 1 (by rw [nodeE, if_pos (.inr (.inl ⟨rfl, hs⟩))]) (by omega)
          simp [x_term_check, hl, h0, h1, h2, h3, g1, g2, g3b, hw1, hd2, dec_f hs]
          exact b
      · have b := bad 1 (by rw [nodeE, if_pos (.inr (.inr ⟨k1, k2, k3⟩))]) (by omega)
        simp [x_term_check, hl, h0, h1, h2, h3, g1, g2, g3b, hw1, hd2, dec_f k1, dec_f k2, dec_f k3]
        exact b
theorem pc_termValid (t : Tm) (hb : t.size ≤ 1099511627776) : pc Q n_term_Valid [tmV t] = some (.int .i64 (validT t)) := by
  obtain ⟨v, h', hrc, rfl, hF, a', d', b1, b2, hz⟩ := rc_check _ t (Nat.le_refl _) 1 0 0 1 2 ⟨[(tmV t).cells, [.int .i64 0], [.int .i64 0]], []⟩ (by omega) (by omega) (by omega) (by omega) (by omega) rfl rfl
  have hpos := t.size_pos
  have hd : depT t ≤ t.size := dep_le t
  have hd1 : 1 ≤ depT t := by cases t; simp [depT]
  refine pcQ res_term_Valid rfl (by simp [x_term_Valid]) fun fr hl ha => ?_
  have h0 := ha 0
  clear ha
  have hv : validT t = if nodesE t ≠ 0 then nodesE t else if 400 < t.size ∨ 40 < depT t then 3 else 0 := rfl
  generalize validT t = v at *
  obtain ⟨k, nm, s, m, kids⟩ := t
  simp [x_term_Valid, tmV] at hl h0 hrc
  obtain ⟨w1, b1'⟩ := List.getElem?_eq_some_iff.1 b1
  obtain ⟨w2, b2'⟩ := List.getElem?_eq_some_iff.1 b2
  by_cases hn : nodesE (.mk k nm s m kids) = 0
  · obtain ⟨rfl, rfl⟩ := hz hn
    rw [if_neg (by simp [hn])] at hv
    rw [hn] at hrc
    generalize Tm.size (.mk k nm s m kids) = z at *
    generalize depT (.mk k nm s m kids) = dd at *
    have e1 : (0 : Int) + (z : Int) = z := by omega
    have e2 : max (0 : Int) (1 + (dd : Int) - 1) = dd := by omega
    rw [e1] at b1
    rw [e2] at b2
    by_cases h4 : (400 : Int) < (z : Int)
    · rw [if_pos (.inl (by omega))] at hv
      subst hv
      simp [x_term_Valid, hl, h0, hrc, b1, b2, dec_t h4]
    · by_cases h5 : (40 : Int) < (dd : Int)
      · rw [if_pos (.inr (by omega))] at hv
        subst hv
        simp [x_term_Valid, hl, h0, hrc, b1, b2, dec_f h4, dec_t h5]
      · rw [if_neg (by omega)] at hv
        subst hv
        simp [x_term_Valid, hl, h0, hrc, b1, b2, dec_f h4, dec_f h5]
  · rw [if_pos hn] at hv
    rw [← hv] at hrc hn
    simp [x_term_Valid, hl, h0, hrc, hn]
mutual
def rawE : Tm → Int
  | .mk k nm s _ l => if k = 1 ∨ s ≠ 0 then 10 else if lexN nm = false then 2 else rawEs l
def rawEs : List Tm → Int
  | [] => 0
  | t :: l => if rawE t ≠ 0 then rawE t else rawEs l
end
structure Gol where
  kind : Int
  role : ByteArray
  wth : ByteArray
  dm : Bool × Bool
  data : List Tm
  line : Int
structure Fre where
  role : ByteArray
  name : ByteArray
  sort : Int
structure Ste where
  frm : ByteArray
  to : ByteArray
  msg : Tm
  line : Int
structure Nar where
  name : ByteArray
  rm : Bool × Bool
  roles : List ByteArray
  fm : Bool × Bool
  fresh : List Fre
  tm : Bool × Bool
  tags : List ByteArray
  sm : Bool × Bool
  steps : List Ste
  gm : Bool × Bool
  goals : List Gol
structure Fine (n : Nar) : Prop where
  name : n.name.size ≤ 1099511627776
  roles : ∀ s ∈ n.roles, s.size ≤ 1099511627776
  rolesL : n.roles.length ≤ 1099511627776
  fresh : ∀ f ∈ n.fresh, f.role.size ≤ 1099511627776 ∧ f.name.size ≤ 1099511627776
  freshL : n.fresh.length ≤ 1099511627776
  tags : ∀ s ∈ n.tags, s.size ≤ 1099511627776
  tagsL : n.tags.length ≤ 1099511627776
  steps : ∀ s ∈ n.steps, s.frm.size ≤ 1099511627776 ∧ s.to.size ≤ 1099511627776 ∧ s.msg.size ≤ 1099511627776
  stepsL : n.steps.length ≤ 1099511627776
  goals : ∀ g ∈ n.goals, g.role.size ≤ 1099511627776 ∧ g.wth.size ≤ 1099511627776 ∧ Tm.sizes g.data ≤ 1099511627776
  goalsL : n.goals.length ≤ 1099511627776
end Go.Abs.Q
namespace Go.Abs
section
variable {O : Orc} {c : Ctx} {d : Option Nat} {op : ROp} {ros : List RO} {fr : Fr} {h : AH} {Ψ : Ex → Fr → AH → Prop}
end
def Tm.kind : Tm → Int | .mk k _ _ _ _ => k
def Tm.name : Tm → ByteArray | .mk _ n _ _ _ => n
def Tm.sort : Tm → Int | .mk _ _ s _ _ => s
def Tm.cm : Tm → Bool × Bool | .mk _ _ _ m _ => m
def Tm.kids : Tm → List Tm | .mk _ _ _ _ l => l
@[simp] theorem tm_cells (t : Tm) : (tmV t).cells = [.int .i64 t.kind, .str t.name, .int .i64 t.sort, sl t.cm 4 (tmVs t.kids)] := by cases t; rfl
@[simp] theorem tm_agg (t : Tm) : AV.agg [.int .i64 t.kind, .str t.name, .int .i64 t.sort, sl t.cm 4 (tmVs t.kids)] = tmV t := by cases t; rfl
@[simp] theorem tm_isTup (t : Tm) : (tmV t).isTup = false := by cases t; rfl
@[simp] theorem tm_frz (h : AH) (am : Bool) (t : Tm) : frz h am (tmV t) = some (tmV t) := by cases t; rfl
@[simp] theorem tm_tame (h : AH) (t : Tm) : tame h (tmV t) = true := by cases t; rfl
@[simp] theorem tm_frzRes (h : AH) (t : Tm) : frzRes h (tmV t) = some (tmV t) := by cases t; rfl
@[simp] theorem lenA_vs (h : AH) (f : Bool) (sz : Nat) (xs : List AV) : lenA h (.vs f sz xs) = some (.int .i64 xs.length, h) := rfl
@[simp] theorem boundA_n (fr : Fr) : boundA fr none = some none := rfl
@[simp] theorem boundA_c (fr : Fr) (k : IntKind) (i : Int) : boundA fr (some (.c (.int k i))) = some (some i) := rfl
@[simp] theorem boundA_t (fr : Fr) (n : Nat) : boundA fr (some (.t n)) = (match look fr n with | .int _ i => some (some i) | _ => none) := rfl
namespace Q
end Q
end Go.Abs
namespace Go.Abs.Q
open Go.Proofs
attribute [local simp] look_set_ne look_set_eq fin tupled code_loop toL_iff
mutual
def erT : Tm → Tm
  | .mk k nm s _ l => .mk k nm s (false, false) (erTs l)
def erTs : List Tm → List Tm
  | [] => []
  | t :: l => erT t :: erTs l
end
theorem erTs_map (l : List Tm) : erTs l = l.map erT := by
  induction l with
  | nil => rfl
  | cons t l ih => simp [erTs, ih]
theorem er_size : ∀ (n : Nat) (t : Tm), t.size ≤ n → (erT t).size = t.size := by
  intro n
  induction n with
  | zero => intro t h; have := t.size_pos; omega
  | succ n ih =>
    intro t hn
    obtain ⟨k, nm, s, m, l⟩ := t
    have hsz : Tm.size (.mk k nm s m l) = 1 + Tm.sizes l := rfl
    have : ∀ l : List Tm, Tm.sizes l ≤ n → Tm.sizes (erTs l) = Tm.sizes l := by
      intro l
      induction l with
      | nil => intro _; rfl
      | cons a l ihl =>
        intro h
        simp only [Tm.sizes] at h
        simp only [erTs, Tm.sizes, ih a (by omega), ihl (by omega)]
    rw [erT, Tm.size, this l (by omega), hsz]
theorem ers_size : ∀ (l : List Tm), Tm.sizes (erTs l) = Tm.sizes l
  | [] => rfl
  | t :: l => by simp only [erTs, Tm.sizes, er_size _ t (Nat.le_refl _), ers_size l]
theorem less_irr (l : List UInt8) : Op.bytesLess l l = false := by
  induction l with
  | nil => rfl
  | cons a l ih => simp [Op.bytesLess, ih]
theorem cmpI_self (a : Int) : cmpI a a = 0 := by simp [cmpI]
theorem cmpB_self (a : ByteArray) : cmpBytes a a = 0 := by simp [cmpBytes, less_irr]
theorem cmpT_er : ∀ (n : Nat) (a b : Tm), a.size ≤ n → erT a = erT b → cmpT a b = 0 := by
  intro n
  induction n with
  | zero => intro t _ h; have := t.size_pos; omega
  | succ n ih =>
    intro a b hn he
    obtain ⟨k, nm, s, m, l⟩ := a
    obtain ⟨k', nm', s', m', l'⟩ := b
    have hsz : Tm.size (.mk k nm s m l) = 1 + Tm.sizes l := rfl
    simp only [erT, Tm.mk.injEq] at he
    obtain ⟨rfl, rfl, rfl, _, hl⟩ := he
    have h1 : Tm.sizes l = Tm.sizes l' := by rw [← ers_size l, hl, ers_size]
    have h2 : l.length = l'.length := by
      have := congrArg List.length hl
      simpa [erTs_map] using this
    have : ∀ l l' : List Tm, Tm.sizes l ≤ n → erTs l = erTs l' → cmpTs l l' = 0 := by
      intro l
      induction l with
      | nil => intro l' _ h; exact cmpTs_nil l'
      | cons a l ihl =>
        intro l' hs h
        cases l' with
        | nil => simp [erTs] at h
        | cons b l' =>
          simp only [erTs, List.cons.injEq] at h
          simp only [Tm.sizes] at hs
          simp [cmpTs, nz, ih a b (by omega) h.1, ihl l' (by omega) h.2]
    simp [cmpT, nz, cmpI_self, cmpB_self, h1, h2, this l l' (by omega) hl]
theorem nz_zero {a b : Int} : nz a b = 0 ↔ a = 0 ∧ b = 0 := by
  unfold nz
  split <;> simp_all
theorem cmpI_zero {a b : Int} : cmpI a b = 0 ↔ a = b := by
  unfold cmpI
  split
  · constructor <;> intro h <;> omega
  · split <;> constructor <;> intro h <;> omega
theorem cmpB_zero {a b : ByteArray} : cmpBytes a b = 0 ↔ a = b := by
  unfold cmpBytes
  split
  · rename_i h
    constructor
    · intro e; omega
    · intro e; subst e; rw [less_irr] at h; cases h
  · split
    · rename_i h; simp [(toL_iff a b).1 h]
    · rename_i h
      constructor
      · intro e; omega
      · intro e; exact absurd (by rw [e]) h
theorem er_cmpT : ∀ (n : Nat) (a b : Tm), a.size ≤ n → cmpT a b = 0 → erT a = erT b := by
  intro n
  induction n with
  | zero => intro a _ h; have := a.size_pos; omega
  | succ n ih =>
    intro a b hn h
    obtain ⟨k, nm, s, m, l⟩ := a
    obtain ⟨k', nm', s', m', l'⟩ := b
    have hsz : Tm.size (.mk k nm s m l) = 1 + Tm.sizes l := rfl
    simp only [cmpT, nz_zero, cmpI_zero, cmpB_zero] at h
    obtain ⟨_, rfl, rfl, rfl, h1, h2⟩ := h
    have e1 : l.length = l'.length := by omega
    have : ∀ l l' : List Tm, Tm.sizes l ≤ n → l.length = l'.length → cmpTs l l' = 0 → erTs l = erTs l' := by
      intro l
      induction l with
      | nil => intro l' _ h1 _; rw [List.eq_nil_of_length_eq_zero h1.symm]
      | cons a l ihl =>
        intro l' hs h1 h2
        cases l' with
        | nil => simp at h1
        | cons b l' =>
          simp only [Tm.sizes] at hs
          simp only [cmpTs, nz_zero] at h2
          simp only [erTs, ih a b (by omega) h2.1, ihl l' (by omega) (by simpa using h1) h2.2]
    simp only [erT, this l l' (by omega) e1 h2]
theorem cmpT_iff {a b : Tm} : cmpT a b = 0 ↔ erT a = erT b := ⟨er_cmpT _ a b (Nat.le_refl _), cmpT_er _ a b (Nat.le_refl _)⟩
end Go.Abs.Q
namespace Go.Abs.Q
open Go.Proofs
@[simp] theorem lay_ref44_Compare : (ctxF n_ref44_Compare).lay = false := _root_.id rfl
@[simp] theorem rb_ref44_Compare : (ctxF n_ref44_Compare).raw = rawF := _root_.id rfl
@[simp] theorem lay_ref44_number : (ctxF n_ref44_number).lay = false := _root_.id rfl
@[simp] theorem rb_ref44_number : (ctxF n_ref44_number).raw = rawF := _root_.id rfl
@[simp] theorem lay_ref44_Facts : (ctxF n_ref44_Facts).lay = false := _root_.id rfl
@[simp] theorem rb_ref44_Facts : (ctxF n_ref44_Facts).raw = rawF := _root_.id rfl
def x_ref44_Compare_0 : RCode := (.seq (.seq (rG [oV 27 7, oF 28 0 2, oL 29 28, oN 30 29, oE 31 27 30]) (.cond (.t 31) .skip (.exit 0))) (.seq (.block 1 (.seq (rD [oF 34 0 2, oL 35 34, oV 36 7, oI 37 3 35 36, oA 38 3 37, oF 39 0 3, oL 40 39, oV 41 7, oI 42 3 40 41, oA 43 3 42, oK 44 n_ref44_Facts [(.t 38), (.t 43)], oV 8 44]) (.seq (rG [oV 45 8, oO 46 (.bin .neq (.t 45) (.c (pI 0)))]) (.cond (.t 46) (.seq (rG [oV 47 8, oV 4 47]) .ret) .skip)))) (rG [oV 32 7, oJ 33 32, oV 7 33])))
def x_ref44_Compare : RFunc := ⟨48, [(.tmp 4)], (.seq (rG [oB 2 0, oB 3 1, oC 4 (pI 0)]) (.seq (.seq (rG [oF 9 0 2, oL 10 9, oN 11 10, oF 12 0 3, oL 13 12, oN 14 13, oK 15 n_ref44_number [(.t 11), (.t 14)], oV 5 15]) (.seq (rG [oV 16 5, oO 17 (.bin .neq (.t 16) (.c (pI 0)))]) (.cond (.t 17) (.seq (rG [oV 18 5, oV 4 18]) .ret) .skip))) (.seq (.seq (rG [oF 19 1 2, oA 20 3 19, oF 21 1 3, oA 22 3 21, oK 23 n_ref44_Facts [(.t 20), (.t 22)], oV 6 23]) (.seq (rG [oV 24 6, oO 25 (.bin .neq (.t 24) (.c (pI 0)))]) (.cond (.t 25) (.seq (rG [oV 26 6, oV 4 26]) .ret) .skip))) (.seq (.seq (rG [oC 7 (pI 0)]) (.block 0 (.loop x_ref44_Compare_0))) (.seq (rG [oC 4 (pI 0)]) .ret)))))⟩
def x_ref44_number : RFunc := ⟨11, [(.tmp 4)], (.seq (rG [oC 4 (pI 0)]) (.seq (.seq (rG [oV 5 0, oV 6 1, oE 7 5 6]) (.cond (.t 7) (.seq (rG [oC 4 (.int .i64 (-1))]) .ret) .skip)) (.seq (.seq (rG [oV 8 0, oV 9 1, oO 10 (.bin .gtr (.t 8) (.t 9))]) (.cond (.t 10) (.seq (rG [oC 4 (pI 1)]) .ret) .skip)) (.seq (rG [oC 4 (pI 0)]) .ret))))⟩
def x_ref44_Facts_0 : RCode := (.seq (.seq (rG [oV 36 8, oF 37 2 2, oL 38 37, oN 39 38, oE 40 36 39]) (.cond (.t 40) .skip (.exit 0))) (.seq (.block 1 (.seq (rD [oF 43 2 2, oL 44 43, oV 45 8, oI 46 4 44 45, oA 47 4 46, oF 48 2 3, oL 49 48, oV 50 8, oI 51 4 49 50, oA 52 4 51, oK 53 n_ref01_Compare [(.t 47), (.t 52)], oV 9 53]) (.seq (rG [oV 54 9, oO 55 (.bin .neq (.t 54) (.c (pI 0)))]) (.cond (.t 55) (.seq (rG [oV 56 9, oV 4 56]) .ret) .skip)))) (rG [oV 41 8, oJ 42 41, oV 8 42])))
def x_ref44_Facts : RFunc := ⟨57, [(.tmp 4)], (.seq (rG [oB 2 0, oB 3 1, oC 4 (pI 0)]) (.seq (.seq (rG [oF 10 0 2, oL 11 10, oF 12 0 3, oL 13 12, oK 14 n_ref44_number [(.t 11), (.t 13)], oV 5 14]) (.seq (rG [oV 15 5, oO 16 (.bin .neq (.t 15) (.c (pI 0)))]) (.cond (.t 16) (.seq (rG [oV 17 5, oV 4 17]) .ret) .skip))) (.seq (.seq (rG [oF 18 1 2, oL 19 18, oF 20 1 3, oL 21 20, oK 22 n_ref44_number [(.t 19), (.t 21)], oV 6 22]) (.seq (rG [oV 23 6, oO 24 (.bin .neq (.t 23) (.c (pI 0)))]) (.cond (.t 24) (.seq (rG [oV 25 6, oV 4 25]) .ret) .skip))) (.seq (.seq (rG [oF 26 2 2, oL 27 26, oN 28 27, oF 29 2 3, oL 30 29, oN 31 30, oK 32 n_ref44_number [(.t 28), (.t 31)], oV 7 32]) (.seq (rG [oV 33 7, oO 34 (.bin .neq (.t 33) (.c (pI 0)))]) (.cond (.t 34) (.seq (rG [oV 35 7, oV 4 35]) .ret) .skip))) (.seq (.seq (rG [oC 8 (pI 0)]) (.block 0 (.loop x_ref44_Facts_0))) (.seq (rG [oC 4 (pI 0)]) .ret))))))⟩
theorem res_ref44_Compare : codeF n_ref44_Compare = some x_ref44_Compare := by kernel_rfl
theorem res_ref44_number : codeF n_ref44_number = some x_ref44_number := by kernel_rfl
theorem res_ref44_Facts : codeF n_ref44_Facts = some x_ref44_Facts := by kernel_rfl
end Go.Abs.Q
namespace Go.Abs.Q
attribute [local simp] look_set_ne look_set_eq fin tupled code_loop
theorem rloop_find (m : Bool × Bool) (l : List ByteArray) (x : ByteArray) (hlen : l.length ≤ 1099511627776) (fr : Fr) (h : AH) (hl : fr.length = 19)
    (h0 : look fr 0 = sl m 1 (l.map AV.str)) (h1 : look fr 1 = .str x) (h5 : look fr 5 = .int .i64 0) :
    Ends (lp (evalCode (lim Q) (ctxF n_ref15_find) x_ref15_find_0) (fr, h)) fun e fr' h' => Kp x_ref15_find_0.wr fr fr' ∧ (e = .exit 0 ∧ idx (eqS x) l = -1 ∨ e = .ret ∧ look fr' 4 = .int .i64 (idx (eqS x) l)) := by
  refine Ends_lpw rfl fr (fun n fr h => ∃ i, i + n = l.length ∧ look fr 5 = .int .i64 (i : Nat) ∧ idxFrom (eqS x) i (l.drop i) = idx (eqS x) l) ?_ l.length h ⟨0, by omega, h5, rfl⟩
  rintro J Φ hJ hΦ n fr1 h1' K ⟨i, hi, k5, hr⟩
  have hl1 : fr1.length = 19 := K.1.trans hl
  have k0 := (K.2 0 (by decide)).trans h0
  have k1 := (K.2 1 (by decide)).trans h1
  by_cases hlt : i < l.length
  · have hx := nth_map (f := AV.str) (List.getElem?_eq_getElem hlt)
    have hw : IntKind.i64.wrap ((i : Int) + 1) = (i : Int) + 1 := wrap_id (by omega) (by omega)
    rw [List.drop_eq_getElem_cons hlt] at hr
    simp only [idxFrom, eqS, decide_eq_true_eq] at hr
    generalize l[i] = a at *
    by_cases hc : x.toList = a.toList
    · rw [if_pos hc] at hr
      simp [x_ref15_find_0, hl1, k0, k1, k5, hlt, hx, hw, hc]
      exact hΦ _ _ _ (.inr ⟨rfl, by simp [hl1]; exact hr⟩)
    · have hc' : ¬a.toList = x.toList := fun e => hc e.symm
      rw [if_neg hc] at hr
      simp [x_ref15_find_0, hl1, k0, k1, k5, hlt, hx, hw, hc']
      exact ⟨n - 1, by omega, hJ _ _ _ ⟨i + 1, by omega, by simp [hl1], hr⟩⟩
  · rw [List.drop_eq_nil_of_le (by omega)] at hr
    simp [x_ref15_find_0, hl1, k0, k5, hlt]
    exact hΦ _ _ _ (.inl ⟨rfl, hr.symm⟩)
theorem pc_find (m : Bool × Bool) (l : List ByteArray) (x : ByteArray) (hlen : l.length ≤ 1099511627776) : pc Q n_ref15_find [strsV m l, .str x] = some (.int .i64 (idx (eqS x) l)) := by
  refine pcQ res_ref15_find rfl (by simp [x_ref15_find]) fun fr hl ha => ?_
  have h0 := ha 0
  have h1 := ha 1
  clear ha
  simp [x_ref15_find, strsV] at hl h0 h1
  simp [x_ref15_find, hl]
  refine (rloop_find m l x hlen _ _ (by simp [hl]) (by simp [hl, h0]) (by simp [hl, h1]) (by simp [hl])).mono ?_
  rintro e fr' h' ⟨K, ⟨rfl, he⟩ | ⟨rfl, h4⟩⟩
  · have hl' : fr'.length = 19 := K.1.trans (by simp [hl])
    simp [hl', he]
  · simp [h4]
theorem rloop_hash (s : ByteArray) (hs : s.size ≤ 1099511627776) (fr : Fr) (h : AH) (hl : fr.length = 14) (h0 : look fr 0 = .str s) (h3 : look fr 3 = .int .i64 0) :
    Ends (lp (evalCode (lim Q) (ctxF n_ref15_hash) x_ref15_hash_0) (fr, h)) fun e fr' h' => Kp x_ref15_hash_0.wr fr fr' ∧ (e = .exit 0 ∧ hashB s = false ∨ e = .ret ∧ look fr' 2 = .bool true ∧ hashB s = true) := by
  refine Ends_lpw rfl fr (fun n fr h => ∃ i : Nat, i + n = s.size ∧ look fr 3 = .int .i64 (i : Nat) ∧ ((bys s).drop i).contains 35 = hashB s) ?_ s.size h ⟨0, by omega, h3, rfl⟩
  rintro J Φ hJ hΦ n fr1 h1' K ⟨i, hi, k3, hr⟩
  have hl1 : fr1.length = 14 := K.1.trans hl
  have k0 := (K.2 0 (by decide)).trans h0
  have hlen := bys_len s
  by_cases hlt : i < s.size
  · have hlt' : i < (bys s).length := by omega
    have hx : s[i]? = some (bys s)[i] := by rw [bys_get, List.getElem?_eq_getElem hlt']
    have hw : IntKind.i64.wrap ((i : Int) + 1) = (i : Int) + 1 := wrap_id (by omega) (by omega)
    rw [List.drop_eq_getElem_cons hlt', List.contains_cons] at hr
    generalize (bys s)[i] = c at *
    have hsi : s[i]'hlt = c := by rw [getElem?_pos s i hlt] at hx; exact Option.some.inj hx
    by_cases hc : c = 35
    · subst hc
      simp [x_ref15_hash_0, hl1, k0, k3, hlt, hsi, hw]
      exact hΦ _ _ _ (.inr ⟨rfl, by simp [hl1], by simpa using hr.symm⟩)
    · have hc' : ¬(c.toNat : Int) = 35 := by
        intro e
        apply hc
        have e2 : c.toNat = 35 := by omega
        exact UInt8.toNat_inj.1 e2
      have hb : ((35 : UInt8) == c) = false := by simp; exact fun e => hc e.symm
      rw [hb, Bool.false_or] at hr
      simp [x_ref15_hash_0, hl1, k0, k3, hlt, hsi, hw, hc']
      exact ⟨n - 1, by omega, hJ _ _ _ ⟨i + 1, by omega, by simp [hl1], hr⟩⟩
  · rw [List.drop_eq_nil_of_le (by omega)] at hr
    simp [x_ref15_hash_0, hl1, k0, k3, hlt]
    exact hΦ _ _ _ (.inl ⟨rfl, by simpa using hr.symm⟩)
theorem pc_hash (s : ByteArray) (hs : s.size ≤ 1099511627776) : pc Q n_ref15_hash [.str s] = some (.bool (hashB s)) := by
  refine pcQ res_ref15_hash rfl (by simp [x_ref15_hash]) fun fr hl ha => ?_
  have h0 := ha 0
  clear ha
  simp [x_ref15_hash] at hl h0
  simp [x_ref15_hash, hl]
  refine (rloop_hash s hs _ _ (by simp [hl]) (by simp [hl, h0]) (by simp [hl])).mono ?_
  rintro e fr' h' ⟨K, ⟨rfl, he⟩ | ⟨rfl, h2, he⟩⟩
  · have hl' : fr'.length = 14 := K.1.trans (by simp [hl])
    simp [hl', he]
  · simp [h2, he]
def agentV (a : ByteArray) : AV := .agg [.int .i64 2, .str a, .int .i64 1, sl (true, false) 4 []]
def agentE (a : ByteArray) : Int := if nameB a = true then 0 else 2
theorem pc_agent (a : ByteArray) : pc Q n_cast_agent [.str a] = some (agentV a) := by
  refine pcQ res_cast_agent rfl (by simp [x_cast_agent]) fun fr hl ha => ?_
  have h0 := ha 0
  clear ha
  simp [x_cast_agent] at hl h0
  have e : sl (true, false) 1 [] = sl (true, false) 4 [] := sl_nil_any _ rfl _ _
  simp [x_cast_agent, hl, h0, buildParts, fillParts, agentV, e]
theorem loop_ckag (fr : Fr) (h : AH) (hl : fr.length = 73) (h58 : look fr 58 = .int .i64 0) (h59 : look fr 59 = .int .i64 0) :
    Ends (lp (evalCode (lim Q) (ctxF n_term_check) x_term_check_0) (fr, h)) fun e fr' h' => Kp x_term_check_0.wr fr fr' ∧ e = .exit 1 ∧ h' = h := by
  refine Ends_lpw rfl fr (fun n fr h' => look fr 59 = .int .i64 0 ∧ h' = h) ?_ 0 h ⟨h59, rfl⟩
  rintro J Φ hJ hΦ n fr1 h1' K ⟨k59, rfl⟩
  have hl1 : fr1.length = 73 := K.1.trans hl
  have k58 := (K.2 58 (by decide)).trans h58
  simp [x_term_check_0, hl1, k58, k59]
  exact hΦ _ _ _ ⟨rfl, rfl⟩
theorem rc_check_agent (B : List AV) (a : ByteArray) : rc Q n_term_check [agentV a, .int .i64 1, .ptr 1 0, .ptr 2 0] ⟨[B, [.int .i64 0], [.int .i64 0]], []⟩ =
    some (.int .i64 (agentE a), ⟨[B, [.int .i64 1], [.int .i64 1], [.int .i64 2, .str a, .int .i64 1, sl (true, false) 4 []]], []⟩) := by
  obtain ⟨v, h', hrc, rfl, rfl⟩ := rcQ (f := n_term_check) (args := [agentV a, .int .i64 1, .ptr 1 0, .ptr 2 0]) (h := ⟨[B, [.int .i64 0], [.int .i64 0]], []⟩)
    (Φ := fun v h' => v = .int .i64 (agentE a) ∧ h' = ⟨[B, [.int .i64 1], [.int .i64 1], [.int .i64 2, .str a, .int .i64 1, sl (true, false) 4 []]], []⟩) res_term_check (by simp [x_term_check]) fun fr hl ha => by
    have h0 := ha 0
    have h1 := ha 1
    have h2 := ha 2
    have h3 := ha 3
    clear ha
    simp [x_term_check, agentV] at hl h0 h1 h2 h3
    have hN := pc_isName a
    have w1 : IntKind.i64.wrap 1 = 1 := wrap_id (by omega) (by omega)
    cases hn : nameB a with
    | false =>
      rw [hn] at hN
      simp [x_term_check, hl, h0, h1, h2, h3, hN, w1, agentE, hn]
    | true =>
      rw [hn] at hN
      simp [x_term_check, hl, h0, h1, h2, h3, hN, w1, agentE, hn]
      refine (loop_ckag _ _ (by simp [hl]) (by simp [hl]) (by simp [hl])).mono ?_
      rintro e fr' h' ⟨K, rfl, rfl⟩
      have hl' : fr'.length = 73 := K.1.trans (by simp [hl])
      simp [hl']
  exact hrc
theorem pc_ValidAgent (a : ByteArray) : pc Q n_term_Valid [agentV a] = some (.int .i64 (agentE a)) := by
  refine pcQ res_term_Valid rfl (by simp [x_term_Valid]) fun fr hl ha => ?_
  have h0 := ha 0
  clear ha
  have hC := rc_check_agent [.int .i64 2, .str a, .int .i64 1, sl (true, false) 4 []] a
  simp only [agentV] at hC
  simp [x_term_Valid, agentV] at hl h0
  cases hn : nameB a with
  | false =>
    simp only [agentE, hn] at hC
    simp at hC
    simp [x_term_Valid, hl, h0, hC, agentE, hn]
  | true =>
    simp only [agentE, hn] at hC
    simp at hC
    simp [x_term_Valid, hl, h0, hC, agentE, hn]
theorem pc_hasHash (a : ByteArray) : pc Q n_strings_Contains [.str a, .str (bs [35])] = some (.bool (hashB a)) := pc_has a 35
def agentsFrom (done : List ByteArray) : List ByteArray → Int
  | [] => 0
  | a :: r => if nameB a = true ∧ hashB a = false then (if done.any (eqS a) = true then 5 else agentsFrom (done ++ [a]) r) else 2
def badFrom (ag : List ByteArray) (last : Int) : List ByteArray → Int
  | [] => 0
  | b :: r => if idx (eqS b) ag < 0 then 4 else if idx (eqS b) ag ≤ last then 5 else badFrom ag (idx (eqS b) ag) r
def validC (ag bad : List ByteArray) : Int :=
  if ag = [] then 8 else if (6 : Int) < ag.length then 3 else if agentsFrom [] ag ≠ 0 then agentsFrom [] ag else badFrom ag (-1) bad
def castV (ma mb : Bool × Bool) (ag bad : List ByteArray) : AV := .agg [strsV ma ag, strsV mb bad]
theorem loop_Valid1 (ma mb : Bool × Bool) (ag bad : List ByteArray) (hag : ag.length ≤ 1099511627776) (fr : Fr) (hl : fr.length = 60) (h1 : look fr 1 = .ptr 0 0) (h20 : look fr 20 = sl ma 1 (ag.map AV.str)) (h21 : look fr 21 = .int .i64 ag.length) (h22 : look fr 22 = .int .i64 0) :
    Ends (lp (evalCode (lim Q) (ctxF n_cast_Valid) x_cast_Valid_1) (fr, ⟨[[sl ma 1 (ag.map AV.str), sl mb 1 (bad.map AV.str)]], []⟩)) fun e fr' h' => Kp x_cast_Valid_1.wr fr fr' ∧ h' = ⟨[[sl ma 1 (ag.map AV.str), sl mb 1 (bad.map AV.str)]], []⟩ ∧
      (e = .exit 1 ∧ agentsFrom [] ag = 0 ∨ e = .ret ∧ look fr' 2 = .int .i64 (agentsFrom [] ag) ∧ agentsFrom [] ag ≠ 0) := by
  refine Ends_lpw rfl fr (fun n fr h => ∃ i, i + n = ag.length ∧ h = ⟨[[sl ma 1 (ag.map AV.str), sl mb 1 (bad.map AV.str)]], []⟩ ∧ look fr 22 = .int .i64 (i : Nat) ∧ agentsFrom (ag.take i) (ag.drop i) = agentsFrom [] ag) ?_ ag.length _ ⟨0, by omega, rfl, h22, rfl⟩
  rintro J Φ hJ hΦ n fr1 h1' K ⟨i, hi, rfl, k22, hr⟩
  have hl1 : fr1.length = 60 := K.1.trans hl
  have k1 := (K.2 1 (by decide)).trans h1
  have k20 := (K.2 20 (by decide)).trans h20
  have k21 := (K.2 21 (by decide)).trans h21
  by_cases hlt : i < ag.length
  · have hx := nth_map (f := AV.str) (List.getElem?_eq_getElem hlt)
    have hw : IntKind.i64.wrap ((i : Int) + 1) = (i : Int) + 1 := wrap_id (by omega) (by omega)
    have hs : ∀ h, slcA h 1 (sl ma 1 (ag.map AV.str)) (some none) (some (some (i : Int))) (some none) = _ := fun h => slc_take h ma 1 (by omega) (ag.map AV.str) i (by simp; omega)
    have hC := pc_ContainsStr (ma.1 && decide (i = (ag.map AV.str).length), ma.2 || !(ag.map AV.str).isEmpty) (ag.take i) ag[i] (by simp; omega)
    simp only [strsV, List.map_take] at hC
    generalize (ma.1 && decide (i = (ag.map AV.str).length), ma.2 || !(ag.map AV.str).isEmpty) = m1 at *
    rw [List.drop_eq_getElem_cons hlt] at hr
    simp only [agentsFrom] at hr
    rw [← List.take_succ_eq_append_getElem hlt] at hr
    generalize ag[i] = a at *
    have hA := pc_agent a
    have hV := pc_ValidAgent a
    have hH := pc_hasHash a
    simp only [agentV] at hA hV
    cases hn : nameB a with
    | false =>
      simp only [agentE, hn] at hV
      simp [hn] at hr
      simp [x_cast_Valid_1, hl1, k1, k20, k21, k22, hlt, hx, hw, hA, hV]
      exact hΦ _ _ _ ⟨rfl, .inr ⟨rfl, by simp [hl1]; exact hr, by omega⟩⟩
    | true =>
      simp only [agentE, hn] at hV
      cases hh : hashB a with
      | true =>
        rw [hh] at hH
        simp [hh] at hr
        simp [x_cast_Valid_1, hl1, k1, k20, k21, k22, hlt, hx, hw, hA, hV, hH]
        exact hΦ _ _ _ ⟨rfl, .inr ⟨rfl, by simp [hl1]; exact hr, by omega⟩⟩
      | false =>
        rw [hh] at hH
        rw [if_pos ⟨hn, hh⟩] at hr
        cases hc : (ag.take i).any (eqS a) with
        | true =>
          rw [hc] at hr hC
          simp at hr
          simp [x_cast_Valid_1, hl1, k1, k20, k21, k22, hlt, hx, hw, hA, hV, hH, boundA, hs, hC]
          exact hΦ _ _ _ ⟨rfl, .inr ⟨rfl, by simp [hl1]; exact hr, by omega⟩⟩
        | false =>
          rw [hc] at hr hC
          simp at hr
          simp [x_cast_Valid_1, hl1, k1, k20, k21, k22, hlt, hx, hw, hA, hV, hH, boundA, hs, hC]
          exact ⟨n - 1, by omega, hJ _ _ _ ⟨i + 1, by omega, rfl, by simp [hl1], hr⟩⟩
  · rw [List.drop_eq_nil_of_le (by omega)] at hr
    simp [x_cast_Valid_1, hl1, k21, k22, hlt]
    exact hΦ _ _ _ ⟨rfl, .inl ⟨rfl, hr.symm⟩⟩
theorem loop_Valid0 (ma mb : Bool × Bool) (ag bad : List ByteArray) (hag : ag.length ≤ 1099511627776) (hbad : bad.length ≤ 1099511627776) (fr : Fr) (hl : fr.length = 60) (h1 : look fr 1 = .ptr 0 0) (h43 : look fr 43 = sl mb 1 (bad.map AV.str)) (h44 : look fr 44 = .int .i64 bad.length) (h45 : look fr 45 = .int .i64 0) (h5 : look fr 5 = .int .i64 (-1)) :
    Ends (lp (evalCode (lim Q) (ctxF n_cast_Valid) x_cast_Valid_0) (fr, ⟨[[sl ma 1 (ag.map AV.str), sl mb 1 (bad.map AV.str)]], []⟩)) fun e fr' h' => Kp x_cast_Valid_0.wr fr fr' ∧
      (e = .exit 3 ∧ badFrom ag (-1) bad = 0 ∨ e = .ret ∧ look fr' 2 = .int .i64 (badFrom ag (-1) bad)) := by
  refine Ends_lpw rfl fr (fun n fr h => ∃ (i : Nat) (last : Int), i + n = bad.length ∧ h = ⟨[[sl ma 1 (ag.map AV.str), sl mb 1 (bad.map AV.str)]], []⟩ ∧ look fr 45 = .int .i64 (i : Nat) ∧ look fr 5 = .int .i64 last ∧ badFrom ag last (bad.drop i) = badFrom ag (-1) bad) ?_ bad.length _ ⟨0, -1, by omega, rfl, h45, h5, rfl⟩
  rintro J Φ hJ hΦ n fr1 h1' K ⟨i, last, hi, rfl, k45, k5, hr⟩
  have hl1 : fr1.length = 60 := K.1.trans hl
  have k1 := (K.2 1 (by decide)).trans h1
  have k43 := (K.2 43 (by decide)).trans h43
  have k44 := (K.2 44 (by decide)).trans h44
  by_cases hlt : i < bad.length
  · have hx := nth_map (f := AV.str) (List.getElem?_eq_getElem hlt)
    have hw : IntKind.i64.wrap ((i : Int) + 1) = (i : Int) + 1 := wrap_id (by omega) (by omega)
    rw [List.drop_eq_getElem_cons hlt] at hr
    simp only [badFrom] at hr
    generalize bad[i] = b at *
    have hI := pc_IndexStr ma ag b hag
    simp only [strsV] at hI
    generalize idx (eqS b) ag = k at *
    by_cases hk : k < 0
    · rw [if_pos hk] at hr
      simp [x_cast_Valid_0, hl1, k1, k43, k44, k45, k5, hlt, hx, hw, hI, hk]
      exact hΦ _ _ _ (.inr ⟨rfl, by simp [hl1]; exact hr⟩)
    · rw [if_neg hk] at hr
      by_cases hkl : k ≤ last
      · rw [if_pos hkl] at hr
        simp [x_cast_Valid_0, hl1, k1, k43, k44, k45, k5, hlt, hx, hw, hI, hk, hkl]
        exact hΦ _ _ _ (.inr ⟨rfl, by simp [hl1]; exact hr⟩)
      · rw [if_neg hkl] at hr
        simp [x_cast_Valid_0, hl1, k1, k43, k44, k45, k5, hlt, hx, hw, hI, hk, hkl]
        exact ⟨n - 1, by omega, hJ _ _ _ ⟨i + 1, k, by omega, rfl, by simp [hl1], by simp [hl1], hr⟩⟩
  · rw [List.drop_eq_nil_of_le (by omega)] at hr
    simp [x_cast_Valid_0, hl1, k44, k45, hlt]
    exact hΦ _ _ _ (.inl ⟨rfl, hr.symm⟩)
theorem pc_castValid (ma mb : Bool × Bool) (ag bad : List ByteArray) (hag : ag.length ≤ 1099511627776) (hbad : bad.length ≤ 1099511627776) : pc Q n_cast_Valid [castV ma mb ag bad] = some (.int .i64 (validC ag bad)) := by
  refine pcQ res_cast_Valid rfl (by simp [x_cast_Valid]) fun fr hl ha => ?_
  have h0 := ha 0
  clear ha
  simp [x_cast_Valid, castV, strsV] at hl h0
  by_cases he : ag = []
  · subst he
    simp [x_cast_Valid, hl, h0, validC]
  by_cases h6 : (6 : Int) < ag.length
  · simp [x_cast_Valid, hl, h0, validC, he, h6]
  have key : ∀ v, validC ag bad = v → Ends (evalCode (lim Q) (ctxF n_cast_Valid) x_cast_Valid.body (fr, ⟨[], []⟩)) (FIN x_cast_Valid.results (.int .i64 v)) := by
    intro v hv
    rw [validC, if_neg he, if_neg h6] at hv
    simp [x_cast_Valid, hl, h0, he, h6]
    refine (loop_Valid1 ma mb ag bad hag _ (by simp [hl]) (by simp [hl]) (by simp [hl]) (by simp [hl]) (by simp [hl])).mono ?_
    rintro e fr1 h' ⟨K, rfl, ⟨rfl, h0⟩ | ⟨rfl, h2, h0⟩⟩
    · have hl1 : fr1.length = 60 := K.1.trans (by simp [hl])
      have k1 : look fr1 1 = .ptr 0 0 := (K.2 1 (by decide)).trans (by simp [hl])
      rw [if_neg (by simp [h0])] at hv
      clear K
      simp [hl1, k1]
      refine (loop_Valid0 ma mb ag bad hag hbad _ (by simp [hl1]) (by simp [hl1, k1]) (by simp [hl1]) (by simp [hl1]) (by simp [hl1]) (by simp [hl1])).mono ?_
      rintro e fr2 h' ⟨K, ⟨rfl, h0⟩ | ⟨rfl, h2⟩⟩
      · have hl2 : fr2.length = 60 := K.1.trans (by simp [hl1])
        rw [hv] at h0
        simp [hl2, h0]
      · rw [hv] at h2
        simp [h2]
    · rw [if_pos h0] at hv
      rw [hv] at h2
      simp [h2]
  exact key _ rfl
theorem rloop_Valid1 (ma mb : Bool × Bool) (ag bad : List ByteArray) (hag : ag.length ≤ 1099511627776) (hsz : ∀ a ∈ ag, a.size ≤ 1099511627776) (fr : Fr) (hl : fr.length = 69) (h1 : look fr 1 = .ptr 0 0) (h3 : look fr 3 = .int .i64 0) :
    Ends (lp (evalCode (lim Q) (ctxF n_ref15_Valid) x_ref15_Valid_1) (fr, ⟨[[sl ma 1 (ag.map AV.str), sl mb 1 (bad.map AV.str)]], []⟩)) fun e fr' h' => Kp x_ref15_Valid_1.wr fr fr' ∧ h' = ⟨[[sl ma 1 (ag.map AV.str), sl mb 1 (bad.map AV.str)]], []⟩ ∧
      (e = .exit 0 ∧ agentsFrom [] ag = 0 ∨ e = .ret ∧ look fr' 2 = .int .i64 (agentsFrom [] ag) ∧ agentsFrom [] ag ≠ 0) := by
  refine Ends_lpw rfl fr (fun n fr h => ∃ i, i + n = ag.length ∧ h = ⟨[[sl ma 1 (ag.map AV.str), sl mb 1 (bad.map AV.str)]], []⟩ ∧ look fr 3 = .int .i64 (i : Nat) ∧ agentsFrom (ag.take i) (ag.drop i) = agentsFrom [] ag) ?_ ag.length _ ⟨0, by omega, rfl, h3, rfl⟩
  rintro J Φ hJ hΦ n fr1 h1' K ⟨i, hi, rfl, k3, hr⟩
  have hl1 : fr1.length = 69 := K.1.trans hl
  have k1 := (K.2 1 (by decide)).trans h1
  by_cases hlt : i < ag.length
  · have hx := nth_map (f := AV.str) (List.getElem?_eq_getElem hlt)
    have hw : IntKind.i64.wrap ((i : Int) + 1) = (i : Int) + 1 := wrap_id (by omega) (by omega)
    have hs : ∀ h, slcA h 1 (sl ma 1 (ag.map AV.str)) (some none) (some (some (i : Int))) (some none) = _ := fun h => slc_take h ma 1 (by omega) (ag.map AV.str) i (by simp; omega)
    have hC := pc_find (ma.1 && decide (i = (ag.map AV.str).length), ma.2 || !(ag.map AV.str).isEmpty) (ag.take i) ag[i] (by simp; omega)
    have hge := idxFrom_ge (eqS ag[i]) (ag.take i) 0
    have hH := pc_hash ag[i] (hsz _ (List.getElem_mem hlt))
    simp only [strsV, List.map_take, idx] at hC
    generalize (ma.1 && decide (i = (ag.map AV.str).length), ma.2 || !(ag.map AV.str).isEmpty) = m1 at *
    rw [List.drop_eq_getElem_cons hlt] at hr
    simp only [agentsFrom] at hr
    rw [← List.take_succ_eq_append_getElem hlt] at hr
    generalize ag[i] = a at *
    have hN := pc_IsName a
    generalize idxFrom (eqS a) 0 (ag.take i) = q at *
    cases hn : nameB a with
    | false =>
      rw [hn] at hN
      simp [hn] at hr
      simp [x_ref15_Valid_1, hl1, k1, k3, hlt, hx, hw, hN]
      exact hΦ _ _ _ ⟨rfl, .inr ⟨rfl, by simp [hl1]; exact hr, by omega⟩⟩
    | true =>
      rw [hn] at hN
      cases hh : hashB a with
      | true =>
        rw [hh] at hH
        simp [hh] at hr
        simp [x_ref15_Valid_1, hl1, k1, k3, hlt, hx, hw, hN, hH]
        exact hΦ _ _ _ ⟨rfl, .inr ⟨rfl, by simp [hl1]; exact hr, by omega⟩⟩
      | false =>
        rw [hh] at hH
        rw [if_pos ⟨hn, hh⟩] at hr
        by_cases hc : (ag.take i).any (eqS a) = true
        · have hq := hge.2 hc
          rw [if_pos hc] at hr
          simp [x_ref15_Valid_1, hl1, k1, k3, hlt, hx, hw, hN, hH, boundA, hs, hC, hq]
          exact hΦ _ _ _ ⟨rfl, .inr ⟨rfl, by simp [hl1]; exact hr, by omega⟩⟩
        · have hq : ¬0 ≤ q := fun h => hc (hge.1 h)
          rw [if_neg hc] at hr
          simp [x_ref15_Valid_1, hl1, k1, k3, hlt, hx, hw, hN, hH, boundA, hs, hC, hq]
          exact ⟨n - 1, by omega, hJ _ _ _ ⟨i + 1, by omega, rfl, by simp [hl1], hr⟩⟩
  · rw [List.drop_eq_nil_of_le (by omega)] at hr
    simp [x_ref15_Valid_1, hl1, k1, k3, hlt]
    exact hΦ _ _ _ ⟨rfl, .inl ⟨rfl, hr.symm⟩⟩
theorem rloop_Valid0 (ma mb : Bool × Bool) (ag bad : List ByteArray) (hag : ag.length ≤ 1099511627776) (hbad : bad.length ≤ 1099511627776) (fr : Fr) (hl : fr.length = 69) (h1 : look fr 1 = .ptr 0 0) (h5 : look fr 5 = .int .i64 0) (h4 : look fr 4 = .int .i64 (-1)) :
    Ends (lp (evalCode (lim Q) (ctxF n_ref15_Valid) x_ref15_Valid_0) (fr, ⟨[[sl ma 1 (ag.map AV.str), sl mb 1 (bad.map AV.str)]], []⟩)) fun e fr' h' => Kp x_ref15_Valid_0.wr fr fr' ∧
      (e = .exit 2 ∧ badFrom ag (-1) bad = 0 ∨ e = .ret ∧ look fr' 2 = .int .i64 (badFrom ag (-1) bad)) := by
  refine Ends_lpw rfl fr (fun n fr h => ∃ (i : Nat) (last : Int), i + n = bad.length ∧ h = ⟨[[sl ma 1 (ag.map AV.str), sl mb 1 (bad.map AV.str)]], []⟩ ∧ look fr 5 = .int .i64 (i : Nat) ∧ look fr 4 = .int .i64 last ∧ badFrom ag last (bad.drop i) = badFrom ag (-1) bad) ?_ bad.length _ ⟨0, -1, by omega, rfl, h5, h4, rfl⟩
  rintro J Φ hJ hΦ n fr1 h1' K ⟨i, last, hi, rfl, k5, k4, hr⟩
  have hl1 : fr1.length = 69 := K.1.trans hl
  have k1 := (K.2 1 (by decide)).trans h1
  by_cases hlt : i < bad.length
  · have hx := nth_map (f := AV.str) (List.getElem?_eq_getElem hlt)
    have hw : IntKind.i64.wrap ((i : Int) + 1) = (i : Int) + 1 := wrap_id (by omega) (by omega)
    rw [List.drop_eq_getElem_cons hlt] at hr
    simp only [badFrom] at hr
    generalize bad[i] = b at *
    have hI := pc_find ma ag b hag
    simp only [strsV] at hI
    generalize idx (eqS b) ag = k at *
    by_cases hk : k < 0
    · rw [if_pos hk] at hr
      simp [x_ref15_Valid_0, hl1, k1, k4, k5, hlt, hx, hw, hI, hk]
      exact hΦ _ _ _ (.inr ⟨rfl, by simp [hl1]; exact hr⟩)
    · rw [if_neg hk] at hr
      by_cases hkl : k ≤ last
      · rw [if_pos hkl] at hr
        simp [x_ref15_Valid_0, hl1, k1, k4, k5, hlt, hx, hw, hI, hk, hkl]
        exact hΦ _ _ _ (.inr ⟨rfl, by simp [hl1]; exact hr⟩)
      · rw [if_neg hkl] at hr
        simp [x_ref15_Valid_0, hl1, k1, k4, k5, hlt, hx, hw, hI, hk, hkl]
        exact ⟨n - 1, by omega, hJ _ _ _ ⟨i + 1, k, by omega, rfl, by simp [hl1], by simp [hl1], hr⟩⟩
  · rw [List.drop_eq_nil_of_le (by omega)] at hr
    simp [x_ref15_Valid_0, hl1, k1, k5, hlt]
    exact hΦ _ _ _ (.inl ⟨rfl, hr.symm⟩)
theorem pc_refValid (ma mb : Bool × Bool) (ag bad : List ByteArray) (hag : ag.length ≤ 1099511627776) (hbad : bad.length ≤ 1099511627776) (hsz : ∀ a ∈ ag, a.size ≤ 1099511627776) : pc Q n_ref15_Valid [castV ma mb ag bad] = some (.int .i64 (validC ag bad)) := by
  refine pcQ res_ref15_Valid rfl (by simp [x_ref15_Valid]) fun fr hl ha => ?_
  have h0 := ha 0
  clear ha
  simp [x_ref15_Valid, castV, strsV] at hl h0
  by_cases he : ag = []
  · subst he
    simp [x_ref15_Valid, hl, h0, validC]
  by_cases h6 : (6 : Int) < ag.length
  · simp [x_ref15_Valid, hl, h0, validC, he, h6]
  have key : ∀ v, validC ag bad = v → Ends (evalCode (lim Q) (ctxF n_ref15_Valid) x_ref15_Valid.body (fr, ⟨[], []⟩)) (FIN x_ref15_Valid.results (.int .i64 v)) := by
    intro v hv
    rw [validC, if_neg he, if_neg h6] at hv
    simp [x_ref15_Valid, hl, h0, he, h6]
    refine (rloop_Valid1 ma mb ag bad hag hsz _ (by simp [hl]) (by simp [hl]) (by simp [hl])).mono ?_
    rintro e fr1 h' ⟨K, rfl, ⟨rfl, h0⟩ | ⟨rfl, h2, h0⟩⟩
    · have hl1 : fr1.length = 69 := K.1.trans (by simp [hl])
      have k1 : look fr1 1 = .ptr 0 0 := (K.2 1 (by decide)).trans (by simp [hl])
      rw [if_neg (by simp [h0])] at hv
      clear K
      simp [hl1, k1]
      refine (rloop_Valid0 ma mb ag bad hag hbad _ (by simp [hl1]) (by simp [hl1, k1]) (by simp [hl1]) (by simp [hl1])).mono ?_
      rintro e fr2 h' ⟨K, ⟨rfl, h0⟩ | ⟨rfl, h2⟩⟩
      · have hl2 : fr2.length = 69 := K.1.trans (by simp [hl1])
        rw [hv] at h0
        simp [hl2, h0]
      · rw [hv] at h2
        simp [h2]
    · rw [if_pos h0] at hv
      rw [hv] at h2
      simp [h2]
  exact key _ rfl
def Has (v : AV) (h : AH) (xs : List ByteArray) : Prop := (v = sl (true, true) 1 [] ∧ xs = []) ∨ (v = .sl 0 xs.length 0 xs.length ∧ h.fams[0]? = some ⟨xs.map AV.str, 1, false⟩)
theorem loop_castFew (xs : List ByteArray) (hlen : xs.length ≤ 1099511627776) (fr : Fr) (h : AH) (hv : Has (look fr 3) h xs) (hl : fr.length = 27) (h4 : look fr 4 = .int .i64 0) :
    Ends (lp (evalCode (lim Q) (ctxF n_ref15_Few) x_ref15_Few_0) (fr, h)) fun e fr' h' => Kp x_ref15_Few_0.wr fr fr' ∧ h' = h ∧ (e = .exit 0 ∨ e = .ret ∧ look fr' 2 = .bool false) := by
  refine Ends_lpw rfl fr (fun n fr h' => ∃ i : Nat, i + n = xs.length ∧ h' = h ∧ look fr 4 = .int .i64 (i : Nat)) ?_ xs.length h ⟨0, by omega, rfl, h4⟩
  rintro J Φ hJ hΦ n fr1 h1' K ⟨i, hi, rfl, k4⟩
  have hl1 : fr1.length = 27 := K.1.trans hl
  have e3 := K.2 3 (by decide)
  rcases hv with ⟨hv, rfl⟩ | ⟨hv, hf⟩
  · have k3 := e3.trans hv
    have : i = 0 := by simpa using (show i = 0 by simp at hi; omega)
    subst this
    simp [x_ref15_Few_0, hl1, k3, k4]
    exact hΦ _ _ _ ⟨rfl, .inl rfl⟩
  · have k3 := e3.trans hv
    by_cases hlt : i < xs.length
    · have hw : IntKind.i64.wrap ((i : Int) + 1) = (i : Int) + 1 := wrap_id (by omega) (by omega)
      obtain ⟨a, ha⟩ : ∃ a, xs[i]'hlt = a := ⟨_, rfl⟩
      by_cases h60 : (60 : Int) < a.size
      · simp [x_ref15_Few_0, hl1, k3, k4, hlt, hf, ha, hw, h60]
        exact hΦ _ _ _ ⟨rfl, .inr ⟨rfl, by simp [hl1]⟩⟩
      · simp [x_ref15_Few_0, hl1, k3, k4, hlt, hf, ha, hw, h60]
        exact ⟨n - 1, by omega, hJ _ _ _ ⟨i + 1, by omega, rfl, by simp [hl1]⟩⟩
    · simp [x_ref15_Few_0, hl1, k3, k4, hlt]
      exact hΦ _ _ _ ⟨rfl, .inl rfl⟩
theorem pc_castFew (ma mb : Bool × Bool) (ag bad : List ByteArray) (hag : ag.length + bad.length ≤ 1099511627776) : ∃ b, pc Q n_ref15_Few [castV ma mb ag bad] = some (.bool b) := by
  suffices h : ∃ r, pc Q n_ref15_Few [castV ma mb ag bad] = some r ∧ ∃ b, r = .bool b by
    obtain ⟨r, h1, b, rfl⟩ := h
    exact ⟨b, h1⟩
  refine pc_ends_ex (C := Q) ((Q_spec _).trans rfl) ((Q_code _).trans res_ref15_Few) (by simp [x_ref15_Few]) fun Ψ hΨ fr hl ha => ?_
  rw [Q_ctx]
  have h0 := ha 0
  clear ha
  simp [x_ref15_Few, castV, strsV] at hl h0
  have ra : (ag.length) * 16 ≤ roomA ∧ ag.length ≤ maxLen := by simp only [roomA, maxLen]; omega
  have rb : (bad.length) * 16 ≤ roomA ∧ bad.length ≤ maxLen := by simp only [roomA, maxLen]; omega
  have rab : (ag.length + bad.length) * 16 ≤ roomA ∧ ag.length + bad.length ≤ maxLen := by simp only [roomA, maxLen]; omega
  have hm : mutF n_ref15_Few = false := rfl
  by_cases hA : ag = []
  · subst hA
    by_cases hB : bad = []
    · subst hB
      simp [x_ref15_Few, hl, h0, sliceParts, app_sl]
      refine (loop_castFew [] (by simp) _ _ (.inl ⟨by simp [hl], rfl⟩) (by simp [hl]) (by simp [hl])).mono ?_
      rintro e fr2 h2 ⟨K, rfl, rfl | ⟨rfl, k2⟩⟩
      · have hl2 : fr2.length = 27 := K.1.trans (by simp [hl])
        have k3 : look fr2 3 = sl (true, true) 1 [] := (K.2 3 (by decide)).trans (by simp [hl])
        simp [hl2, k3]
        exact hΨ _ ⟨_, rfl⟩
      · simp [k2]
        exact hΨ _ ⟨_, rfl⟩
    · simp [x_ref15_Few, hl, h0, sliceParts, app_sl, rb, hB, hm]
      refine (loop_castFew bad (by omega) _ _ (.inr ⟨by simp [hl], by simp⟩) (by simp [hl]) (by simp [hl])).mono ?_
      rintro e fr2 h2 ⟨K, rfl, rfl | ⟨rfl, k2⟩⟩
      · have hl2 : fr2.length = 27 := K.1.trans (by simp [hl])
        have k3 : look fr2 3 = .sl 0 bad.length 0 bad.length := (K.2 3 (by decide)).trans (by simp [hl])
        simp [hl2, k3]
        exact hΨ _ ⟨_, rfl⟩
      · simp [k2]
        exact hΨ _ ⟨_, rfl⟩
  · simp [x_ref15_Few, hl, h0, sliceParts, app_sl, ra, hA, rab, hm]
    refine (loop_castFew (ag ++ bad) (by simp; omega) _ _ (.inr ⟨by simp [hl], by simp⟩) (by simp [hl]) (by simp [hl])).mono ?_
    rintro e fr2 h2 ⟨K, rfl, rfl | ⟨rfl, k2⟩⟩
    · have hl2 : fr2.length = 27 := K.1.trans (by simp [hl])
      have k3 : look fr2 3 = .sl 0 (ag.length + bad.length) 0 (ag.length + bad.length) := (K.2 3 (by decide)).trans (by simp [hl])
      simp [hl2, k3]
      exact hΨ _ ⟨_, rfl⟩
    · simp [k2]
      exact hΨ _ ⟨_, rfl⟩
end Go.Abs.Q
namespace Go.Abs
def Lsa (wr : Bool) (sz : Nat) (xs : List AV) (v : AV) (h : AH) : Prop := (∃ b, v = sl (true, b) sz xs) ∨ (xs ≠ [] ∧ ∃ k, v = .sl k xs.length 0 xs.length ∧ h.fams[k]? = some ⟨xs, sz, wr⟩)
theorem Lsa_nil (wr : Bool) (sz : Nat) (h : AH) : Lsa wr sz [] (.vs true 0 []) h := .inl ⟨false, by simp [sl]⟩
theorem Lsa_sl (wr : Bool) (sz : Nat) (xs : List AV) (b : Bool) (h : AH) : Lsa wr sz xs (sl (true, b) sz xs) h := .inl ⟨b, rfl⟩
theorem elems_sl (h : AH) (sz : Nat) (m : Bool × Bool) (xs : List AV) : elems h sz (sl m sz xs) = some xs := by
  cases xs with
  | nil => simp [elems, sl]
  | cons x xs => simp [elems, sl]
theorem Lsa_fams {wr : Bool} {sz : Nat} {xs : List AV} {v : AV} {h h' : AH} (hg : Lsa wr sz xs v h) (e : h'.fams = h.fams) : Lsa wr sz xs v h' := by
  rcases hg with hg | ⟨h1, k, h2, h3⟩
  · exact .inl hg
  · exact .inr ⟨h1, k, h2, by rw [e]; exact h3⟩
theorem Lsa_app {c : Ctx} {sz bytes : Nat} {xs ys : List AV} {v x : AV} {h : AH} (hg : Lsa c.mutApp sz xs v h) (hx : elems h sz x = some ys) (hb : (xs.length + ys.length) * bytes ≤ roomA ∧ xs.length + ys.length ≤ maxLen) :
    ∃ v' F', appendA c h sz bytes v x = some (v', ⟨h.boxes, F'⟩) ∧ Lsa c.mutApp sz (xs ++ ys) v' ⟨h.boxes, F'⟩ := by
  rcases hg with ⟨b, rfl⟩ | ⟨hne, k, rfl, hk⟩
  · simp only [sl, appendA, appendY, hx]
    by_cases hy : ys.length = 0
    · rw [if_pos hy]
      have : ys = [] := List.eq_nil_of_length_eq_zero hy
      subst this
      exact ⟨_, h.fams, rfl, .inl ⟨b, by simp [sl]⟩⟩
    · rw [if_neg hy]
      have hc : ((if (xs.isEmpty && !b) = true then 0 else sz) = sz ∨ xs.length = 0) ∧ (xs.length + ys.length) * bytes ≤ roomA ∧ xs.length + ys.length ≤ maxLen := by
        refine ⟨?_, hb⟩
        cases xs with
        | nil => exact .inr rfl
        | cons a l => exact .inl rfl
      rw [if_pos hc]
      exact ⟨_, _, rfl, .inr ⟨by intro e; rw [List.append_eq_nil_iff] at e; rw [e.2] at hy; exact hy rfl, h.fams.length, by rw [List.length_append], by simp⟩⟩
  · simp only [appendA, appendY, hx, hk]
    rw [if_pos ⟨trivial, trivial, by omega, hb.1, hb.2⟩]
    have hlt := (List.getElem?_eq_some_iff.1 hk).1
    exact ⟨_, _, rfl, .inr ⟨fun e => hne (List.append_eq_nil_iff.1 e).1, k, by rw [List.length_append], by simp [hlt]⟩⟩
theorem Lsa_frz {wr : Bool} {sz : Nat} {xs : List AV} {v : AV} {h : AH} (hg : Lsa wr sz xs v h) : ∃ m : Bool × Bool, ∀ (B : List (List AV)), frz1 ⟨B, h.fams⟩ true v = some (sl m sz xs) ∧ frz ⟨B, h.fams⟩ true v = some (sl m sz xs) := by
  rcases hg with ⟨b, rfl⟩ | ⟨hne, k, rfl, hk⟩
  · exact ⟨(true, b), fun B => ⟨rfl, rfl⟩⟩
  · refine ⟨(false, false), fun B => (fun h => ⟨h, h⟩) ?_⟩
    simp only [frz1, hk]
    rw [if_pos ⟨trivial, by omega, rfl⟩]
    cases xs with
    | nil => exact absurd rfl hne
    | cons x xs => simp [sl]
theorem Lsa_cells {wr : Bool} {sz : Nat} {xs : List AV} {v : AV} {h : AH} (hg : Lsa wr sz xs v h) : v.isTup = false ∧ v.cells = [v] ∧ isMB [v] = false ∧ ofCells false 1 [v] = some v := by
  rcases hg with ⟨b, rfl⟩ | ⟨_, k, rfl, _⟩ <;> exact ⟨rfl, rfl, rfl, rfl⟩
end Go.Abs
namespace Go.Abs.Q
open Go.Proofs
attribute [local simp] look_set_ne look_set_eq fin tupled code_loop toL_iff buildParts fillParts splice sliceParts
structure Fa where
  kind : Int
  goal : Int
  fm : Bool × Bool
  terms : List Tm
def faV (f : Fa) : AV := .agg [.int .i64 f.kind, .int .i64 f.goal, sl f.fm 4 (tmVs f.terms)]
structure Cl where
  bm : Bool × Bool
  body : List Fa
  head : Fa
def clV (c : Cl) : AV := .agg [sl c.bm 3 (c.body.map faV), .int .i64 c.head.kind, .int .i64 c.head.goal, sl c.head.fm 4 (tmVs c.head.terms)]
@[simp] theorem fa_cells (f : Fa) : (faV f).cells = [.int .i64 f.kind, .int .i64 f.goal, sl f.fm 4 (tmVs f.terms)] := rfl
@[simp] theorem fa_agg (f : Fa) : AV.agg [.int .i64 f.kind, .int .i64 f.goal, sl f.fm 4 (tmVs f.terms)] = faV f := rfl
@[simp] theorem cl_cells (c : Cl) : (clV c).cells = [sl c.bm 3 (c.body.map faV), .int .i64 c.head.kind, .int .i64 c.head.goal, sl c.head.fm 4 (tmVs c.head.terms)] := rfl
@[simp] theorem cl_agg (c : Cl) : AV.agg [sl c.bm 3 (c.body.map faV), .int .i64 c.head.kind, .int .i64 c.head.goal, sl c.head.fm 4 (tmVs c.head.terms)] = clV c := rfl
@[simp] theorem fa_isTup (f : Fa) : (faV f).isTup = false := rfl
@[simp] theorem fa_frz (h : AH) (am : Bool) (f : Fa) : frz h am (faV f) = some (faV f) := rfl
@[simp] theorem fa_tame (h : AH) (f : Fa) : tame h (faV f) = true := rfl
@[simp] theorem cl_isTup (f : Cl) : (clV f).isTup = false := rfl
@[simp] theorem cl_frz (h : AH) (am : Bool) (f : Cl) : frz h am (clV f) = some (clV f) := rfl
@[simp] theorem cl_tame (h : AH) (f : Cl) : tame h (clV f) = true := rfl
def erF (f : Fa) : Fa := { f with fm := (false, false), terms := f.terms.map erT }
def erC (c : Cl) : Cl := { c with bm := (false, false), body := c.body.map erF, head := erF c.head }
def attF (t : Tm) : Fa := ⟨1, 0, (true, true), [t]⟩
theorem pc_app (b : ByteArray) (m : Bool × Bool) (l : List Tm) : pc Q n_translate_app [.str b, sl m 4 (tmVs l)] = some (tmV (.mk 3 b 0 m l)) := by
  refine pcQ res_translate_app rfl (by simp [x_translate_app]) fun fr hl ha => ?_
  have h0 := ha 0
  have h1 := ha 1
  clear ha
  simp [x_translate_app] at hl h0 h1
  simp [x_translate_app, hl, h0, h1, tmV]
theorem pc_refApp (b : ByteArray) (m : Bool × Bool) (l : List Tm) (hlen : l.length ≤ 1048576) : ∃ m', pc Q n_ref01_App [.str b, sl m 4 (tmVs l)] = some (tmV (.mk 3 b 0 m' l)) := by
  suffices h : ∃ v, pc Q n_ref01_App [.str b, sl m 4 (tmVs l)] = some v ∧ ∃ m', v = tmV (.mk 3 b 0 m' l) by
    obtain ⟨v, h1, m', rfl⟩ := h
    exact ⟨m', h1⟩
  have hr : (([] : List AV).length + (tmVs l).length) * 56 ≤ roomA ∧ ([] : List AV).length + (tmVs l).length ≤ maxLen := by
    rw [tmVs_map]
    simp only [roomA, maxLen, List.length_nil, List.length_map]
    omega
  obtain ⟨w, F, q1, q2⟩ := Lsa_app (c := ctxF n_ref01_App) (sz := 4) (h := ⟨[[.int .i64 0, .str (bs []), .int .i64 0, .vs true 0 []]], []⟩) (x := sl m 4 (tmVs l)) (Lsa_sl _ _ _ true _) (elems_sl _ _ _ _) hr
  obtain ⟨c1, c2, c3, c4⟩ := Lsa_cells q2
  obtain ⟨mm, hf⟩ := Lsa_frz q2
  refine pc_ends_ex (C := Q) ((Q_spec _).trans rfl) ((Q_code _).trans res_ref01_App) (by simp [x_ref01_App]) fun Ψ hΨ fr hl ha => ?_
  rw [Q_ctx]
  have h0 := ha 0
  have h1 := ha 1
  clear ha
  simp [x_ref01_App] at hl h0 h1
  have hf := fun B => (hf B).1
  simp [x_ref01_App, hl, h0, h1, q1, c1, c2, c3, c4, hf]
  exact hΨ _ ⟨mm, rfl⟩
theorem pc_variable (b : ByteArray) (s : Int) : pc Q n_translate_variable [.str b, .int .i64 s] = some (tmV (.mk 1 b s (true, false) [])) := by
  refine pcQ res_translate_variable rfl (by simp [x_translate_variable]) fun fr hl ha => ?_
  have h0 := ha 0
  have h1 := ha 1
  clear ha
  simp [x_translate_variable] at hl h0 h1
  simp [x_translate_variable, hl, h0, h1, tmV, tmVs]
  rfl
theorem pc_atom (b : ByteArray) (s : Int) : pc Q n_translate_atom [.str b, .int .i64 s] = some (tmV (.mk 2 b s (true, false) [])) := by
  refine pcQ res_translate_atom rfl (by simp [x_translate_atom]) fun fr hl ha => ?_
  have h0 := ha 0
  have h1 := ha 1
  clear ha
  simp [x_translate_atom] at hl h0 h1
  simp [x_translate_atom, hl, h0, h1, tmV, tmVs]
  rfl
theorem pc_att (t : Tm) : pc Q n_translate_att [tmV t] = some (faV (attF t)) := by
  refine pcQ res_translate_att rfl (by simp [x_translate_att]) fun fr hl ha => ?_
  have h0 := ha 0
  clear ha
  simp [x_translate_att] at hl h0
  simp [x_translate_att, hl, h0, faV, attF, tmVs]
theorem pc_refAtt (t : Tm) : pc Q n_ref47_att [tmV t] = some (faV (attF t)) := by
  refine pcQ res_ref47_att rfl (by simp [x_ref47_att]) fun fr hl ha => ?_
  have h0 := ha 0
  clear ha
  simp [x_ref47_att] at hl h0
  simp [x_ref47_att, hl, h0, faV, attF, tmVs]
theorem loop_from (m : Bool × Bool) (l : List Tm) (hlen : l.length ≤ 1048576) (A C : List AV) (x1 x2 x3 : AV) (fr : Fr) (h : AH) (hh : h.boxes = [A, C, [.vs true 0 [], x1, x2, x3]]) (hl : fr.length = 26) (h5 : look fr 5 = .ptr 2 0) (h11 : look fr 11 = sl m 4 (tmVs l)) (h12 : look fr 12 = .int .i64 l.length) (h13 : look fr 13 = .int .i64 0) :
    Ends (lp (evalCode (lim Q) (ctxF n_translate_from) x_translate_from_0) (fr, h)) fun e fr' h' => Kp x_translate_from_0.wr fr fr' ∧ e = .exit 0 ∧ ∃ (B : List (List AV)) (w : AV), h'.boxes = A :: C :: [w, x1, x2, x3] :: B ∧ Lsa false 3 (l.map fun t => faV (attF t)) w h' := by
  refine Ends_lpw rfl fr (fun n fr h' => ∃ (i : Nat), i + n = l.length ∧ look fr 13 = .int .i64 (i : Nat) ∧ (∃ (B : List (List AV)) (w : AV), h'.boxes = A :: C :: [w, x1, x2, x3] :: B ∧ Lsa false 3 ((l.take i).map fun t => faV (attF t)) w h')) ?_ l.length h ⟨0, by omega, h13, ⟨[], _, hh, Lsa_nil _ _ _⟩⟩
  rintro J Φ hJ hΦ n fr1 H1 K ⟨i, hi, k13, hr⟩
  have hl1 : fr1.length = 26 := K.1.trans hl
  have k5 := (K.2 5 (by decide)).trans h5
  have k11 := (K.2 11 (by decide)).trans h11
  have k12 := (K.2 12 (by decide)).trans h12
  clear K
  by_cases hlt : i < l.length
  · have hwp : IntKind.i64.wrap ((i : Int) + 1) = (i : Int) + 1 := wrap_id (by omega) (by omega)
    obtain ⟨B, w, hB, hg⟩ := hr
    obtain ⟨bx, F⟩ := H1
    simp only at hB
    subst hB
    have hx : nth (tmVs l) i = some (tmV l[i]) := nth_tmVs (by simp [hlt])
    have hA := pc_att l[i]
    have hr2 : (((l.take i).map fun t => faV (attF t)).length + [faV (attF l[i])].length) * 40 ≤ roomA ∧ ((l.take i).map fun t => faV (attF t)).length + [faV (attF l[i])].length ≤ maxLen := by
      simp only [roomA, maxLen, List.length_map, List.length_take, List.length_cons, List.length_nil]
      omega
    obtain ⟨c1, c2, c3, c4⟩ := Lsa_cells hg
    obtain ⟨w', F', q1, q2⟩ := Lsa_app (c := ctxF n_translate_from) (sz := 3) (bytes := 40) (h := ⟨A :: C :: [w, x1, x2, x3] :: (B ++ [(tmV l[i]).cells]), F⟩) (x := sl (true, true) 3 [faV (attF l[i])]) (Lsa_fams hg rfl) (elems_sl _ _ _ _) hr2
    obtain ⟨d1, d2, d3, d4⟩ := Lsa_cells q2
    rw [← List.map_singleton (f := fun t => faV (attF t)), ← List.map_append, ← List.take_succ_eq_append_getElem hlt] at q2
    have hfz : ∀ h', frz h' false (faV (attF l[i])) = some (faV (attF l[i])) := fun _ => rfl
    have hcl : (faV (attF l[i])).cells.length = 3 := rfl
    generalize l[i] = t at *
    generalize faV (attF t) = f at *
    simp only [tm_cells] at q1
    simp [x_translate_from_0, hl1, k5, k11, k12, k13, hlt, hwp, hx, hA, c1, c2, c3, c4, d1, d2, d3, d4, q1, hfz, hcl]
    exact ⟨n - 1, by omega, hJ _ _ _ ⟨i + 1, by omega, by simp [hl1], _, _, rfl, q2⟩⟩
  · obtain ⟨B, w, hB, hg⟩ := hr
    rw [List.take_of_length_le (by omega)] at hg
    simp [x_translate_from_0, hl1, k5, k11, k12, k13, hlt]
    exact hΦ _ _ _ ⟨rfl, B, w, hB, hg⟩
theorem pc_from (t : Tm) (m : Bool × Bool) (l : List Tm) (hlen : l.length ≤ 1048576) : ∃ m', pc Q n_translate_from [tmV t, sl m 4 (tmVs l)] = some (clV ⟨m', l.map attF, attF t⟩) := by
  suffices h : ∃ v, pc Q n_translate_from [tmV t, sl m 4 (tmVs l)] = some v ∧ ∃ m', v = clV ⟨m', l.map attF, attF t⟩ by
    obtain ⟨v, h1, m', rfl⟩ := h
    exact ⟨m', h1⟩
  have hA := pc_att t
  refine pc_ends_ex (C := Q) ((Q_spec _).trans rfl) ((Q_code _).trans res_translate_from) (by simp [x_translate_from]) fun Ψ hΨ fr hl ha => ?_
  rw [Q_ctx]
  have h0 := ha 0
  have h1 := ha 1
  clear ha
  simp [x_translate_from] at hl h0 h1
  simp [x_translate_from, hl, h0, h1, hA]
  refine Ends.mono (loop_from m l hlen _ _ _ _ _ _ _ rfl ?_ ?_ ?_ ?_ ?_) ?_ <;> first | (simp [hl, h1]; done) | skip
  rintro e fr1 ⟨bx, F⟩ ⟨K, rfl, B, w, hB, hg⟩
  simp only at hB
  subst hB
  have hlfr1 : fr1.length = 26 := K.1.trans (by simp [hl])
  have k5fr1 : look fr1 5 = .ptr 2 0 := (K.2 5 (by decide)).trans (by simp [hl])
  have k4fr1 : look fr1 4 = .ptr 1 0 := (K.2 4 (by decide)).trans (by simp [hl])
  clear K
  obtain ⟨c1, c2, c3, c4⟩ := Lsa_cells hg
  obtain ⟨mm, hf⟩ := Lsa_frz hg
  have hf := fun B => (hf B).1
  simp [hlfr1, k5fr1, k4fr1, c1, c2, c3, c4, hf]
  exact hΨ _ ⟨mm, by simp [clV, attF]; rfl⟩
end Go.Abs.Q
