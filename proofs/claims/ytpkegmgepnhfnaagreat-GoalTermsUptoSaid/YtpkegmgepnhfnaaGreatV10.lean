/- Contracts: the error of a term. -/
import Derived.Test.YtpkegmgepnhfnaaGreatV9
/- The reference's tokens: the first token, lines without comments, lines. -/
namespace Go.Abs.Q
open Go.Proofs
attribute [local simp] look_set_ne look_set_eq fin tupled code_loop raw_ref21_class raw_ref21_word raw_ref21_number raw_ref21_literal raw_ref21_first raw_ref21_bare raw_ref21_Lines

/-- A token. -/
structure Tk where
  kind : Int
  text : ByteArray
  num : Int
  str : ByteArray
  line : Int
def tkV (t : Tk) : AV := .agg [.int .i64 t.kind, .str t.text, .int .i64 t.num, .str t.str, .int .i64 t.line]

theorem pc_first (s : ByteArray) (ln : Int) (hs : s.size ≤ 1099511627776) (c : UInt8) (r : List UInt8) (hb : bys s = c :: r) : ∃ v, pc Q n_ref21_first [.str s, .int .i64 ln] = some v ∧ ∃ (t : Tk) (n : Nat) (e : Int), v = .tup [tkV t, .int .i64 n, .int .i64 e] ∧ (e = 0 → 1 ≤ n ∧ n ≤ s.size) ∧
    (letB c.toNat = true → wdL (bys s) ≤ 24 → t = ⟨1, s.extract 0 (wdL (bys s)), 0, bs [], ln⟩ ∧ n = wdL (bys s) ∧ e = 0) := by
  have hlen := bys_len s
  have hle := wdL_le (bys s)
  rw [hb] at hlen
  simp only [List.length_cons] at hlen
  have hpos : 0 < s.size := by omega
  have hx : s[0]? = some c := by rw [bys_get, hb]; rfl
  have hsi : s[0]'hpos = c := by rw [getElem?_pos s 0 hpos] at hx; exact Option.some.inj hx
  have hC := pc_class c
  have hW := pc_word s hs
  have g2 := cls2 c
  have g3 := cls3 c
  have hsz : (s.extract 0 (wdL (bys s))).size = wdL (bys s) := by rw [size_ext _ (by rw [← bys_len]; exact hle)]; omega
  refine pc_ends_ex (C := Q) ((Q_spec _).trans rfl) ((Q_code _).trans res_ref21_first) (by simp [x_ref21_first]) fun Ψ hΨ fr hl ha => ?_
  rw [Q_ctx]
  have h0 := ha 0
  have h1 := ha 1
  clear ha
  simp [x_ref21_first] at hl h0 h1
  generalize hv : clsB c = v at *
  by_cases v2 : v = 2
  · subst v2
    have hpar : parB c.toNat = true := by simp [parB, g2.1 rfl]
    have hw1 : 1 ≤ wdL (bys s) := by rw [hb]; simp [wdL, hpar]
    generalize hw : wdL (bys s) = w at *
    generalize s.extract 0 w = u at *
    by_cases h24 : 24 < (w : Int)
    · simp [x_ref21_first, hl, h0, hpos, hsi, hC, hW, hsz, dec_t h24, buildParts, fillParts]
      exact hΨ _ ⟨⟨0, bs [], 0, bs [], 0⟩, 0, 3, rfl, fun k => by omega, fun _ k => by omega⟩
    · simp [x_ref21_first, hl, h0, h1, hpos, hsi, hC, hW, hsz, dec_f h24, buildParts, fillParts]
      rw [bys_len] at hle
      exact hΨ _ ⟨⟨1, u, 0, bs [], ln⟩, w, 0, rfl, fun _ => ⟨hw1, hle⟩, fun _ _ => ⟨rfl, rfl, rfl⟩⟩
  have nl : ¬letB c.toNat = true := fun k => v2 (g2.2 k)
  by_cases v3 : v = 3
  · subst v3
    obtain ⟨rr, hN, w, x, b, rfl, hn⟩ := pc_refNumber s hs ⟨c, r, hb, g3.1 rfl⟩
    cases b with
    | false =>
      simp [x_ref21_first, hl, h0, hpos, hsi, hC, hN, buildParts, fillParts]
      exact hΨ _ ⟨⟨0, bs [], 0, bs [], 0⟩, 0, 7, rfl, fun k => by omega, fun k => absurd k nl⟩
    | true =>
      simp [x_ref21_first, hl, h0, h1, hpos, hsi, hC, hN, buildParts, fillParts]
      exact hΨ _ ⟨⟨2, bs [], x, bs [], ln⟩, w.size, 0, rfl, fun _ => hn rfl, fun k => absurd k nl⟩
  by_cases v5 : v = 5
  · subst v5
    obtain ⟨rr, hN, w, n, rfl, hn⟩ := pc_literal s hs (by omega)
    by_cases hn0 : n = 0
    · subst hn0
      simp [x_ref21_first, hl, h0, hpos, hsi, hC, hN, buildParts, fillParts]
      exact hΨ _ ⟨⟨0, bs [], 0, bs [], 0⟩, 0, 2, rfl, fun k => by omega, fun k => absurd k nl⟩
    · have hn1 : 0 < n := by omega
      simp [x_ref21_first, hl, h0, h1, hpos, hsi, hC, hN, hn1, buildParts, fillParts]
      exact hΨ _ ⟨⟨3, bs [], 0, w, ln⟩, n, 0, rfl, fun _ => ⟨hn1, hn⟩, fun k => absurd k nl⟩
  by_cases v4 : v = 4
  · subst v4
    have h1s : (1 : Int) ≤ (s.size : Int) := by omega
    simp [x_ref21_first, hl, h0, h1, hpos, hsi, hC, boundA, h1s, buildParts, fillParts]
    exact hΨ _ ⟨⟨4, s.extract 0 1, 0, bs [], ln⟩, 1, 0, rfl, fun _ => ⟨by omega, by omega⟩, fun k => absurd k nl⟩
  · simp [x_ref21_first, hl, h0, hpos, hsi, hC, dec_f v2, dec_f v3, dec_f v5, dec_f v4, buildParts, fillParts]
    exact hΨ _ ⟨⟨0, bs [], 0, bs [], 0⟩, 0, 2, rfl, fun k => by omega, fun k => absurd k nl⟩

/-- What stands before the first comment. -/
def cutL : List UInt8 → Nat
  | [] => 0
  | c :: r => if twoB (c :: r) = true then 0 else cutL r + 1
theorem cutL_le : ∀ l : List UInt8, cutL l ≤ l.length
  | [] => Nat.le_refl _
  | c :: r => by
    have := cutL_le r
    simp only [cutL]
    split
    · omega
    · simp; omega
theorem cutL_all : ∀ l : List UInt8, cutL l = l.length ↔ dblB l = false
  | [] => by simp [cutL, dblB]
  | c :: r => by
    have := cutL_all r
    simp only [cutL, dblB, Bool.or_eq_false_iff]
    cases h : twoB (c :: r) with
    | true => simp
    | false => simp [this]
def parL (l : List UInt8) : Prop := l.all (fun c => parB c.toNat) = true
theorem parL_get {l : List UInt8} (h : parL l) {i : Nat} (hi : i < l.length) : parB (l[i]).toNat = true := by
  unfold parL at h
  rw [List.all_eq_true] at h
  exact h _ (List.getElem_mem hi)
theorem parB_ne {c : Nat} (h : parB c = true) : c ≠ 34 ∧ c ≠ 92 ∧ c ≠ 10 := by
  refine ⟨?_, ?_, ?_⟩ <;> (rintro rfl; exact absurd h (by decide))

theorem two_ext (s : ByteArray) (i : Nat) (hi : i + 2 ≤ s.size) : decide ((s.extract i (i + 2)).toList = (bs [35, 35]).toList) = twoB ((bys s).drop i) := by
  have e : (s.extract i (i + 2)).toList = ((bys s).drop i).take 2 := by
    rw [toL_bys, bys_ext, List.drop_take]
    congr 1
    omega
  rw [e, toL_bys]
  rfl
theorem two_end (s : ByteArray) (i : Nat) (hi : s.size ≤ i + 1) : twoB ((bys s).drop i) = false := by
  unfold twoB
  apply dec_f
  intro k
  have := congrArg List.length k
  simp at this
  omega

theorem loop_bare (s : ByteArray) (hs : s.size ≤ 1099511627776) (fr : Fr) (h : AH) (hl : fr.length = 47) (h0 : look fr 0 = .str s) (h3 : look fr 3 = .bool false) (h4 : look fr 4 = .int .i64 0) :
    Ends (lp (evalCode (lim Q) (ctxF n_ref21_bare) x_ref21_bare_0) (fr, h)) fun e fr' h' => Kp x_ref21_bare_0.wr fr fr' ∧ (e = .exit 0 ∧ (parL (bys s) → cutL (bys s) = s.size) ∨ e = .ret ∧ ∃ k, k ≤ s.size ∧ look fr' 2 = .str (s.extract 0 k) ∧ (parL (bys s) → k = cutL (bys s))) := by
  refine Ends_lpw rfl fr (fun n fr h => ∃ (i : Nat) (b : Bool), i + n = s.size + 2 ∧ look fr 4 = .int .i64 (i : Nat) ∧ look fr 3 = .bool b ∧ (parL (bys s) → b = false ∧ i ≤ s.size ∧ i + cutL ((bys s).drop i) = cutL (bys s))) ?_ (s.size + 2) h ⟨0, false, by omega, h4, h3, fun _ => ⟨rfl, by omega, by simp⟩⟩
  rintro J Φ hJ hΦ n fr1 h1' K ⟨i, b, hi, k4, k3, hr⟩
  have hl1 : fr1.length = 47 := K.1.trans hl
  have k0 := (K.2 0 (by decide)).trans h0
  have hlen := bys_len s
  by_cases hlt : i < s.size
  · have hlt' : i < (bys s).length := by omega
    have hx : s[i]? = some (bys s)[i] := by rw [bys_get, List.getElem?_eq_getElem hlt']
    have hw : IntKind.i64.wrap ((i : Int) + 1) = (i : Int) + 1 := wrap_id (by omega) (by omega)
    have hw2 : IntKind.i64.wrap ((i : Int) + 2) = (i : Int) + 2 := wrap_id (by omega) (by omega)
    have hw3 : IntKind.i64.wrap ((i : Int) + 1 + 1) = (i : Int) + 2 := wrap_id (by omega) (by omega)
    have hP : parL (bys s) → parB ((bys s)[i]).toNat = true := fun p => parL_get p hlt'
    have hT1 := fun q => two_ext s i q
    have hT2 := fun q => two_end s i q
    rw [List.drop_eq_getElem_cons hlt'] at hr hT1 hT2
    generalize (bys s)[i] = c at *
    have hsi : s[i]'hlt = c := by rw [getElem?_pos s i hlt] at hx; exact Option.some.inj hx
    have fwd : (parL (bys s) → twoB (c :: (bys s).drop (i + 1)) = false) → parL (bys s) → i + 1 ≤ s.size ∧ i + 1 + cutL ((bys s).drop (i + 1)) = cutL (bys s) := fun ht p => by
      have := hr p
      simp only [cutL] at this
      rw [if_neg (by simp [ht p])] at this
      omega
    have stp : twoB (c :: (bys s).drop (i + 1)) = true → parL (bys s) → i = cutL (bys s) := fun ht p => by
      have := hr p
      simp only [cutL] at this
      rw [if_pos ht] at this
      omega
    have hbf : parL (bys s) → b = false := fun p => (hr p).1
    clear hr
    generalize hz : c.toNat = z at *
    -- behind the backslash
    by_cases hbs : b = true ∧ (z : Int) = 92
    · obtain ⟨rfl, h92⟩ := hbs
      simp [x_ref21_bare_0, hl1, k0, k3, k4, hlt, hsi, hz, hw, hw3, dec_t h92]
      exact ⟨n - 2, by omega, hJ _ _ _ ⟨i + 2, true, by omega, by simp [hl1], by simp [k3], fun p => absurd (hbf p) (by simp)⟩⟩
    · -- the flag behind this byte
      have main : ∀ b' : Bool, (parL (bys s) → b' = false) → ((z : Int) = 34 ∧ b' = !b ∨ ¬(z : Int) = 34 ∧ b' = b) →
          Ends (evalCode (lim Q) (ctxF n_ref21_bare) x_ref21_bare_0 (fr1, h1')) fun e fr' h' => (e = .normal ∧ ∃ m, m < n ∧ J m fr' h') ∨ (e ≠ .normal ∧ Φ e fr' h') := by
        intro b' hb' hq
        have hcond : (b && decide ((z : Int) = 92)) = false := by
          cases b with
          | false => rfl
          | true =>
            rw [Bool.true_and]
            exact dec_f fun k => hbs ⟨rfl, k⟩
        cases b' with
        | true =>
          rcases hq with ⟨h34, hb⟩ | ⟨h34, hb⟩
          · have : b = false := by
              cases b with
              | false => rfl
              | true => exact absurd hb (by decide)
            subst this
            have n92 : ¬(z : Int) = 92 := by omega
            simp [x_ref21_bare_0, hl1, k0, k3, k4, hlt, hsi, hz, hw, dec_t h34]
            exact ⟨n - 1, by omega, hJ _ _ _ ⟨i + 1, true, by omega, by simp [hl1], by simp [hl1], fun p => absurd (hb' p) (by simp)⟩⟩
          · subst hb
            have n92 : ¬(z : Int) = 92 := fun k => hbs ⟨rfl, k⟩
            simp [x_ref21_bare_0, hl1, k0, k3, k4, hlt, hsi, hz, hw, dec_f h34, dec_f n92]
            exact ⟨n - 1, by omega, hJ _ _ _ ⟨i + 1, true, by omega, by simp [hl1], by simp [k3], fun p => absurd (hb' p) (by simp)⟩⟩
        | false =>
          by_cases h2 : i + 2 ≤ s.size
          · have hT := hT1 h2
            have h1lt : ((i : Int) + 1) < (s.size : Int) := by omega
            have h2le : (i : Int) + 2 ≤ (s.size : Int) := by omega
            have hile : (i : Int) ≤ (i : Int) + 2 := by omega
            have p2 : (0 : Int) ≤ (i : Int) + 2 := by omega
            have tn : ((i : Int) + 2).toNat = i + 2 := by omega
            have hil : (i : Int) ≤ (s.size : Int) := by omega
            cases ht : twoB (c :: (bys s).drop (i + 1)) with
            | true =>
              rw [ht] at hT
              rcases hq with ⟨h34, hb⟩ | ⟨h34, hb⟩
              · have : b = true := by
                  cases b with
                  | true => rfl
                  | false => exact absurd hb (by decide)
                subst this
                have n92 : ¬(z : Int) = 92 := by omega
                simp [x_ref21_bare_0, hl1, k0, k3, k4, hlt, hsi, hz, hw, hw2, dec_t h34, dec_f n92, h1lt, boundA, h2le, hile, hil, tn, hT]
                exact hΦ _ _ _ (.inr ⟨rfl, i, by omega, by simp [hl1], stp ht⟩)
              · subst hb
                simp [x_ref21_bare_0, hl1, k0, k3, k4, hlt, hsi, hz, hw, hw2, dec_f h34, h1lt, boundA, h2le, hile, hil, tn, hT]
                exact hΦ _ _ _ (.inr ⟨rfl, i, by omega, by simp [hl1], stp ht⟩)
            | false =>
              rw [ht] at hT
              rcases hq with ⟨h34, hb⟩ | ⟨h34, hb⟩
              · have : b = true := by
                  cases b with
                  | true => rfl
                  | false => exact absurd hb (by decide)
                subst this
                have n92 : ¬(z : Int) = 92 := by omega
                simp [x_ref21_bare_0, hl1, k0, k3, k4, hlt, hsi, hz, hw, hw2, dec_t h34, dec_f n92, h1lt, boundA, h2le, hile, tn, hT]
                exact ⟨n - 1, by omega, hJ _ _ _ ⟨i + 1, false, by omega, by simp [hl1], by simp [hl1], fun p => ⟨rfl, fwd (fun _ => ht) p⟩⟩⟩
              · subst hb
                simp [x_ref21_bare_0, hl1, k0, k3, k4, hlt, hsi, hz, hw, hw2, dec_f h34, h1lt, boundA, h2le, hile, tn, hT]
                exact ⟨n - 1, by omega, hJ _ _ _ ⟨i + 1, false, by omega, by simp [hl1], by simp [k3], fun p => ⟨rfl, fwd (fun _ => ht) p⟩⟩⟩
          · have ht := hT2 (by omega)
            have h1lt : ¬((i : Int) + 1) < (s.size : Int) := by omega
            rcases hq with ⟨h34, hb⟩ | ⟨h34, hb⟩
            · have : b = true := by
                cases b with
                | true => rfl
                | false => exact absurd hb (by decide)
              subst this
              have n92 : ¬(z : Int) = 92 := by omega
              simp [x_ref21_bare_0, hl1, k0, k3, k4, hlt, hsi, hz, hw, dec_t h34, dec_f n92, dec_f h1lt]
              exact ⟨n - 1, by omega, hJ _ _ _ ⟨i + 1, false, by omega, by simp [hl1], by simp [hl1], fun p => ⟨rfl, fwd (fun _ => ht) p⟩⟩⟩
            · subst hb
              simp [x_ref21_bare_0, hl1, k0, k3, k4, hlt, hsi, hz, hw, dec_f h34, dec_f h1lt]
              exact ⟨n - 1, by omega, hJ _ _ _ ⟨i + 1, false, by omega, by simp [hl1], by simp [k3], fun p => ⟨rfl, fwd (fun _ => ht) p⟩⟩⟩
      by_cases h34 : (z : Int) = 34
      · refine main (!b) (fun p => absurd (hP p) (fun k => ?_)) (.inl ⟨h34, rfl⟩)
        have := (parB_ne k).1
        omega
      · exact main b hbf (.inr ⟨h34, rfl⟩)
  · have hd : (bys s).drop i = [] := List.drop_eq_nil_of_le (by omega)
    rw [hd] at hr
    have hlt' : ¬(i : Int) < (s.size : Int) := by omega
    simp [x_ref21_bare_0, hl1, k0, k4, hlt']
    exact hΦ _ _ _ (.inl ⟨rfl, fun p => by have := hr p; simp only [cutL] at this; omega⟩)

theorem pc_bare (s : ByteArray) (hs : s.size ≤ 1099511627776) : ∃ r, pc Q n_ref21_bare [.str s] = some r ∧ ∃ k, k ≤ s.size ∧ r = .str (s.extract 0 k) ∧ (parL (bys s) → k = cutL (bys s)) := by
  refine pc_ends_ex (C := Q) ((Q_spec _).trans rfl) ((Q_code _).trans res_ref21_bare) (by simp [x_ref21_bare]) fun Ψ hΨ fr hl ha => ?_
  rw [Q_ctx]
  have h0 := ha 0
  clear ha
  simp [x_ref21_bare] at hl h0
  simp [x_ref21_bare]
  refine (loop_bare s hs _ _ (by simp [hl]) (by simp [h0]) (by simp [hl]) (by simp [hl])).mono ?_
  rintro e fr1 h1 ⟨K, ⟨rfl, hc⟩ | ⟨rfl, k, hk, k2, hc⟩⟩
  · have hl1 : fr1.length = 47 := K.1.trans (by simp [hl])
    have k0 : look fr1 0 = .str s := (K.2 0 (by decide)).trans (by simp [h0])
    simp [hl1, k0]
    refine hΨ _ ⟨s.size, by omega, ?_, fun p => (hc p).symm⟩
    congr 1
    apply bys_eq
    rw [bys_ext, List.drop_zero, List.take_of_length_le (by rw [bys_len]; exact Nat.le_refl _)]
  · simp [k2]
    exact hΨ _ ⟨k, hk, rfl, hc⟩
end Go.Abs.Q

/- The reference's tokens: lines, tokens, names. -/
namespace Go.Abs.Q
open Go.Proofs
attribute [local simp] look_set_ne look_set_eq fin tupled code_loop raw_ref21_class raw_ref21_first raw_ref21_bare raw_ref21_Lines raw_ref21_Tokens raw_ref21_IsName raw_ref01_IsName

theorem loop_Lines (s : ByteArray) (hs : s.size ≤ 65536) (fr : Fr) (h : AH) (hl : fr.length = 34) (h0 : look fr 0 = .str s) (h3 : look fr 3 = .vs true 0 []) (h4 : look fr 4 = .str (bs [])) (h5 : look fr 5 = .int .i64 0) :
    Ends (lp (evalCode (lim Q) (ctxF n_ref21_Lines) x_ref21_Lines_0) (fr, h)) fun e fr' h' => Kp x_ref21_Lines_0.wr fr fr' ∧ e = .exit 0 ∧ ∃ (ls : List ByteArray) (line : ByteArray), Grw 1 (ls.map AV.str) (look fr' 3) h' ∧ look fr' 4 = .str line ∧ ls.length ≤ s.size ∧ line.size ≤ s.size ∧ (∀ x ∈ ls, x.size ≤ s.size) ∧ (parL (bys s) → ls = [] ∧ line = s) := by
  refine Ends_lpw rfl fr (fun n fr h => ∃ (i : Nat) (ls : List ByteArray) (line : ByteArray), i + n = s.size ∧ look fr 5 = .int .i64 (i : Nat) ∧ Grw 1 (ls.map AV.str) (look fr 3) h ∧ look fr 4 = .str line ∧ ls.length ≤ i ∧ line.size ≤ i ∧ (∀ x ∈ ls, x.size ≤ s.size) ∧ (parL (bys s) → ls = [] ∧ bys line = (bys s).take i)) ?_ s.size h
    ⟨0, [], bs [], by omega, h5, by rw [h3]; exact Grw_nil _ _, h4, by simp, Nat.le_trans (Nat.le_of_eq (show (bs []).size = 0 from rfl)) (Nat.zero_le _), by simp, fun _ => ⟨rfl, by rw [List.take_zero]; rfl⟩⟩
  rintro J Φ hJ hΦ n fr1 h1' K ⟨i, ls, line, hi, k5, hg, k4, hll, hsz, hall, hr⟩
  have hl1 : fr1.length = 34 := K.1.trans hl
  have k0 := (K.2 0 (by decide)).trans h0
  have hlen := bys_len s
  by_cases hlt : i < s.size
  · have hlt' : i < (bys s).length := by omega
    have hx : s[i]? = some (bys s)[i] := by rw [bys_get, List.getElem?_eq_getElem hlt']
    have hw : IntKind.i64.wrap ((i : Int) + 1) = (i : Int) + 1 := wrap_id (by omega) (by omega)
    have hP : parL (bys s) → parB ((bys s)[i]).toNat = true := fun p => parL_get p hlt'
    have ht : (bys s).take (i + 1) = (bys s).take i ++ [(bys s)[i]] := List.take_succ_eq_append_getElem hlt'
    have hex : bys (s.extract i (i + 1)) = [(bys s)[i]] := by
      rw [bys_ext, List.drop_take, List.drop_eq_getElem_cons hlt']
      simp
    generalize (bys s)[i] = c at *
    have hsi : s[i]'hlt = c := by rw [getElem?_pos s i hlt] at hx; exact Option.some.inj hx
    by_cases h10 : (c.toNat : Int) = 10
    · obtain ⟨v', h', ha, hg', -⟩ := Grw_one (c := ctxF n_ref21_Lines) (bytes := 16) (x := .str line) hg rfl (true, true) (by simp; omega) (by simp; omega)
      simp [x_ref21_Lines_0, hl1, k0, k4, k5, hlt, hsi, hw, dec_t h10, sliceParts, ha]
      refine ⟨n - 1, by omega, hJ _ _ _ ⟨i + 1, ls ++ [line], bs [], by omega, by simp [hl1], by simp [hl1]; exact hg', by simp [hl1], by simp; omega, Nat.le_trans (Nat.le_of_eq (show (bs []).size = 0 from rfl)) (Nat.zero_le _), ?_, fun p => absurd (hP p) fun k => ?_⟩⟩
      · intro x hx
        rcases List.mem_append.1 hx with hx | hx
        · exact hall x hx
        · simp at hx
          subst hx
          omega
      · have := (parB_ne k).2.2
        omega
    · have hi1 : (i : Int) + 1 ≤ (s.size : Int) := by omega
      have p1 : (0 : Int) ≤ (i : Int) + 1 := by omega
      have ii : (i : Int) ≤ (i : Int) + 1 := by omega
      have tn : ((i : Int) + 1).toNat = i + 1 := by omega
      have hes : (s.extract i (i + 1)).size = 1 := by rw [size_ext _ (by omega)]; omega
      have hadd := bin_sadd (a := line) (b := s.extract i (i + 1)) (by omega)
      simp [x_ref21_Lines_0, hl1, k0, k4, k5, hlt, hsi, hw, dec_f h10, boundA, hi1, ii, tn, hadd]
      refine ⟨n - 1, by omega, hJ _ _ _ ⟨i + 1, ls, line ++ s.extract i (i + 1), by omega, by simp [hl1], by simp; exact hg, by simp [hl1], by omega, by rw [size_app]; omega, hall, fun p => ⟨(hr p).1, ?_⟩⟩⟩
      rw [bys_app, hex, (hr p).2, ht]
  · have hin : i = s.size := by omega
    simp [x_ref21_Lines_0, hl1, k0, k5, hlt]
    refine hΦ _ _ _ ⟨rfl, ls, line, by simp; exact hg, by simp [k4], by omega, by omega, hall, fun p => ⟨(hr p).1, ?_⟩⟩
    apply bys_eq
    rw [(hr p).2, hin, ← bys_len, List.take_length]

theorem pc_Lines (s : ByteArray) (hs : s.size ≤ 65536) : ∃ r, pc Q n_ref21_Lines [.str s] = some r ∧ ∃ (m : Bool × Bool) (ls : List ByteArray), r = sl m 1 (ls.map AV.str) ∧ ls.length ≤ s.size + 1 ∧ (∀ x ∈ ls, x.size ≤ s.size) ∧ (parL (bys s) → 1 ≤ s.size → ls = [s]) := by
  refine pc_ends_ex (C := Q) ((Q_spec _).trans rfl) ((Q_code _).trans res_ref21_Lines) (by simp [x_ref21_Lines]) fun Ψ hΨ fr hl ha => ?_
  rw [Q_ctx]
  have h0 := ha 0
  clear ha
  simp [x_ref21_Lines] at hl h0
  simp [x_ref21_Lines]
  refine (loop_Lines s hs _ _ (by simp [hl]) (by simp [h0]) (by simp [hl]) (by simp [hl]) (by simp [hl])).mono ?_
  rintro e fr1 h1 ⟨K, rfl, ls, line, hg, k4, hll, hsz, hall, hp⟩
  have hl1 : fr1.length = 34 := K.1.trans (by simp [hl])
  have e0 : (line.toList = (bs []).toList) ↔ line.size = 0 := by
    rw [toL_bys, toL_bys, ← bys_len]
    exact (List.length_eq_zero_iff).symm
  by_cases hz : line.size = 0
  · obtain ⟨m, hm⟩ := Grw_frzRes (h := h1) hg
    simp [hl1, k4, dec_t (e0.2 hz), hm]
    refine hΨ _ ⟨m, ls, rfl, by omega, hall, fun p q => ?_⟩
    rw [(hp p).2] at hz
    omega
  · obtain ⟨v', h', ha, hg', -⟩ := Grw_one (c := ctxF n_ref21_Lines) (bytes := 16) (x := .str line) hg rfl (true, true) (by simp; omega) (by simp; omega)
    obtain ⟨m, hm⟩ := Grw_frzRes hg'
    simp [hl1, k4, dec_f (fun k => hz (e0.1 k)), sliceParts, ha, hm]
    refine hΨ _ ⟨m, ls ++ [line], by simp, by simp; omega, ?_, fun p q => ?_⟩
    · intro x hx
      rcases List.mem_append.1 hx with hx | hx
      · exact hall x hx
      · simp at hx
        subst hx
        omega
    · rw [(hp p).1, (hp p).2]
      rfl

/-- The first token is all there is. -/
def Good (s : ByteArray) : Prop := parL (bys s) ∧ s.size ≤ 24 ∧ ∃ c r, bys s = c :: r ∧ letB c.toNat = true

theorem loop_Tok0 (j : Nat) (hj : j ≤ 65537) (s : ByteArray) (hs : s.size ≤ 65536) (toks : List Tk) (ht : toks.length ≤ 8589934592) (fr : Fr) (h : AH) (hl : fr.length = 58) (h5 : Grw 5 (toks.map tkV) (look fr 5) h) (h7 : look fr 7 = .int .i64 (j : Nat)) (h8 : look fr 8 = .str s) :
    Ends (lp (evalCode (lim Q) (ctxF n_ref21_Tokens) x_ref21_Tokens_0) (fr, h)) fun e fr' h' => Kp x_ref21_Tokens_0.wr fr fr' ∧
      (e = .exit 2 ∧ (∃ toks' : List Tk, Grw 5 (toks'.map tkV) (look fr' 5) h' ∧ toks'.length ≤ toks.length + s.size ∧ (Good s → toks' = toks ++ [⟨1, s, 0, bs [], j + 1⟩])) ∨ e = .ret ∧ look fr' 2 = .vs true 0 [] ∧ (∃ a b, look fr' 3 = .int .i64 a ∧ look fr' 4 = .int .i64 b) ∧ ¬Good s) := by
  refine Ends_lpw rfl fr (fun n fr h => ∃ (rest : ByteArray) (toks' : List Tk), n = rest.size ∧ look fr 8 = .str rest ∧ Grw 5 (toks'.map tkV) (look fr 5) h ∧ toks'.length + rest.size ≤ toks.length + s.size ∧ (Good s → rest = s ∧ toks' = toks ∨ rest.size = 0 ∧ toks' = toks ++ [⟨1, s, 0, bs [], j + 1⟩])) ?_ s.size h
    ⟨s, toks, rfl, h8, h5, by omega, fun _ => .inl ⟨rfl, rfl⟩⟩
  rintro J Φ hJ hΦ n fr1 h1' K ⟨rest, toks', hn, k8, hg, hsz, hr⟩
  subst hn
  have hl1 : fr1.length = 58 := K.1.trans hl
  have k7 := (K.2 7 (by decide)).trans h7
  have hlen := bys_len rest
  cases hb : bys rest with
  | nil =>
    rw [hb] at hlen
    simp only [List.length_nil] at hlen
    have hz : ¬0 < rest.size := by omega
    simp [x_ref21_Tokens_0, hl1, k8, hz]
    refine hΦ _ _ _ (.inl ⟨rfl, toks', by simp; exact hg, by omega, fun g => ?_⟩)
    rcases hr g with ⟨e, _⟩ | ⟨_, e⟩
    · obtain ⟨c, r, e2, _⟩ := g.2.2
      rw [← e, hb] at e2
      cases e2
    · exact e
  | cons c r =>
    have hlen' := hlen
    rw [hb] at hlen'
    simp only [List.length_cons] at hlen'
    have hpos : 0 < rest.size := by omega
    have hx : rest[0]? = some c := by rw [bys_get, hb]; rfl
    have hsi : rest[0]'hpos = c := by rw [getElem?_pos rest 0 hpos] at hx; exact Option.some.inj hx
    have hC := pc_class c
    have g2 := cls2 c
    have hge : Good s → letB c.toNat = true ∧ rest = s ∧ toks' = toks := fun g => by
      rcases hr g with ⟨e, e'⟩ | ⟨e, _⟩
      · obtain ⟨c', r', e2, hc⟩ := g.2.2
        rw [← e, hb] at e2
        cases e2
        exact ⟨hc, e, e'⟩
      · omega
    have h1s : (1 : Int) ≤ (rest.size : Int) := by omega
    by_cases v1 : clsB c = 1
    · rw [v1] at hC
      have ng : ¬Good s := fun g => by
        have := g2.2 (hge g).1
        omega
      simp [x_ref21_Tokens_0, hl1, k8, hpos, hsi, hC, boundA, h1s]
      exact ⟨rest.size - 1, by omega, hJ _ _ _ ⟨rest.extract 1 rest.size, toks', by rw [size_ext _ (Nat.le_refl _)], by simp [hl1], by simp; exact hg, by rw [size_ext _ (Nat.le_refl _)]; omega, fun g => absurd g ng⟩⟩
    · have hw : IntKind.i64.wrap ((j : Int) + 1) = (j : Int) + 1 := wrap_id (by omega) (by omega)
      obtain ⟨v, hF, t, q, e, rfl, hq, hgood⟩ := pc_first rest ((j : Int) + 1) (by omega) c r hb
      generalize hk : clsB c = k at *
      by_cases he : e = 0
      · subst he
        obtain ⟨q1, q2⟩ := hq rfl
        have hq' : (q : Int) ≤ (rest.size : Int) := by omega
        have hg1 : ∀ bx, Grw 5 (toks'.map tkV) (look fr1 5) ⟨bx, h1'.fams⟩ := fun bx => Grw_fams hg rfl
        obtain ⟨v', h', ha, hg', -⟩ := Grw_one (c := ctxF n_ref21_Tokens) (bytes := 56) (x := tkV t) (hg1 (h1'.boxes ++ [[.int .i64 t.kind, .str t.text, .int .i64 t.num, .str t.str, .int .i64 t.line]])) rfl (true, true) (by simp; omega) (by simp; omega)
        simp only [tkV] at hF ha
        simp [x_ref21_Tokens_0, hl1, k7, k8, hpos, hsi, hC, dec_f v1, hw, hF, boundA, hq', sliceParts, ha]
        refine ⟨rest.size - q, by omega, hJ _ _ _ ⟨rest.extract q rest.size, toks' ++ [t], by rw [size_ext _ (Nat.le_refl _)], by simp [hl1], by simp [hl1]; exact hg', by rw [size_ext _ (Nat.le_refl _)]; simp; omega, fun g => .inr ?_⟩⟩
        obtain ⟨a1, a2, a3⟩ := hge g
        have hwd : wdL (bys rest) = rest.size := by
          rw [a2, wdL_all g.1, bys_len]
        obtain ⟨b1, b2, b3⟩ := hgood a1 (by rw [hwd, a2]; exact g.2.1)
        refine ⟨by rw [size_ext _ (Nat.le_refl _)]; omega, ?_⟩
        rw [a3, b1, hwd, a2]
        congr 3
        apply bys_eq
        rw [bys_ext, List.drop_zero, List.take_of_length_le (by rw [bys_len]; exact Nat.le_refl _)]
      · have ng : ¬Good s := fun g => by
          obtain ⟨a1, a2, a3⟩ := hge g
          have hwd : wdL (bys rest) = rest.size := by
            rw [a2, wdL_all g.1, bys_len]
          exact he (hgood a1 (by rw [hwd, a2]; exact g.2.1)).2.2
        simp only [tkV] at hF
        simp [x_ref21_Tokens_0, hl1, k7, k8, hpos, hsi, hC, dec_f v1, hw, hF, dec_f he]
        exact hΦ _ _ _ (.inr ⟨rfl, by simp [hl1], ⟨_, _, by simp [hl1]; rfl, by simp [hl1]; rfl⟩, ng⟩)

theorem good_cut {s : ByteArray} (g : Good s) : Good (s.extract 0 (cutL (bys s))) ∧ bys (s.extract 0 (cutL (bys s))) = (bys s).take (cutL (bys s)) := by
  have hb : bys (s.extract 0 (cutL (bys s))) = (bys s).take (cutL (bys s)) := by rw [bys_ext, List.drop_zero]
  obtain ⟨g1, g2, c, r, e, hc⟩ := g
  refine ⟨⟨?_, ?_, ?_⟩, hb⟩
  · rw [hb]
    unfold parL at *
    rw [List.all_eq_true] at *
    exact fun x hx => g1 x (List.mem_of_mem_take hx)
  · rw [← bys_len, hb, List.length_take]
    have := bys_len s
    omega
  · rw [hb, e]
    have ht : twoB (c :: r) = false := by
      unfold twoB
      apply dec_f
      intro k
      cases r with
      | nil => simp at k
      | cons d r =>
        simp at k
        rw [k.1] at hc
        exact absurd hc (by decide)
    simp only [cutL, ht]
    exact ⟨c, r.take (cutL r), by simp, hc⟩

theorem loop_Tok1 (s : ByteArray) (m : Bool × Bool) (ls : List ByteArray) (hl65 : ls.length ≤ 65537) (hls : ∀ x ∈ ls, x.size ≤ 65536) (hone : Good s → ls = [s]) (fr : Fr) (h : AH) (hl : fr.length = 58) (h5 : look fr 5 = .vs true 0 []) (h6 : look fr 6 = sl m 1 (ls.map AV.str)) (h7 : look fr 7 = .int .i64 0) :
    Ends (lp (evalCode (lim Q) (ctxF n_ref21_Tokens) x_ref21_Tokens_1) (fr, h)) fun e fr' h' => Kp x_ref21_Tokens_1.wr fr fr' ∧
      (e = .exit 0 ∧ (∃ toks' : List Tk, Grw 5 (toks'.map tkV) (look fr' 5) h' ∧ (Good s → toks' = [⟨1, s.extract 0 (cutL (bys s)), 0, bs [], 1⟩])) ∨ e = .ret ∧ look fr' 2 = .vs true 0 [] ∧ (∃ a b, look fr' 3 = .int .i64 a ∧ look fr' 4 = .int .i64 b) ∧ ¬Good s) := by
  refine Ends_lpw rfl fr (fun n fr h => ∃ (i : Nat) (toks' : List Tk), i + n = ls.length ∧ look fr 7 = .int .i64 (i : Nat) ∧ Grw 5 (toks'.map tkV) (look fr 5) h ∧ toks'.length ≤ i * 65536 ∧ (Good s → i = 0 ∧ toks' = [] ∨ i = 1 ∧ toks' = [⟨1, s.extract 0 (cutL (bys s)), 0, bs [], 1⟩])) ?_ ls.length h
    ⟨0, [], by omega, h7, by rw [h5]; exact Grw_nil _ _, by simp, fun _ => .inl ⟨rfl, rfl⟩⟩
  rintro J Φ hJ hΦ n fr1 h1' K ⟨i, toks, hi, k7, hg, hsz, hr⟩
  have hl1 : fr1.length = 58 := K.1.trans hl
  have k6 := (K.2 6 (by decide)).trans h6
  by_cases hlt : i < ls.length
  · have hx := nth_map (f := AV.str) (List.getElem?_eq_getElem hlt)
    have hw : IntKind.i64.wrap ((i : Int) + 1) = (i : Int) + 1 := wrap_id (by omega) (by omega)
    have hxs := hls _ (List.getElem_mem hlt)
    have hgi : Good s → i = 0 ∧ toks = [] ∧ ls[i] = s := fun g => by
      have e := hone g
      have : i = 0 := by
        have := congrArg List.length e
        simp at this
        omega
      subst this
      rcases hr g with ⟨_, e2⟩ | ⟨e2, _⟩
      · exact ⟨rfl, e2, by simp [e]⟩
      · omega
    generalize ls[i] = x at *
    obtain ⟨rb, hB, k, hk, rfl, hcut⟩ := pc_bare x (by omega)
    have hes : (x.extract 0 k).size = k := by rw [size_ext _ hk]; omega
    simp [x_ref21_Tokens_1, hl1, k6, k7, hlt, hx, hB]
    refine Ends.mono (loop_Tok0 i (by omega) (x.extract 0 k) (by omega) toks (by omega) _ h1' ?_ ?_ ?_ ?_) ?_
    · simp [hl1]
    · simp; exact hg
    · simp [k7]
    · simp [hl1]
    rintro e fr2 h2 ⟨K2, ⟨rfl, toks', hg', hsz', hgd⟩ | ⟨rfl, k2, ⟨a, b, k3, k4⟩, hng⟩⟩
    · have hl2 : fr2.length = 58 := K2.1.trans (by simp [hl1])
      have k7' : look fr2 7 = .int .i64 (i : Nat) := (K2.2 7 (by decide)).trans (by simp [k7])
      clear K2
      simp [hl2, k7', hw]
      refine ⟨n - 1, by omega, hJ _ _ _ ⟨i + 1, toks', by omega, by simp [hl2], by simp; exact hg', by rw [hes] at hsz'; omega, fun g => .inr ?_⟩⟩
      obtain ⟨rfl, rfl, rfl⟩ := hgi g
      have hkc := hcut g.1
      subst hkc
      have := hgd (good_cut g).1
      refine ⟨rfl, ?_⟩
      rw [this]
      rfl
    · clear K2
      simp
      refine hΦ _ _ _ (.inr ⟨rfl, k2, ⟨a, b, k3, k4⟩, fun g => ?_⟩)
      obtain ⟨rfl, rfl, rfl⟩ := hgi g
      have hkc := hcut g.1
      subst hkc
      exact hng (good_cut g).1
  · simp [x_ref21_Tokens_1, hl1, k6, k7, hlt]
    refine hΦ _ _ _ (.inl ⟨rfl, toks, by simp; exact hg, fun g => ?_⟩)
    have e := hone g
    rcases hr g with ⟨e1, e2⟩ | ⟨_, e2⟩
    · rw [e] at hlt
      simp at hlt
      omega
    · exact e2

theorem pc_Tokens (s : ByteArray) : ∃ r, pc Q n_ref21_Tokens [.str s] = some r ∧ ∃ (m : Bool × Bool) (toks : List Tk) (k e : Int), r = .tup [sl m 5 (toks.map tkV), .int .i64 k, .int .i64 e] ∧ (Good s → e = 0 ∧ toks = [⟨1, s.extract 0 (cutL (bys s)), 0, bs [], 1⟩]) := by
  refine pc_ends_ex (C := Q) ((Q_spec _).trans rfl) ((Q_code _).trans res_ref21_Tokens) (by simp [x_ref21_Tokens]) fun Ψ hΨ fr hl ha => ?_
  rw [Q_ctx]
  have h0 := ha 0
  clear ha
  simp [x_ref21_Tokens] at hl h0
  have e0 : frz1 ⟨[], []⟩ true (.vs true 0 []) = some (sl (true, false) 1 []) := frz1_nil _ _
  by_cases hbig : (65536 : Int) < (s.size : Int)
  · simp [x_ref21_Tokens, hl, h0, hbig]
    refine hΨ _ ⟨(true, false), [], 0, 3, by rw [List.map_nil, show sl (true, false) 5 [] = sl (true, false) 1 [] from sl_nil_any _ rfl _ _], fun g => ?_⟩
    have := g.2.1
    omega
  · obtain ⟨rl, hL, m, ls, rfl, hlen, hall, hone⟩ := pc_Lines s (by omega)
    simp [x_ref21_Tokens, hl, h0, hbig, hL]
    refine Ends.mono (loop_Tok1 s m ls (by omega) (fun x hx => by have := hall x hx; omega) (fun g => hone g.1 (by obtain ⟨c, r, e, _⟩ := g.2.2; rw [← bys_len, e]; simp)) _ ⟨[], []⟩ ?_ ?_ ?_ ?_) ?_
    · simp [hl]
    · simp [hl]
    · simp [hl]
    · simp [hl]
    rintro e fr2 h2 ⟨K2, ⟨rfl, toks', hg', hgd⟩ | ⟨rfl, k2, ⟨a, b, k3, k4⟩, hng⟩⟩
    · have hl2 : fr2.length = 58 := K2.1.trans (by simp [hl])
      obtain ⟨m', hm'⟩ := Grw_frz hg'
      simp [hl2, hm']
      exact hΨ _ ⟨m', toks', 0, 0, rfl, fun g => ⟨rfl, hgd g⟩⟩
    · simp [k2, k3, k4]
      exact hΨ _ ⟨(true, false), [], a, b, by rw [List.map_nil, show sl (true, false) 5 [] = sl (true, false) 1 [] from sl_nil_any _ rfl _ _], fun g => absurd g hng⟩

theorem name_good {s : ByteArray} (h : nameB s = true) : Good s := by
  unfold nameB at h
  cases hb : bys s with
  | nil => rw [hb] at h; cases h
  | cons c r =>
    rw [hb] at h
    simp only [Bool.and_eq_true, decide_eq_true_eq] at h
    exact ⟨by unfold parL; rw [hb]; exact h.2, h.1.1, c, r, hb, h.1.2⟩

theorem pc_refIsName (s : ByteArray) : pc Q n_ref21_IsName [.str s] = some (.bool (lexN s)) := by
  obtain ⟨rt, hT, m, toks, k, e, rfl, hgood⟩ := pc_Tokens s
  have hN := pc_IsName s
  refine pcQ res_ref21_IsName rfl (by simp [x_ref21_IsName]) fun fr hl ha => ?_
  have h0 := ha 0
  clear ha
  simp [x_ref21_IsName] at hl h0
  have hcut : nameB s = true → (decide ((s.extract 0 (cutL (bys s))).toList = s.toList)) = !dblB (bys s) := fun _ => by
    rw [toL_dec]
    have h1 := cutL_all (bys s)
    have h2 := cutL_le (bys s)
    rw [bys_len] at h1 h2
    cases hd : dblB (bys s) with
    | false =>
      apply dec_t
      apply bys_eq
      rw [bys_ext, h1.2 hd, ← bys_len, List.take_length, List.drop_zero]
    | true =>
      apply dec_f
      intro k
      have := congrArg ByteArray.size k
      rw [size_ext _ h2] at this
      rw [h1.1 (by omega)] at hd
      cases hd
  by_cases he : e = 0
  · subst he
    by_cases h1 : toks.length = 1
    · obtain ⟨t, rfl⟩ : ∃ t, toks = [t] := by
        match toks, h1 with
        | [t], _ => exact ⟨t, rfl⟩
      simp only [List.map_cons, List.map_nil, tkV] at hT
      cases hn : nameB s with
      | true =>
        have ht := (hgood (name_good hn)).2
        simp only [List.cons.injEq, and_true] at ht
        subst ht
        have hc := hcut hn
        rw [hn] at hN
        have hv : lexN s = !dblB (bys s) := by simp [lexN, hn]
        rw [hv, ← hc]
        generalize s.extract 0 (cutL (bys s)) = u at *
        by_cases hu : u.toList = s.toList
        · simp [x_ref21_IsName, hl, h0, hT, hN, dec_t hu]
        · simp [x_ref21_IsName, hl, h0, hT, dec_f hu]
      | false =>
        have hv : lexN s = false := by simp [lexN, hn]
        rw [hv]
        rw [hn] at hN
        by_cases hk : t.kind = 1
        · by_cases hu : t.text.toList = s.toList
          · simp [x_ref21_IsName, hl, h0, hT, hN, dec_t hk, dec_t hu]
          · simp [x_ref21_IsName, hl, h0, hT, dec_t hk, dec_f hu]
        · simp [x_ref21_IsName, hl, h0, hT, dec_f hk]
    · have hv : lexN s = false := by
        cases hn : nameB s with
        | false => simp [lexN, hn]
        | true =>
          have ht := (hgood (name_good hn)).2
          rw [ht] at h1
          simp at h1
      have h1' : ¬((toks.length : Int) = 1) := by omega
      rw [hv]
      simp [x_ref21_IsName, hl, h0, hT, dec_f h1']
  · have hv : lexN s = false := by
      cases hn : nameB s with
      | false => simp [lexN, hn]
      | true => exact absurd (hgood (name_good hn)).1 he
    rw [hv]
    simp [x_ref21_IsName, hl, h0, hT, dec_f he]
end Go.Abs.Q

namespace Go.Abs.Q
open Go.Proofs
attribute [local simp] look_set_ne look_set_eq fin tupled code_loop raw_term_check raw_term_Valid raw_term_isName raw_ref01_node raw_ref01_nodes raw_ref01_Depth raw_ref01_Size raw_ref01_Valid raw_ref01_IsName

def nodeE (k s : Int) (nm : ByteArray) (n : Nat) : Int :=
  if (k = 1 ∨ k = 2) ∧ (s < 0 ∨ 5 < s ∨ 0 < n) ∨ k = 3 ∧ s ≠ 0 ∨ (k ≠ 1 ∧ k ≠ 2 ∧ k ≠ 3) then 1 else if nameB nm = false then 2 else if 8 < n then 3 else 0
mutual
def nodesE : Tm → Int
  | .mk k nm s _ l => if nodeE k s nm l.length ≠ 0 then nodeE k s nm l.length else nodesEs l
def nodesEs : List Tm → Int
  | [] => 0
  | t :: l => if nodesE t ≠ 0 then nodesE t else nodesEs l
end
mutual
def depT : Tm → Nat
  | .mk _ _ _ _ l => depTs l + 1
def depTs : List Tm → Nat
  | [] => 0
  | t :: l => max (depT t) (depTs l)
end
mutual
theorem dep_le : ∀ t : Tm, depT t ≤ t.size
  | .mk _ _ _ _ l => by
    have := deps_le l
    simp only [depT, Tm.size]
    omega
theorem deps_le : ∀ l : List Tm, depTs l ≤ Tm.sizes l
  | [] => Nat.le_refl _
  | t :: l => by
    have := dep_le t
    have := deps_le l
    simp only [depTs, Tm.sizes]
    omega
end
theorem depTs_app (a b : List Tm) : depTs (a ++ b) = max (depTs a) (depTs b) := by
  induction a with
  | nil => simp [depTs]
  | cons t a ih => simp only [List.cons_append, depTs, ih]; omega
def validT (t : Tm) : Int := if nodesE t ≠ 0 then nodesE t else if 400 < t.size ∨ 40 < depT t then 3 else 0

/-- Only two boxes are written to; some are added. -/
def Fr2 (p q : Nat) (h h' : AH) : Prop := h'.fams = h.fams ∧ h.boxes.length ≤ h'.boxes.length ∧ ∀ j, j ≠ p → j ≠ q → j < h.boxes.length → h'.boxes[j]? = h.boxes[j]?
theorem Fr2.refl (p q : Nat) (h : AH) : Fr2 p q h h := ⟨rfl, Nat.le_refl _, fun _ _ _ _ => rfl⟩
theorem Fr2.trans {p q : Nat} {a b c : AH} (h : Fr2 p q a b) (k : Fr2 p q b c) : Fr2 p q a c :=
  ⟨k.1.trans h.1, Nat.le_trans h.2.1 k.2.1, fun j h1 h2 h3 => (k.2.2 j h1 h2 (Nat.lt_of_lt_of_le h3 h.2.1)).trans (h.2.2 j h1 h2 h3)⟩
theorem Fr2.box (p q : Nat) (h : AH) (x : List AV) : Fr2 p q h ⟨h.boxes ++ [x], h.fams⟩ :=
  ⟨rfl, by simp, fun j _ _ h3 => by rw [List.getElem?_append_left h3]⟩
theorem Fr2.set1 {p q : Nat} {h : AH} (x : List AV) : Fr2 p q h ⟨h.boxes.set p x, h.fams⟩ :=
  ⟨rfl, by simp, fun j h1 _ _ => by simp only; rw [List.getElem?_set_ne (fun e => h1 e.symm)]⟩
theorem Fr2.set2 {p q : Nat} {h : AH} (x : List AV) : Fr2 p q h ⟨h.boxes.set q x, h.fams⟩ :=
  ⟨rfl, by simp, fun j _ h2 _ => by simp only; rw [List.getElem?_set_ne (fun e => h2 e.symm)]⟩

theorem getq_lt {α : Type} {l : List α} {i : Nat} {x : α} (h : l[i]? = some x) : i < l.length := (List.getElem?_eq_some_iff.1 h).1

theorem rcW {f : FuncId} {rf : RFunc} {args : List AV} {h : AH} {Φ : AV → AH → Prop} (hc : resFunc Tryz.prog ctxF f = some rf) (hl : args.length ≤ rf.ntmps)
    (H : ∀ Ψ : AV → AH → Prop, (∀ v h', Φ v h' → Ψ v h') → ∀ fr : Fr, fr.length = rf.ntmps → (∀ i, look fr i = args.getD i undefA) → Ends (evalCode (lim Q) (ctxF f) rf.body (fr, h)) (RFIN rf.results Ψ)) : ∃ v h', rc Q f args h = some (v, h') ∧ Φ v h' :=
  rcQ hc hl (H Φ fun _ _ h => h)

theorem check_boxes {h : AH} {p q : Nat} {a d : Int} (hpq : p ≠ q) (hp : h.boxes[p]? = some [.int .i64 a]) (hq : h.boxes[q]? = some [.int .i64 d]) (X : List AV) (d2 : Int) :
    (h.boxes ++ [X])[p]? = some [.int .i64 a] ∧ ((h.boxes ++ [X]).set p [.int .i64 (a + 1)])[q]? = some [.int .i64 d] ∧ (((h.boxes ++ [X]).set p [.int .i64 (a + 1)]).set q [.int .i64 d2])[h.boxes.length]? = some X ∧
    Fr2 p q h ⟨((h.boxes ++ [X]).set p [.int .i64 (a + 1)]).set q [.int .i64 d2], h.fams⟩ ∧ (((h.boxes ++ [X]).set p [.int .i64 (a + 1)]).set q [.int .i64 d2])[p]? = some [.int .i64 (a + 1)] ∧ (((h.boxes ++ [X]).set p [.int .i64 (a + 1)]).set q [.int .i64 d2])[q]? = some [.int .i64 d2] := by
  have hpl := getq_lt hp
  have hql := getq_lt hq
  refine ⟨?_, ?_, ?_, ?_, ?_, ?_⟩
  · rw [List.getElem?_append_left hpl]; exact hp
  · rw [List.getElem?_set_ne hpq, List.getElem?_append_left hql]; exact hq
  · rw [List.getElem?_set_ne (by omega), List.getElem?_set_ne (by omega)]
    simp
  · exact (Fr2.box p q h X).trans ((Fr2.set1 (h := ⟨h.boxes ++ [X], h.fams⟩) _).trans (Fr2.set2 (h := ⟨(h.boxes ++ [X]).set p [.int .i64 (a + 1)], h.fams⟩) _))
  · rw [List.getElem?_set_ne (fun e => hpq e.symm), List.getElem?_set_self (by simp; omega)]
  · rw [List.getElem?_set_self (by simp; omega)]

theorem nth_tm {l : List Tm} {i : Nat} (h : i < l.length) : nth (tmVs l) i = some (tmV l[i]) := nth_tmVs (by simp [h])

/-- What check does to a term. -/
def ChkOk (t : Tm) : Prop := ∀ (lv a d : Int) (p q : Nat) (h : AH), 0 ≤ lv → lv + t.size ≤ 4398046511104 → 0 ≤ a → a + t.size ≤ 4398046511104 → p ≠ q → h.boxes[p]? = some [.int .i64 a] → h.boxes[q]? = some [.int .i64 d] →
    ∃ v h', rc Q n_term_check [tmV t, .int .i64 lv, .ptr p 0, .ptr q 0] h = some (v, h') ∧ (v = .int .i64 (nodesE t) ∧ Fr2 p q h h' ∧ ∃ a' d', h'.boxes[p]? = some [.int .i64 a'] ∧ h'.boxes[q]? = some [.int .i64 d'] ∧ (nodesE t = 0 → a' = a + t.size ∧ d' = max d (lv + depT t - 1)))

theorem loop_check (m : Bool × Bool) (kids : List Tm) (IH : ∀ t ∈ kids, ChkOk t) (lv a d : Int) (p q : Nat) (hlv : 0 ≤ lv) (hlv' : lv + Tm.sizes kids + 1 ≤ 4398046511104) (ha0 : 0 ≤ a) (ha1 : a + Tm.sizes kids ≤ 4398046511104) (hpq : p ≠ q) (hlen : kids.length ≤ 4398046511104)
    (fr : Fr) (h : AH) (hl : fr.length = 73) (h1 : look fr 1 = .int .i64 lv) (h2 : look fr 2 = .ptr p 0) (h3 : look fr 3 = .ptr q 0) (h57 : look fr 57 = sl m 4 (tmVs kids)) (h58 : look fr 58 = .int .i64 kids.length) (h59 : look fr 59 = .int .i64 0) (hp : h.boxes[p]? = some [.int .i64 a]) (hq : h.boxes[q]? = some [.int .i64 d]) :
    Ends (lp (evalCode (lim Q) (ctxF n_term_check) x_term_check_0) (fr, h)) fun e fr' h' => Kp x_term_check_0.wr fr fr' ∧ Fr2 p q h h' ∧ (∃ a' d', h'.boxes[p]? = some [.int .i64 a'] ∧ h'.boxes[q]? = some [.int .i64 d'] ∧ (nodesEs kids = 0 → a' = a + Tm.sizes kids ∧ max d' lv = max (max d lv) (lv + depTs kids) ∧ d ≤ d')) ∧
      (e = .exit 1 ∧ nodesEs kids = 0 ∨ e = .ret ∧ look fr' 8 = .int .i64 (nodesEs kids) ∧ nodesEs kids ≠ 0) := by
  refine Ends_lpw rfl fr (fun n fr h' => ∃ (i : Nat) (a' d' : Int), i + n = kids.length ∧ look fr 59 = .int .i64 (i : Nat) ∧ Fr2 p q h h' ∧ h'.boxes[p]? = some [.int .i64 a'] ∧ h'.boxes[q]? = some [.int .i64 d'] ∧ a' + Tm.sizes (kids.drop i) = a + Tm.sizes kids ∧ 0 ≤ a' ∧ d ≤ d' ∧ max (max d' lv) (lv + depTs (kids.drop i)) = max (max d lv) (lv + depTs kids) ∧ nodesEs (kids.drop i) = nodesEs kids) ?_ kids.length h
    ⟨0, a, d, by omega, h59, Fr2.refl _ _ _, hp, hq, rfl, ha0, by omega, rfl, rfl⟩
  rintro J Φ hJ hΦ n fr1 hh K ⟨i, a', d', hi, k59, hF, kp, kq, hsz, ha', hdd, hdm, hr⟩
  have hl1 : fr1.length = 73 := K.1.trans hl
  have k1 := (K.2 1 (by decide)).trans h1
  have k2 := (K.2 2 (by decide)).trans h2
  have k3 := (K.2 3 (by decide)).trans h3
  have k57 := (K.2 57 (by decide)).trans h57
  have k58 := (K.2 58 (by decide)).trans h58
  by_cases hlt : i < kids.length
  · have hx := nth_tm hlt
    have hw : IntKind.i64.wrap ((i : Int) + 1) = (i : Int) + 1 := wrap_id (by omega) (by omega)
    have hwl : IntKind.i64.wrap (lv + 1) = lv + 1 := wrap_id (by omega) (by omega)
    have hI := IH kids[i] (List.getElem_mem hlt)
    rw [List.drop_eq_getElem_cons hlt] at hr hdm hsz
    simp only [nodesEs, depTs, Tm.sizes] at hr hdm hsz
    have hss : Tm.sizes (kids.drop (i + 1)) + (kids[i]).size ≤ Tm.sizes kids := by
      have h1 : Tm.sizes (kids.take i ++ kids.drop i) = Tm.sizes (kids.take i) + Tm.sizes (kids.drop i) := Tm.sizes_append _ _
      rw [List.take_append_drop, List.drop_eq_getElem_cons hlt] at h1
      simp only [Tm.sizes] at h1
      omega
    generalize kids[i] = t at *
    have hpl : p < hh.boxes.length := getq_lt kp
    have hql : q < hh.boxes.length := getq_lt kq
    obtain ⟨v, h', hrc, rfl, hF', a2, d2, hp2, hq2, hz2⟩ := hI (lv + 1) a' d' p q ⟨hh.boxes ++ [(tmV t).cells], hh.fams⟩ (by omega) (by omega) ha' (by omega) hpq
      (by simp only; rw [List.getElem?_append_left hpl]; exact kp) (by simp only; rw [List.getElem?_append_left hql]; exact kq)
    have hF2 : Fr2 p q h h' := hF.trans ((Fr2.box p q hh _).trans hF')
    clear hpl hql kp kq IH hI
    obtain ⟨tk, tn, ts, tm, tl⟩ := t
    simp only [tmV, cells_agg] at hrc hx
    by_cases hz : nodesE (.mk tk tn ts tm tl) = 0
    · rw [hz] at hrc
      obtain ⟨rfl, rfl⟩ := hz2 hz
      rw [if_neg (by simp [hz])] at hr
      simp [x_term_check_0, hl1, k1, k2, k3, k57, k58, k59, hlt, hx, hwl, hw, hrc]
      refine ⟨n - 1, by omega, hJ _ _ _ ⟨i + 1, _, _, by omega, by simp [hl1], hF2, hp2, hq2, by omega, by omega, by omega, by omega, hr⟩⟩
    · rw [if_pos hz] at hr
      simp [x_term_check_0, hl1, k1, k2, k3, k57, k58, k59, hlt, hx, hwl, hrc, hz]
      refine hΦ _ _ _ ⟨hF2, ⟨a2, d2, hp2, hq2, fun e => absurd (hr.trans e) hz⟩, .inr ⟨rfl, by simp [hl1, hr], fun e => hz (hr.trans e)⟩⟩
  · rw [List.drop_eq_nil_of_le (by omega)] at hr hdm hsz
    simp only [nodesEs, depTs, Tm.sizes] at hr hdm hsz
    simp [x_term_check_0, hl1, k58, k59, hlt]
    exact hΦ _ _ _ ⟨hF, ⟨a', d', kp, kq, fun _ => ⟨by omega, by omega, hdd⟩⟩, .inl ⟨rfl, hr.symm⟩⟩

theorem rc_check : ∀ (n : Nat) (t : Tm), t.size ≤ n → ChkOk t := by
  intro n
  induction n with
  | zero => intro t h; have := t.size_pos; omega
  | succ n ih =>
    intro t hn lv a d p q h hlv hlv' ha0 ha1 hpq hp hq
    obtain ⟨k, nm, s, m, kids⟩ := t
    have hsz : Tm.size (.mk k nm s m kids) = 1 + Tm.sizes kids := rfl
    have hlen := Tm.length_le kids
    have hN := pc_isName nm
    have hnE : nodesE (.mk k nm s m kids) = if nodeE k s nm kids.length ≠ 0 then nodeE k s nm kids.length else nodesEs kids := rfl
    have hdE : depT (.mk k nm s m kids) = depTs kids + 1 := rfl
    have hloop := fun X => loop_check m kids (fun t ht => ih t (by have := Tm.size_le ht; omega)) lv (a + 1) X p q hlv (by omega) (by omega) (by omega) hpq (by omega)
    rw [hsz] at hlv' ha1
    rw [hsz, hdE]
    generalize htE : nodesE (.mk k nm s m kids) = te at *
    obtain ⟨d2, hd2⟩ : ∃ d2, (if lv > d then lv else d) = d2 := ⟨_, rfl⟩
    have hd2' : d2 = max d lv := by rw [← hd2]; split <;> omega
    obtain ⟨g1, g2, g3, g4, g5, g6⟩ := check_boxes hpq hp hq [.int .i64 k, .str nm, .int .i64 s, sl m 4 (tmVs kids)] d2
    have hpl : p < h.boxes.length := getq_lt hp
    have hql : q < h.boxes.length := getq_lt hq
    refine rcW res_term_check (by simp [x_term_check]) fun Ψ hΨ fr hl ha => ?_
    have h0 := ha 0
    have h1 := ha 1
    have h2 := ha 2
    have h3 := ha 3
    clear ha
    simp [x_term_check, tmV] at hl h0 h1 h2 h3
    have hw1 : IntKind.i64.wrap (a + 1) = a + 1 := wrap_id (by omega) (by omega)
    have hpl' : p < h.boxes.length + 1 := by omega
    have hql' : q < h.boxes.length + 1 := by omega
    simp only [gt_iff_lt] at hd2
    have bad : ∀ v, nodeE k s nm kids.length = v → v ≠ 0 → Ψ (.int .i64 v) ⟨((h.boxes ++ [[.int .i64 k, .str nm, .int .i64 s, sl m 4 (tmVs kids)]]).set p [.int .i64 (a + 1)]).set q [.int .i64 d2], h.fams⟩ := fun v hv h0 => by
      rw [hv, if_pos h0] at hnE
      exact hΨ _ _ ⟨by rw [hnE], g4, _, _, g5, g6, fun e => absurd (hnE.symm.trans e) h0⟩
    clear hpl hql hpl' hql' hp hq
    obtain ⟨_, g3b⟩ := List.getElem?_eq_some_iff.1 g3
    have hd2m : max d2 lv = d2 := by omega
    have loopFin : nodeE k s nm kids.length = 0 → ∀ fr' : Fr, fr'.length = 73 → look fr' 1 = .int .i64 lv → look fr' 2 = .ptr p 0 → look fr' 3 = .ptr q 0 → look fr' 57 = sl m 4 (tmVs kids) → look fr' 58 = .int .i64 kids.length → look fr' 59 = .int .i64 0 →
        Ends (lp (evalCode (lim Q) (ctxF n_term_check) x_term_check_0) (fr', ⟨((h.boxes ++ [[.int .i64 k, .str nm, .int .i64 s, sl m 4 (tmVs kids)]]).set p [.int .i64 (a + 1)]).set q [.int .i64 d2], h.fams⟩)) fun e fr2 h2 =>
          fr2.length = 73 ∧ (e = .exit 1 ∧ Ψ (.int .i64 0) h2 ∨ e = .ret ∧ look fr2 8 = .int .i64 te ∧ Ψ (.int .i64 te) h2) := by
      intro hnz fr' l0 l1 l2 l3 l57 l58 l59
      refine (hloop d2 fr' _ l0 l1 l2 l3 l57 l58 l59 g5 g6).mono ?_
      rintro e fr2 h2 ⟨K, hF, ⟨a2, d3, b1, b2, b3⟩, hc⟩
      rw [if_neg (by simp [hnz])] at hnE
      refine ⟨K.1.trans l0, ?_⟩
      rcases hc with ⟨rfl, hz⟩ | ⟨rfl, h8, hz⟩
      · refine .inl ⟨rfl, hΨ _ _ ⟨by rw [hnE, hz], g4.trans hF, a2, d3, b1, b2, fun _ => ?_⟩⟩
        have := b3 hz
        omega
      · rw [← hnE] at hz h8
        exact .inr ⟨rfl, h8, hΨ _ _ ⟨rfl, g4.trans hF, a2, d3, b1, b2, fun e => absurd e hz⟩⟩
    by_cases hkk : k = 1 ∨ k = 2
    · by_cases hs0 : s < 0
      · have b := bad 1 (by rw [nodeE, if_pos (.inl ⟨hkk, .inl hs0⟩)]) (by omega)
        rcases hkk with rfl | rfl <;> simp [x_term_check, hl, h0, h1, h2, h3, g1, g2, g3b, hw1, hd2, dec_t hs0] <;> exact b
      by_cases hs5 : 5 < s
      · have b := bad 1 (by rw [nodeE, if_pos (.inl ⟨hkk, .inr (.inl hs5)⟩)]) (by omega)
        rcases hkk with rfl | rfl <;> simp [x_term_check, hl, h0, h1, h2, h3, g1, g2, g3b, hw1, hd2, dec_f hs0, dec_t hs5] <;> exact b
      by_cases hk0 : kids = []
      · subst hk0
        have hnb : nodeE k s nm 0 = if nameB nm = false then 2 else 0 := by
          rw [nodeE, if_neg (by omega), if_neg (show ¬8 < 0 by omega)]
        cases hn : nameB nm with
        | false =>
          rw [hn] at hN
          have b := bad 2 (by rw [List.length_nil, hnb, hn]; rfl) (by omega)
          rcases hkk with rfl | rfl <;> simp [x_term_check, hl, h0, h1, h2, h3, g1, g2, g3b, hw1, hd2, dec_f hs0, dec_f hs5, hN] <;> exact b
        | true =>
          rw [hn] at hN
          have lf := loopFin (by rw [List.length_nil, hnb, hn]; rfl)
          clear bad loopFin hloop
          rcases hkk with rfl | rfl <;>
          · simp [x_term_check, hl, h0, h1, h2, h3, g1, g2, g3b, hw1, hd2, dec_f hs0, dec_f hs5, hN]
            refine Ends.mono (lf _ ?_ ?_ ?_ ?_ ?_ ?_ ?_) ?_ <;> first | (simp [hl, h1, h2, h3, tmVs]; done) | skip
            rintro e fr2 hh2 ⟨l2, ⟨rfl, b⟩ | ⟨rfl, k8, b⟩⟩
            · simp [l2]; exact b
            · simp [k8]; exact b
      · have hpos : 0 < kids.length := List.length_pos_iff.2 hk0
        have b := bad 1 (by rw [nodeE, if_pos (.inl ⟨hkk, .inr (.inr hpos)⟩)]) (by omega)
        rcases hkk with rfl | rfl <;> simp [x_term_check, hl, h0, h1, h2, h3, g1, g2, g3b, hw1, hd2, dec_f hs0, dec_f hs5, hpos] <;> exact b
    · have k1 : ¬k = 1 := fun e => hkk (.inl e)
      have k2 : ¬k = 2 := fun e => hkk (.inr e)
      by_cases k3 : k = 3
      · subst k3
        by_cases hs : s = 0
        · subst hs
          have hnb : nodeE 3 0 nm kids.length = if nameB nm = false then 2 else if 8 < kids.length then 3 else 0 := by
            rw [nodeE, if_neg (by omega)]
          cases hn : nameB nm with
          | false =>
            rw [hn] at hN
            have b := bad 2 (by rw [hnb, hn]; rfl) (by omega)
            simp [x_term_check, hl, h0, h1, h2, h3, g1, g2, g3b, hw1, hd2, hN]
            exact b
          | true =>
            rw [hn] at hN
            by_cases h8 : 8 < kids.length
            · have b := bad 3 (by rw [hnb, hn, if_neg (by simp), if_pos h8]) (by omega)
              have h8' : (8 : Int) < (kids.length : Int) := by omega
              simp [x_term_check, hl, h0, h1, h2, h3, g1, g2, g3b, hw1, hd2, hN, h8']
              exact b
            · have lf := loopFin (by rw [hnb, hn, if_neg (by simp), if_neg h8])
              have h8' : ¬(8 : Int) < (kids.length : Int) := by omega
              clear bad loopFin hloop
              simp [x_term_check, hl, h0, h1, h2, h3, g1, g2, g3b, hw1, hd2, hN, h8']
              refine Ends.mono (lf _ ?_ ?_ ?_ ?_ ?_ ?_ ?_) ?_ <;> first | (simp [hl, h1, h2, h3]; done) | skip
              rintro e fr2 hh2 ⟨l2, ⟨rfl, b⟩ | ⟨rfl, k8, b⟩⟩
              · simp [l2]; exact b
              · simp [k8]; exact b
        · have b := bad 1 (by rw [nodeE, if_pos (.inr (.inl ⟨rfl, hs⟩))]) (by omega)
          simp [x_term_check, hl, h0, h1, h2, h3, g1, g2, g3b, hw1, hd2, dec_f hs]
          exact b
      · have b := bad 1 (by rw [nodeE, if_pos (.inr (.inr ⟨k1, k2, k3⟩))]) (by omega)
        simp [x_term_check, hl, h0, h1, h2, h3, g1, g2, g3b, hw1, hd2, dec_f k1, dec_f k2, dec_f k3]
        exact b

theorem pc_termValid (t : Tm) (hb : t.size ≤ 1099511627776) : pc Q n_term_Valid [tmV t] = some (.int .i64 (validT t)) := by
  obtain ⟨v, h', hrc, rfl, hF, a', d', b1, b2, hz⟩ := rc_check _ t (Nat.le_refl _) 1 0 0 1 2 ⟨[(tmV t).cells, [.int .i64 0], [.int .i64 0]], []⟩ (by omega) (by omega) (by omega) (by omega) (by omega) rfl rfl
  have hpos := t.size_pos
  have hd : depT t ≤ t.size := dep_le t
  have hd1 : 1 ≤ depT t := by cases t; simp [depT]
  refine pcQ res_term_Valid rfl (by simp [x_term_Valid]) fun fr hl ha => ?_
  have h0 := ha 0
  clear ha
  have hv : validT t = if nodesE t ≠ 0 then nodesE t else if 400 < t.size ∨ 40 < depT t then 3 else 0 := rfl
  generalize validT t = v at *
  obtain ⟨k, nm, s, m, kids⟩ := t
  simp [x_term_Valid, tmV] at hl h0 hrc
  obtain ⟨w1, b1'⟩ := List.getElem?_eq_some_iff.1 b1
  obtain ⟨w2, b2'⟩ := List.getElem?_eq_some_iff.1 b2
  by_cases hn : nodesE (.mk k nm s m kids) = 0
  · obtain ⟨rfl, rfl⟩ := hz hn
    rw [if_neg (by simp [hn])] at hv
    rw [hn] at hrc
    generalize Tm.size (.mk k nm s m kids) = z at *
    generalize depT (.mk k nm s m kids) = dd at *
    have e1 : (0 : Int) + (z : Int) = z := by omega
    have e2 : max (0 : Int) (1 + (dd : Int) - 1) = dd := by omega
    rw [e1] at b1
    rw [e2] at b2
    by_cases h4 : (400 : Int) < (z : Int)
    · rw [if_pos (.inl (by omega))] at hv
      subst hv
      simp [x_term_Valid, hl, h0, hrc, b1, dec_t h4]
    · by_cases h5 : (40 : Int) < (dd : Int)
      · rw [if_pos (.inr (by omega))] at hv
        subst hv
        simp [x_term_Valid, hl, h0, hrc, b1, b2, dec_f h4, dec_t h5]
      · rw [if_neg (by omega)] at hv
        subst hv
        simp [x_term_Valid, hl, h0, hrc, b1, b2, dec_f h4, dec_f h5]
  · rw [if_pos hn] at hv
    rw [← hv] at hrc hn
    simp [x_term_Valid, hl, h0, hrc, hn]

theorem pc_node (k s : Int) (nm : ByteArray) (m : Bool × Bool) (kids : List Tm) : pc Q n_ref01_node [tmV (.mk k nm s m kids)] = some (.int .i64 (nodeE k s nm kids.length)) := by
  have hN := pc_IsName nm
  refine pcQ res_ref01_node rfl (by simp [x_ref01_node]) fun fr hl ha => ?_
  have h0 := ha 0
  clear ha
  simp [x_ref01_node, tmV] at hl h0
  generalize hv : nodeE k s nm kids.length = v
  by_cases hbad : (k = 1 ∨ k = 2) ∧ (s < 0 ∨ 5 < s ∨ 0 < kids.length) ∨ k = 3 ∧ s ≠ 0 ∨ (k ≠ 1 ∧ k ≠ 2 ∧ k ≠ 3)
  · rw [nodeE, if_pos hbad] at hv
    subst hv
    rcases hbad with ⟨hk, hc⟩ | ⟨rfl, hs⟩ | ⟨k1, k2, k3⟩
    · by_cases hs0 : s < 0
      · rcases hk with rfl | rfl <;> simp [x_ref01_node, hl, h0, dec_t hs0]
      · by_cases hs5 : 5 < s
        · rcases hk with rfl | rfl <;> simp [x_ref01_node, hl, h0, dec_f hs0, dec_t hs5]
        · have hpos : 0 < kids.length := by omega
          rcases hk with rfl | rfl <;> simp [x_ref01_node, hl, h0, dec_f hs0, dec_f hs5, hpos]
    · by_cases hs0 : s < 0
      · simp [x_ref01_node, hl, h0, dec_t hs0]
      · by_cases hs5 : 5 < s
        · simp [x_ref01_node, hl, h0, dec_f hs0, dec_t hs5]
        · simp [x_ref01_node, hl, h0, dec_f hs0, dec_f hs5, dec_f hs]
    · simp [x_ref01_node, hl, h0, dec_f k1, dec_f k2, dec_f k3]
  · rw [nodeE, if_neg hbad] at hv
    have hk : k = 1 ∨ k = 2 ∨ k = 3 := by omega
    have hs0 : ¬s < 0 := by omega
    have hs5 : ¬5 < s := by omega
    cases hn : nameB nm with
    | false =>
      rw [if_pos hn] at hv
      subst hv
      rw [hn] at hN
      rcases hk with rfl | rfl | rfl
      · have hz : kids = [] := List.eq_nil_of_length_eq_zero (by omega)
        subst hz
        simp [x_ref01_node, hl, h0, dec_f hs0, dec_f hs5, hN]
      · have hz : kids = [] := List.eq_nil_of_length_eq_zero (by omega)
        subst hz
        simp [x_ref01_node, hl, h0, dec_f hs0, dec_f hs5, hN]
      · have hz : s = 0 := by omega
        subst hz
        simp [x_ref01_node, hl, h0, hN]
    | true =>
      rw [if_neg (by simp [hn])] at hv
      rw [hn] at hN
      by_cases h8 : 8 < kids.length
      · rw [if_pos h8] at hv
        subst hv
        have h8' : (8 : Int) < (kids.length : Int) := by omega
        rcases hk with rfl | rfl | rfl
        · omega
        · omega
        · have hz : s = 0 := by omega
          subst hz
          simp [x_ref01_node, hl, h0, hN, h8']
      · rw [if_neg h8] at hv
        subst hv
        have h8' : ¬(8 : Int) < (kids.length : Int) := by omega
        rcases hk with rfl | rfl | rfl
        · have hz : kids = [] := List.eq_nil_of_length_eq_zero (by omega)
          subst hz
          simp [x_ref01_node, hl, h0, dec_f hs0, dec_f hs5, hN]
        · have hz : kids = [] := List.eq_nil_of_length_eq_zero (by omega)
          subst hz
          simp [x_ref01_node, hl, h0, dec_f hs0, dec_f hs5, hN]
        · have hz : s = 0 := by omega
          subst hz
          simp [x_ref01_node, hl, h0, hN, h8']

theorem loop_nodes (B : List AV) (m : Bool × Bool) (kids : List Tm) (hB : ∃ a b c, B = [a, b, c, sl m 4 (tmVs kids)]) (IH : ∀ t ∈ kids, pc Q n_ref01_nodes [tmV t] = some (.int .i64 (nodesE t))) (hlen : kids.length ≤ 1099511627776)
    (fr : Fr) (h : AH) (hh : h = ⟨[B], []⟩) (hl : fr.length = 27) (h1 : look fr 1 = .ptr 0 0) (h4 : look fr 4 = .int .i64 0) :
    Ends (lp (evalCode (lim Q) (ctxF n_ref01_nodes) x_ref01_nodes_0) (fr, h)) fun e fr' h' => Kp x_ref01_nodes_0.wr fr fr' ∧ (e = .exit 0 ∧ nodesEs kids = 0 ∨ e = .ret ∧ look fr' 2 = .int .i64 (nodesEs kids)) := by
  obtain ⟨b0, b1, b2, rfl⟩ := hB
  refine Ends_lpw rfl fr (fun n fr h' => ∃ (i : Nat), i + n = kids.length ∧ look fr 4 = .int .i64 (i : Nat) ∧ h' = ⟨[[b0, b1, b2, sl m 4 (tmVs kids)]], []⟩ ∧ nodesEs (kids.drop i) = nodesEs kids) ?_ kids.length h ⟨0, by omega, h4, hh, rfl⟩
  rintro J Φ hJ hΦ n fr1 h1' K ⟨i, hi, k4, rfl, hr⟩
  have hl1 : fr1.length = 27 := K.1.trans hl
  have k1 := (K.2 1 (by decide)).trans h1
  by_cases hlt : i < kids.length
  · have hx := nth_tm hlt
    have hw : IntKind.i64.wrap ((i : Int) + 1) = (i : Int) + 1 := wrap_id (by omega) (by omega)
    have hI := IH kids[i] (List.getElem_mem hlt)
    rw [List.drop_eq_getElem_cons hlt] at hr
    simp only [nodesEs] at hr
    generalize kids[i] = t at *
    obtain ⟨tk, tn, ts, tm, tl⟩ := t
    simp only [tmV] at hI hx
    generalize nodesE (.mk tk tn ts tm tl) = e at *
    by_cases hz : e = 0
    · rw [if_neg (by simp [hz])] at hr
      simp [x_ref01_nodes_0, hl1, k1, k4, hlt, hx, hI, hw, hz]
      exact ⟨n - 1, by omega, hJ _ _ _ ⟨i + 1, by omega, by simp [hl1], rfl, hr⟩⟩
    · rw [if_pos hz] at hr
      simp [x_ref01_nodes_0, hl1, k1, k4, hlt, hx, hI, hz]
      exact hΦ _ _ _ (.inr ⟨rfl, by simp [hl1, hr]⟩)
  · rw [List.drop_eq_nil_of_le (by omega)] at hr
    simp [x_ref01_nodes_0, hl1, k1, k4, hlt]
    exact hΦ _ _ _ (.inl ⟨rfl, hr.symm⟩)

theorem pc_nodes : ∀ (n : Nat) (t : Tm), t.size ≤ n → t.size ≤ 1099511627776 → pc Q n_ref01_nodes [tmV t] = some (.int .i64 (nodesE t)) := by
  intro n
  induction n with
  | zero => intro t h; have := t.size_pos; omega
  | succ n ih =>
    intro t hn hb
    obtain ⟨k, nm, s, m, kids⟩ := t
    have hsz : Tm.size (.mk k nm s m kids) = 1 + Tm.sizes kids := rfl
    have hlen := Tm.length_le kids
    have hN := pc_node k s nm m kids
    have hnE : nodesE (.mk k nm s m kids) = if nodeE k s nm kids.length ≠ 0 then nodeE k s nm kids.length else nodesEs kids := rfl
    have hlp := loop_nodes [.int .i64 k, .str nm, .int .i64 s, sl m 4 (tmVs kids)] m kids ⟨_, _, _, rfl⟩ (fun t ht => ih t (by have := Tm.size_le ht; omega) (by have := Tm.size_le ht; omega)) (by omega)
    refine pcQ res_ref01_nodes rfl (by simp [x_ref01_nodes]) fun fr hl ha => ?_
    have h0 := ha 0
    clear ha ih
    simp [x_ref01_nodes, tmV] at hl h0 hN
    generalize nodesE (.mk k nm s m kids) = v at *
    generalize nodeE k s nm kids.length = w at *
    by_cases hw : w = 0
    · subst hw
      rw [if_neg (by simp)] at hnE
      simp [x_ref01_nodes, hl, h0, hN]
      refine Ends.mono (hlp _ _ rfl ?_ ?_ ?_) ?_ <;> first | (simp [hl]; done) | skip
      rintro e fr1 h1 ⟨K, ⟨rfl, hz⟩ | ⟨rfl, k2⟩⟩
      · have hl1 : fr1.length = 27 := K.1.trans (by simp [hl])
        simp [hl1, hnE, hz]
      · simp [k2, hnE]
    · rw [if_pos hw] at hnE
      subst hnE
      simp [x_ref01_nodes, hl, h0, hN, hw]

theorem loop_Depth (B : List AV) (m : Bool × Bool) (kids : List Tm) (hB : ∃ a b c, B = [a, b, c, sl m 4 (tmVs kids)]) (IH : ∀ t ∈ kids, pc Q n_ref01_Depth [tmV t] = some (.int .i64 (depT t))) (hlen : kids.length ≤ 1099511627776)
    (fr : Fr) (h : AH) (hh : h = ⟨[B], []⟩) (hl : fr.length = 22) (h1 : look fr 1 = .ptr 0 0) (h3 : look fr 3 = .int .i64 0) (h4 : look fr 4 = .int .i64 0) :
    Ends (lp (evalCode (lim Q) (ctxF n_ref01_Depth) x_ref01_Depth_0) (fr, h)) fun e fr' h' => Kp x_ref01_Depth_0.wr fr fr' ∧ e = .exit 0 ∧ look fr' 3 = .int .i64 (depTs kids) := by
  obtain ⟨b0, b1, b2, rfl⟩ := hB
  refine Ends_lpw rfl fr (fun n fr h' => ∃ (i d : Nat), i + n = kids.length ∧ look fr 4 = .int .i64 (i : Nat) ∧ look fr 3 = .int .i64 (d : Nat) ∧ h' = ⟨[[b0, b1, b2, sl m 4 (tmVs kids)]], []⟩ ∧ max d (depTs (kids.drop i)) = depTs kids) ?_ kids.length h ⟨0, 0, by omega, h4, h3, hh, by simp⟩
  rintro J Φ hJ hΦ n fr1 h1' K ⟨i, d, hi, k4, k3, rfl, hr⟩
  have hl1 : fr1.length = 22 := K.1.trans hl
  have k1 := (K.2 1 (by decide)).trans h1
  by_cases hlt : i < kids.length
  · have hx := nth_tm hlt
    have hw : IntKind.i64.wrap ((i : Int) + 1) = (i : Int) + 1 := wrap_id (by omega) (by omega)
    have hI := IH kids[i] (List.getElem_mem hlt)
    rw [List.drop_eq_getElem_cons hlt] at hr
    simp only [depTs] at hr
    generalize kids[i] = t at *
    obtain ⟨tk, tn, ts, tm, tl⟩ := t
    simp only [tmV] at hI hx
    generalize depT (.mk tk tn ts tm tl) = e at *
    by_cases hz : (d : Int) < (e : Int)
    · simp [x_ref01_Depth_0, hl1, k1, k3, k4, hlt, hx, hI, hw, hz]
      exact ⟨n - 1, by omega, hJ _ _ _ ⟨i + 1, e, by omega, by simp [hl1], by simp [hl1], rfl, by omega⟩⟩
    · simp [x_ref01_Depth_0, hl1, k1, k3, k4, hlt, hx, hI, hw, hz]
      exact ⟨n - 1, by omega, hJ _ _ _ ⟨i + 1, d, by omega, by simp [hl1], by simp [hl1], rfl, by omega⟩⟩
  · rw [List.drop_eq_nil_of_le (by omega)] at hr
    simp only [depTs, Nat.max_zero] at hr
    simp [x_ref01_Depth_0, hl1, k1, k4, hlt]
    exact hΦ _ _ _ ⟨rfl, by rw [← hr]; simp [k3]⟩

theorem pc_Depth : ∀ (n : Nat) (t : Tm), t.size ≤ n → t.size ≤ 1099511627776 → pc Q n_ref01_Depth [tmV t] = some (.int .i64 (depT t)) := by
  intro n
  induction n with
  | zero => intro t h; have := t.size_pos; omega
  | succ n ih =>
    intro t hn hb
    obtain ⟨k, nm, s, m, kids⟩ := t
    have hsz : Tm.size (.mk k nm s m kids) = 1 + Tm.sizes kids := rfl
    have hlen := Tm.length_le kids
    have hdl := deps_le kids
    have hdE : depT (.mk k nm s m kids) = depTs kids + 1 := rfl
    have hlp := loop_Depth [.int .i64 k, .str nm, .int .i64 s, sl m 4 (tmVs kids)] m kids ⟨_, _, _, rfl⟩ (fun t ht => ih t (by have := Tm.size_le ht; omega) (by have := Tm.size_le ht; omega)) (by omega)
    refine pcQ res_ref01_Depth rfl (by simp [x_ref01_Depth]) fun fr hl ha => ?_
    have h0 := ha 0
    clear ha ih
    simp [x_ref01_Depth, tmV] at hl h0
    generalize depT (.mk k nm s m kids) = v at *
    simp [x_ref01_Depth, h0]
    refine Ends.mono (hlp _ _ rfl ?_ ?_ ?_ ?_) ?_ <;> first | (simp [hl]; done) | skip
    rintro e fr1 h1 ⟨K, rfl, k3⟩
    have hl1 : fr1.length = 22 := K.1.trans (by simp [hl])
    have hw : IntKind.i64.wrap ((depTs kids : Int) + 1) = (v : Int) := by rw [wrap_id (by omega) (by omega)]; omega
    simp [hl1, k3, hw]

theorem pc_refTermValid (t : Tm) (hb : t.size ≤ 1099511627776) : pc Q n_ref01_Valid [tmV t] = some (.int .i64 (validT t)) := by
  have hN := pc_nodes _ t (Nat.le_refl _) hb
  have hS := pc_refSize _ t (Nat.le_refl _) hb
  have hD := pc_Depth _ t (Nat.le_refl _) hb
  refine pcQ res_ref01_Valid rfl (by simp [x_ref01_Valid]) fun fr hl ha => ?_
  have h0 := ha 0
  clear ha
  have hv : validT t = if nodesE t ≠ 0 then nodesE t else if 400 < t.size ∨ 40 < depT t then 3 else 0 := rfl
  generalize validT t = v at *
  generalize nodesE t = w at *
  generalize t.size = z at *
  generalize depT t = dd at *
  obtain ⟨k, nm, s, m, kids⟩ := t
  simp [x_ref01_Valid, tmV] at hl h0 hN hS hD
  by_cases hn : w = 0
  · subst hn
    rw [if_neg (by simp)] at hv
    by_cases h4 : (400 : Int) < (z : Int)
    · rw [if_pos (.inl (by omega))] at hv
      subst hv
      simp [x_ref01_Valid, hl, h0, hN, hS, dec_t h4]
    · by_cases h5 : (40 : Int) < (dd : Int)
      · rw [if_pos (.inr (by omega))] at hv
        subst hv
        simp [x_ref01_Valid, hl, h0, hN, hS, hD, dec_f h4, dec_t h5]
      · rw [if_neg (by omega)] at hv
        subst hv
        simp [x_ref01_Valid, hl, h0, hN, hS, hD, dec_f h4, dec_f h5]
  · rw [if_pos hn] at hv
    subst hv
    simp [x_ref01_Valid, hl, h0, hN, hn]
end Go.Abs.Q
