/- The reference's tokens: classes of bytes, words, numbers, the first token, lines without comments. -/
import Derived.Test.YtpkegmgepnhfnaaGreatV8
import Derived.Lib.Strings
/- Contracts: names. -/
namespace Go.Abs.Q
attribute [local simp] look_set_ne look_set_eq fin tupled code_loop raw_term_part raw_ref01_letter raw_ref01_digit raw_term_isName raw_ref01_IsName

theorem dec_t {p : Prop} [Decidable p] (h : p) : decide p = true := by simp [h]
theorem dec_f {p : Prop} [Decidable p] (h : ¬p) : decide p = false := by simp [h]

def letB (c : Nat) : Bool := decide (97 ≤ c ∧ c ≤ 122) || decide (65 ≤ c ∧ c ≤ 90)
def digB (c : Nat) : Bool := decide (48 ≤ c ∧ c ≤ 57)
def parB (c : Nat) : Bool := letB c || digB c || decide (c = 95) || decide (c = 35)

theorem ranges (c : Nat) : c < 35 ∨ c = 35 ∨ (36 ≤ c ∧ c ≤ 47) ∨ (48 ≤ c ∧ c ≤ 57) ∨ (58 ≤ c ∧ c ≤ 64) ∨ (65 ≤ c ∧ c ≤ 90) ∨ (91 ≤ c ∧ c ≤ 94) ∨ c = 95 ∨ c = 96 ∨ (97 ≤ c ∧ c ≤ 122) ∨ 123 ≤ c := by omega

theorem pc_part (c : Nat) : pc Q n_term_part [.int .u8 c] = some (.bool (parB c)) := by
  refine pcQ res_term_part rfl (by simp [x_term_part]) fun fr hl ha => ?_
  have h0 := ha 0
  clear ha
  simp [x_term_part] at hl h0
  rcases ranges c with h | h | h | h | h | h | h | h | h | h | h <;> simp (disch := omega) only [parB, letB, digB, dec_t, dec_f, Bool.or_true, Bool.or_false] <;> simp (disch := first | omega | (simp only [List.length_set]; omega)) [x_term_part, h0, dec_t, dec_f]

theorem pc_letter (c : Nat) : pc Q n_ref01_letter [.int .u8 c] = some (.bool (letB c)) := by
  refine pcQ res_ref01_letter rfl (by simp [x_ref01_letter]) fun fr hl ha => ?_
  have h0 := ha 0
  clear ha
  simp [x_ref01_letter] at hl h0
  rcases ranges c with h | h | h | h | h | h | h | h | h | h | h <;> simp (disch := omega) only [letB, dec_t, dec_f, Bool.or_true, Bool.or_false] <;> simp (disch := first | omega | (simp only [List.length_set]; omega)) [x_ref01_letter, h0, dec_t, dec_f]

theorem pc_digit (c : Nat) : pc Q n_ref01_digit [.int .u8 c] = some (.bool (digB c)) := by
  refine pcQ res_ref01_digit rfl (by simp [x_ref01_digit]) fun fr hl ha => ?_
  have h0 := ha 0
  clear ha
  simp [x_ref01_digit] at hl h0
  rcases ranges c with h | h | h | h | h | h | h | h | h | h | h <;> simp (disch := omega) only [digB, dec_t, dec_f] <;> simp (disch := first | omega | (simp only [List.length_set]; omega)) [x_ref01_digit, h0, dec_t, dec_f]

/-- The bytes of a string. -/
abbrev bys (s : ByteArray) : List UInt8 := s.data.toList
theorem bys_get (s : ByteArray) (j : Nat) : s[j]? = (bys s)[j]? := by
  obtain ⟨⟨l⟩⟩ := s
  by_cases h : j < l.length
  · have h1 : j < ByteArray.size ⟨⟨l⟩⟩ := h
    rw [getElem?_pos (⟨⟨l⟩⟩ : ByteArray) j h1]
    simp only [bys]
    rw [List.getElem?_eq_getElem h]
    rfl
  · have h1 : ¬j < ByteArray.size ⟨⟨l⟩⟩ := h
    rw [getElem?_neg (⟨⟨l⟩⟩ : ByteArray) j h1]
    simp only [bys]
    rw [List.getElem?_eq_none (by omega)]
theorem bys_len (s : ByteArray) : (bys s).length = s.size := by
  obtain ⟨⟨l⟩⟩ := s
  rfl

/-- Is a string a name? -/
def nameB (s : ByteArray) : Bool := match bys s with | [] => false | c :: r => decide (s.size ≤ 24) && letB c.toNat && (c :: r).all fun c => parB c.toNat
def hashB (s : ByteArray) : Bool := (bys s).contains 35

theorem loop_isName (s : ByteArray) (hs : s.size ≤ 24) (fr : Fr) (h : AH) (hl : fr.length = 48) (h0 : look fr 0 = .str s) (h38 : look fr 38 = .int .i64 s.size) (h39 : look fr 39 = .int .i64 0) :
    Ends (lp (evalCode (lim Q) (ctxF n_term_isName) x_term_isName_0) (fr, h)) fun e fr' h' => Kp x_term_isName_0.wr fr fr' ∧ (e = .exit 0 ∧ ((bys s).all fun c => parB c.toNat) = true ∨ e = .ret ∧ look fr' 2 = .bool false ∧ ((bys s).all fun c => parB c.toNat) = false) := by
  refine Ends_lpw rfl fr (fun n fr h => ∃ i : Nat, i + n = s.size ∧ look fr 39 = .int .i64 (i : Nat) ∧ (((bys s).drop i).all fun c => parB c.toNat) = ((bys s).all fun c => parB c.toNat)) ?_ s.size h ⟨0, by omega, h39, rfl⟩
  rintro J Φ hJ hΦ n fr1 h1' K ⟨i, hi, k39, hr⟩
  have hl1 : fr1.length = 48 := K.1.trans hl
  have k0 := (K.2 0 (by decide)).trans h0
  have k38 := (K.2 38 (by decide)).trans h38
  have hlen := bys_len s
  by_cases hlt : i < s.size
  · have hlt' : i < (bys s).length := by omega
    have hx : s[i]? = some (bys s)[i] := by rw [bys_get, List.getElem?_eq_getElem hlt']
    have hw : IntKind.i64.wrap ((i : Int) + 1) = (i : Int) + 1 := wrap_id (by omega) (by omega)
    rw [List.drop_eq_getElem_cons hlt', List.all_cons] at hr
    generalize (bys s)[i] = c at *
    have hP := pc_part c.toNat
    have hsi : s[i]'hlt = c := by rw [getElem?_pos s i hlt] at hx; exact Option.some.inj hx
    cases hc : parB c.toNat with
    | true =>
      rw [hc] at hP hr
      simp [x_term_isName_0, hl1, k0, k38, k39, hlt, hsi, hw, hP]
      exact ⟨n - 1, by omega, hJ _ _ _ ⟨i + 1, by omega, by simp [hl1], by simpa using hr⟩⟩
    | false =>
      rw [hc] at hP hr
      simp [x_term_isName_0, hl1, k0, k38, k39, hlt, hsi, hP]
      exact hΦ _ _ _ (.inr ⟨rfl, by simp [hl1], by simpa using hr.symm⟩)
  · rw [List.drop_eq_nil_of_le (by omega)] at hr
    simp [x_term_isName_0, hl1, k38, k39, hlt]
    exact hΦ _ _ _ (.inl ⟨rfl, by simpa using hr.symm⟩)

theorem bys_nil {s : ByteArray} (h : bys s = []) : s = bs [] := by
  obtain ⟨⟨l⟩⟩ := s
  simp [bys] at h
  subst h
  rfl

theorem pc_isName (s : ByteArray) : pc Q n_term_isName [.str s] = some (.bool (nameB s)) := by
  have hlen := bys_len s
  refine pcQ res_term_isName rfl (by simp [x_term_isName]) fun fr hl ha => ?_
  have h0 := ha 0
  clear ha
  simp [x_term_isName] at hl h0
  cases hb : bys s with
  | nil =>
    have e := bys_nil hb
    subst e
    simp [x_term_isName, hl, h0, nameB, hb]
  | cons c r =>
    rw [hb] at hlen
    simp only [List.length_cons] at hlen
    have hne : ¬(s.toList = (bs []).toList) := by
      rw [Lib.toList_data, Lib.toList_data, show s.data.toList = c :: r from hb]
      intro e
      cases e
    have hpos : 0 < s.size := by omega
    have hx : s[0]? = some c := by rw [bys_get, hb]; rfl
    have hsi : s[0]'hpos = c := by rw [getElem?_pos s 0 hpos] at hx; exact Option.some.inj hx
    by_cases h24 : 24 < s.size
    · have h24' : (24 : Int) < (s.size : Int) := by omega
      have h24n : ¬s.size ≤ 24 := by omega
      simp [x_term_isName, hl, h0, hne, h24', nameB, hb, h24n]
    · have h24' : ¬(24 : Int) < (s.size : Int) := by omega
      have h24n : s.size ≤ 24 := by omega
      have hP := pc_part c.toNat
      cases hL : letB c.toNat with
      | false =>
        have hv : nameB s = false := by simp [nameB, hb, hL]
        rw [hv]
        cases hp : parB c.toNat with
        | false =>
          rw [hp] at hP
          simp [x_term_isName, hl, h0, hne, h24', hpos, hsi, hP]
        | true =>
          rw [hp] at hP
          have hcc : (48 ≤ c.toNat ∧ c.toNat ≤ 57) ∨ c.toNat = 95 ∨ c.toNat = 35 := by
            simp only [parB, hL, digB, Bool.false_or, Bool.or_eq_true, decide_eq_true_eq] at hp
            omega
          generalize hzv : c.toNat = z at *
          rcases hcc with hz | hz | hz <;> simp (disch := first | omega | (simp only [List.length_set]; omega)) [x_term_isName, h0, hne, h24', hsi, hzv, hP, dec_t, dec_f]
      | true =>
        have hp : parB c.toNat = true := by simp [parB, hL]
        rw [hp] at hP
        have hcc : (97 ≤ c.toNat ∧ c.toNat ≤ 122) ∨ (65 ≤ c.toNat ∧ c.toNat ≤ 90) := by
          simp only [letB, Bool.or_eq_true, decide_eq_true_eq] at hL
          exact hL
        have hv : nameB s = (bys s).all fun c => parB c.toNat := by simp [nameB, hb, hL, h24n]
        rw [hv]
        have key : ∀ b, ((bys s).all fun c => parB c.toNat) = b → Ends (evalCode (lim Q) (ctxF n_term_isName) x_term_isName.body (fr, ⟨[], []⟩)) (FIN x_term_isName.results (.bool b)) := by
          intro b hbv
          generalize hzv : c.toNat = z at *
          have q1 : ¬(z : Int) = 95 := by omega
          have q2 : ¬(z : Int) = 35 := by omega
          have q3 : ¬((z : Int) ≤ 57) := by omega
          have q4 : (48 : Int) ≤ (z : Int) := by omega
          simp [x_term_isName, hl, h0, hne, h24', hpos, hsi, hzv, hP, q1, q2, q3, q4]
          refine (loop_isName s h24n _ _ (by simp [hl]) (by simp [h0]) (by simp [hl]) (by simp [hl])).mono ?_
          rintro e fr' h' ⟨K, ⟨rfl, he⟩ | ⟨rfl, h2, he⟩⟩
          · have hl' : fr'.length = 48 := K.1.trans (by simp [hl])
            rw [hbv] at he
            simp [hl', he]
          · rw [hbv] at he
            simp [h2, he]
        exact key _ rfl

theorem rloop_IsName (s : ByteArray) (hs : s.size ≤ 24) (fr : Fr) (h : AH) (hl : fr.length = 48) (h0 : look fr 0 = .str s) (h3 : look fr 3 = .int .i64 0) :
    Ends (lp (evalCode (lim Q) (ctxF n_ref01_IsName) x_ref01_IsName_0) (fr, h)) fun e fr' h' => Kp x_ref01_IsName_0.wr fr fr' ∧ (e = .exit 0 ∧ ((bys s).all fun c => parB c.toNat) = true ∨ e = .ret ∧ look fr' 2 = .bool false ∧ ((bys s).all fun c => parB c.toNat) = false) := by
  refine Ends_lpw rfl fr (fun n fr h => ∃ i : Nat, i + n = s.size ∧ look fr 3 = .int .i64 (i : Nat) ∧ (((bys s).drop i).all fun c => parB c.toNat) = ((bys s).all fun c => parB c.toNat)) ?_ s.size h ⟨0, by omega, h3, rfl⟩
  rintro J Φ hJ hΦ n fr1 h1' K ⟨i, hi, k3, hr⟩
  have hl1 : fr1.length = 48 := K.1.trans hl
  have k0 := (K.2 0 (by decide)).trans h0
  have hlen := bys_len s
  by_cases hlt : i < s.size
  · have hlt' : i < (bys s).length := by omega
    have hx : s[i]? = some (bys s)[i] := by rw [bys_get, List.getElem?_eq_getElem hlt']
    have hw : IntKind.i64.wrap ((i : Int) + 1) = (i : Int) + 1 := wrap_id (by omega) (by omega)
    rw [List.drop_eq_getElem_cons hlt', List.all_cons] at hr
    generalize (bys s)[i] = c at *
    have hL := pc_letter c.toNat
    have hD := pc_digit c.toNat
    have hsi : s[i]'hlt = c := by rw [getElem?_pos s i hlt] at hx; exact Option.some.inj hx
    have fwd : parB c.toNat = true → (((bys s).drop (i + 1)).all fun c => parB c.toNat) = ((bys s).all fun c => parB c.toNat) := fun hp => by rw [hp] at hr; simpa using hr
    have bad : parB c.toNat = false → ((bys s).all fun c => parB c.toNat) = false := fun hp => by rw [hp] at hr; simpa using hr.symm
    clear hr
    generalize hz : c.toNat = z at *
    cases hLv : letB z with
    | true =>
      rw [hLv] at hL
      simp [x_ref01_IsName_0, hl1, k0, k3, hlt, hsi, hz, hw, hL]
      exact ⟨n - 1, by omega, hJ _ _ _ ⟨i + 1, by omega, by simp [hl1], fwd (by simp [parB, hLv])⟩⟩
    | false =>
      rw [hLv] at hL
      cases hDv : digB z with
      | true =>
        rw [hDv] at hD
        simp [x_ref01_IsName_0, hl1, k0, k3, hlt, hsi, hz, hw, hL, hD]
        exact ⟨n - 1, by omega, hJ _ _ _ ⟨i + 1, by omega, by simp [hl1], fwd (by simp [parB, hDv])⟩⟩
      | false =>
        rw [hDv] at hD
        by_cases h95 : z = 95
        · subst h95
          simp only [Int.cast_ofNat_Int] at hL hD
          simp [x_ref01_IsName_0, hl1, k0, k3, hlt, hsi, hz, hw, hL, hD]
          exact ⟨n - 1, by omega, hJ _ _ _ ⟨i + 1, by omega, by simp [hl1], fwd (by simp [parB])⟩⟩
        · have h95' : ¬(z : Int) = 95 := by omega
          by_cases h35 : z = 35
          · subst h35
            simp only [Int.cast_ofNat_Int] at hL hD
            simp [x_ref01_IsName_0, hl1, k0, k3, hlt, hsi, hz, hw, hL, hD]
            exact ⟨n - 1, by omega, hJ _ _ _ ⟨i + 1, by omega, by simp [hl1], fwd (by simp [parB])⟩⟩
          · have h35' : ¬(z : Int) = 35 := by omega
            simp [x_ref01_IsName_0, hl1, k0, k3, hlt, hsi, hz, hL, hD, h95', h35']
            exact hΦ _ _ _ (.inr ⟨rfl, by simp [hl1], bad (by simp [parB, hLv, hDv, h95, h35])⟩)
  · rw [List.drop_eq_nil_of_le (by omega)] at hr
    simp [x_ref01_IsName_0, hl1, k0, k3, hlt]
    exact hΦ _ _ _ (.inl ⟨rfl, by simpa using hr.symm⟩)

theorem pc_IsName (s : ByteArray) : pc Q n_ref01_IsName [.str s] = some (.bool (nameB s)) := by
  have hlen := bys_len s
  refine pcQ res_ref01_IsName rfl (by simp [x_ref01_IsName]) fun fr hl ha => ?_
  have h0 := ha 0
  clear ha
  simp [x_ref01_IsName] at hl h0
  cases hb : bys s with
  | nil =>
    have e := bys_nil hb
    subst e
    simp [x_ref01_IsName, hl, h0, nameB, hb, show (bs []).size = 0 from rfl]
  | cons c r =>
    rw [hb] at hlen
    simp only [List.length_cons] at hlen
    have hne : ¬(s.size : Int) = 0 := by omega
    have hne' : ¬s.size = 0 := by omega
    have hpos : 0 < s.size := by omega
    have hx : s[0]? = some c := by rw [bys_get, hb]; rfl
    have hsi : s[0]'hpos = c := by rw [getElem?_pos s 0 hpos] at hx; exact Option.some.inj hx
    by_cases h24 : 24 < s.size
    · have h24' : (24 : Int) < (s.size : Int) := by omega
      have h24n : ¬s.size ≤ 24 := by omega
      simp [x_ref01_IsName, hl, h0, hne', h24', nameB, hb, h24n]
    · have h24' : ¬(24 : Int) < (s.size : Int) := by omega
      have h24n : s.size ≤ 24 := by omega
      have hL := pc_letter c.toNat
      cases hLv : letB c.toNat with
      | false =>
        rw [hLv] at hL
        have hv : nameB s = false := by simp [nameB, hb, hLv]
        rw [hv]
        simp [x_ref01_IsName, hl, h0, hne', h24', hpos, hsi, hL]
      | true =>
        rw [hLv] at hL
        have hv : nameB s = (bys s).all fun c => parB c.toNat := by simp [nameB, hb, hLv, h24n]
        rw [hv]
        have key : ∀ b, ((bys s).all fun c => parB c.toNat) = b → Ends (evalCode (lim Q) (ctxF n_ref01_IsName) x_ref01_IsName.body (fr, ⟨[], []⟩)) (FIN x_ref01_IsName.results (.bool b)) := by
          intro b hbv
          simp [x_ref01_IsName, hl, h0, hne', h24', hpos, hsi, hL]
          refine (rloop_IsName s h24n _ _ (by simp [hl]) (by simp [h0]) (by simp [hl])).mono ?_
          rintro e fr' h' ⟨K, ⟨rfl, he⟩ | ⟨rfl, h2, he⟩⟩
          · have hl' : fr'.length = 48 := K.1.trans (by simp [hl])
            rw [hbv] at he
            simp [hl', he]
          · rw [hbv] at he
            simp [h2, he]
        exact key _ rfl
end Go.Abs.Q

/- Contracts: lists of strings. -/
namespace Go.Abs.Q
attribute [local simp] look_set_ne look_set_eq fin tupled code_loop raw_slices_Index_string raw_slices_Contains_string

def strsV (m : Bool × Bool) (l : List ByteArray) : AV := sl m 1 (l.map AV.str)
def eqS (x a : ByteArray) : Bool := decide (x.toList = a.toList)

theorem loop_Index_string (m : Bool × Bool) (l : List ByteArray) (x : ByteArray) (hlen : l.length ≤ 1099511627776) (fr : Fr) (h : AH) (hl : fr.length = 19)
    (h0 : look fr 0 = sl m 1 (l.map AV.str)) (h1 : look fr 1 = .str x) (h7 : look fr 7 = .int .i64 l.length) (h8 : look fr 8 = .int .i64 0) :
    Ends (lp (evalCode (lim Q) (ctxF n_slices_Index_string) x_slices_Index_string_0) (fr, h)) fun e fr' h' => Kp x_slices_Index_string_0.wr fr fr' ∧ (e = .exit 0 ∧ idx (eqS x) l = -1 ∨ e = .ret ∧ look fr' 4 = .int .i64 (idx (eqS x) l)) := by
  refine Ends_lpw rfl fr (fun n fr h => ∃ i, i + n = l.length ∧ look fr 8 = .int .i64 (i : Nat) ∧ idxFrom (eqS x) i (l.drop i) = idx (eqS x) l) ?_ l.length h ⟨0, by omega, h8, rfl⟩
  rintro J Φ hJ hΦ n fr1 h1' K ⟨i, hi, k8, hr⟩
  have hl1 : fr1.length = 19 := K.1.trans hl
  have k0 := (K.2 0 (by decide)).trans h0
  have k1 := (K.2 1 (by decide)).trans h1
  have k7 := (K.2 7 (by decide)).trans h7
  by_cases hlt : i < l.length
  · have hx := nth_map (f := AV.str) (List.getElem?_eq_getElem hlt)
    have hw : IntKind.i64.wrap ((i : Int) + 1) = (i : Int) + 1 := wrap_id (by omega) (by omega)
    rw [List.drop_eq_getElem_cons hlt] at hr
    simp only [idxFrom, eqS, decide_eq_true_eq] at hr
    generalize l[i] = a at *
    by_cases hc : x.toList = a.toList
    · rw [if_pos hc] at hr
      simp [x_slices_Index_string_0, hl1, k0, k1, k7, k8, hlt, hx, hc]
      exact hΦ _ _ _ (.inr ⟨rfl, by simp [hl1]; exact hr⟩)
    · rw [if_neg hc] at hr
      simp [x_slices_Index_string_0, hl1, k0, k1, k7, k8, hlt, hx, hw, hc]
      exact ⟨n - 1, by omega, hJ _ _ _ ⟨i + 1, by omega, by simp [hl1], hr⟩⟩
  · rw [List.drop_eq_nil_of_le (by omega)] at hr
    simp [x_slices_Index_string_0, hl1, k7, k8, hlt]
    exact hΦ _ _ _ (.inl ⟨rfl, hr.symm⟩)

theorem pc_IndexStr (m : Bool × Bool) (l : List ByteArray) (x : ByteArray) (hlen : l.length ≤ 1099511627776) : pc Q n_slices_Index_string [strsV m l, .str x] = some (.int .i64 (idx (eqS x) l)) := by
  refine pcQ res_slices_Index_string rfl (by simp [x_slices_Index_string]) fun fr hl ha => ?_
  have h0 := ha 0
  have h1 := ha 1
  clear ha
  simp [x_slices_Index_string, strsV] at hl h0 h1
  simp [x_slices_Index_string, hl, h0]
  refine (loop_Index_string m l x hlen _ _ (by simp [hl]) (by simp [h0]) (by simp [h1]) (by simp [hl]) (by simp [hl])).mono ?_
  rintro e fr' h' ⟨K, ⟨rfl, he⟩ | ⟨rfl, h4⟩⟩
  · have hl' : fr'.length = 19 := K.1.trans (by simp [hl])
    simp [hl', he]
  · simp [h4]

theorem pc_ContainsStr (m : Bool × Bool) (l : List ByteArray) (x : ByteArray) (hlen : l.length ≤ 1099511627776) : pc Q n_slices_Contains_string [strsV m l, .str x] = some (.bool (l.any (eqS x))) := by
  have hI := pc_IndexStr m l x hlen
  have he : decide (0 ≤ idx (eqS x) l) = l.any (eqS x) := by
    rw [Bool.eq_iff_iff, decide_eq_true_iff, idx, idxFrom_ge]
  refine pcQ res_slices_Contains_string rfl (by simp [x_slices_Contains_string]) fun fr hl ha => ?_
  have h0 := ha 0
  have h1 := ha 1
  clear ha
  simp [x_slices_Contains_string, strsV] at hl h0 h1 hI
  simp [x_slices_Contains_string, hl, h0, h1, hI]
  exact he

end Go.Abs.Q

/- Strings: laws of their operations; functions of one byte, by evaluation. -/
namespace Go.Abs.Q
open Go.Proofs
attribute [local simp] look_set_ne look_set_eq fin tupled code_loop raw_lexer_letter raw_lexer_digit raw_strings_HasPrefix raw_stringslite_HasPrefix raw_lexer_nameLength raw_lexer_IsName

theorem leaf_pc {f : FuncId} {rf : RFunc} {n : Nat} {args : List AV} {r r' : AV} {h' : AH} (hs : specF f = none) (hc : resFunc Tryz.prog ctxF f = some rf)
    (h : evalBody (orc Q n) (ctxF f) rf args AH.empty = some (r, h')) (hr : frzRes h' r = some r') : pc Q f args = some r' := by
  refine orc_pc Q (n := n + 1) ?_
  show pureA Q (orc Q n) f args = some r'
  unfold pureA rawA
  have e1 : Q.spec f = none := (Q_spec f).trans hs
  have e2 : Q.code f = some rf := (Q_code f).trans hc
  simp only [e1, e2, Q_ctx, h, hr]

theorem pc_lexLetter (c : Nat) : pc Q n_lexer_letter [.int .u8 c] = some (.bool (letB c)) := by
  refine pcQ res_lexer_letter rfl (by simp [x_lexer_letter]) fun fr hl ha => ?_
  have h0 := ha 0
  clear ha
  simp [x_lexer_letter] at hl h0
  rcases ranges c with h | h | h | h | h | h | h | h | h | h | h <;> simp (disch := omega) only [letB, dec_t, dec_f, Bool.or_true, Bool.or_false] <;> simp (disch := first | omega | (simp only [List.length_set]; omega)) [x_lexer_letter, h0, dec_t, dec_f]

theorem pc_lexDigit (c : Nat) : pc Q n_lexer_digit [.int .u8 c] = some (.bool (digB c)) := by
  refine pcQ res_lexer_digit rfl (by simp [x_lexer_digit]) fun fr hl ha => ?_
  have h0 := ha 0
  clear ha
  simp [x_lexer_digit] at hl h0
  rcases ranges c with h | h | h | h | h | h | h | h | h | h | h <;> simp (disch := omega) only [digB, dec_t, dec_f] <;> simp (disch := first | omega | (simp only [List.length_set]; omega)) [x_lexer_digit, h0, dec_t, dec_f]

/-- The class of a byte. -/
def symL : List UInt8 := [40, 41, 123, 125, 91, 93, 44, 59, 58, 61, 46, 45, 62, 60, 63, 124, 38, 42]
def clsB (c : UInt8) : Int := if c.toNat = 32 ∨ c.toNat = 9 ∨ c.toNat = 10 ∨ c.toNat = 13 then 1 else if letB c.toNat = true then 2 else if digB c.toNat = true then 3 else if c.toNat = 34 then 5 else if c ∈ symL then 4 else 0
@[simp] theorem slcA_str (h : AH) (s : ByteArray) (lo hi : Option Int) : slcA h 0 (.str s) (some lo) (some hi) (some none) =
    if 0 ≤ lo.getD 0 ∧ lo.getD 0 ≤ hi.getD s.size ∧ hi.getD s.size ≤ s.size then some (.str (s.extract (lo.getD 0).toNat (hi.getD s.size).toNat), h) else none := by
  simp only [slcA, sliceA]
  by_cases hc : 0 ≤ lo.getD 0 ∧ lo.getD 0 ≤ hi.getD s.size ∧ hi.getD s.size ≤ s.size
  · rw [if_pos hc, if_pos ⟨trivial, trivial, hc⟩]
  · rw [if_neg hc, if_neg (fun k => hc ⟨k.2.2.1, k.2.2.2.1, k.2.2.2.2⟩)]
theorem bin_sadd {a b : ByteArray} (h : a.size + b.size ≤ 4611686018427387904) : evalBin .add (.str a) (.str b) = some (.str (a ++ b)) := by
  simp only [evalBin]
  rw [if_neg]
  have : IntKind.i64.max = 9223372036854775807 := rfl
  rw [this]
  omega
theorem bys_mk (l : List UInt8) : bys ⟨⟨l⟩⟩ = l := rfl
theorem bys_eq {a b : ByteArray} (h : bys a = bys b) : a = b := by
  obtain ⟨⟨a⟩⟩ := a
  obtain ⟨⟨b⟩⟩ := b
  simp only [bys_mk] at h
  rw [h]
theorem bys_app (a b : ByteArray) : bys (a ++ b) = bys a ++ bys b := by
  obtain ⟨⟨a⟩⟩ := a
  obtain ⟨⟨b⟩⟩ := b
  simp [bys]
theorem bys_ext (s : ByteArray) (i j : Nat) : bys (s.extract i j) = ((bys s).take j).drop i := by
  simp [bys, List.drop_take]
theorem toL_bys (s : ByteArray) : s.toList = bys s := Lib.toList_data s
theorem toL_iff (a b : ByteArray) : a.toList = b.toList ↔ a = b := by
  rw [toL_bys, toL_bys]
  exact ⟨bys_eq, fun h => by rw [h]⟩
theorem eqS_iff (a b : ByteArray) : eqS a b = true ↔ a = b := by
  unfold eqS
  rw [decide_eq_true_iff, toL_iff]
theorem size_app (a b : ByteArray) : (a ++ b).size = a.size + b.size := by
  rw [← bys_len, ← bys_len, ← bys_len, bys_app, List.length_append]
theorem size_ext (s : ByteArray) {i j : Nat} (hj : j ≤ s.size) : (s.extract i j).size = j - i := by
  rw [← bys_len, bys_ext, List.length_drop, List.length_take, bys_len]
  omega

theorem toL_dec (a b : ByteArray) : decide (a.toList = b.toList) = decide (a = b) := by
  rw [Bool.eq_iff_iff, decide_eq_true_iff, decide_eq_true_iff, toL_iff]

/-- Does a string begin with another one? -/
def preB (a b : ByteArray) : Bool := decide (b.size ≤ a.size) && decide ((bys a).take b.size = bys b)
theorem pc_litePrefix (a b : ByteArray) : pc Q n_stringslite_HasPrefix [.str a, .str b] = some (.bool (preB a b)) := by
  refine pcQ res_stringslite_HasPrefix rfl (by simp [x_stringslite_HasPrefix]) fun fr hl ha => ?_
  have h0 := ha 0
  have h1 := ha 1
  clear ha
  simp [x_stringslite_HasPrefix] at hl h0 h1
  by_cases h : b.size ≤ a.size
  · have e : decide ((a.extract 0 b.size).toList = b.toList) = decide ((bys a).take b.size = bys b) := by
      rw [toL_bys, toL_bys, bys_ext, List.drop_zero]
    have hi : (b.size : Int) ≤ (a.size : Int) := by omega
    simp [x_stringslite_HasPrefix, hl, h0, h1, h, hi, boundA, e, preB]
  · have hi : ¬(b.size : Int) ≤ (a.size : Int) := by omega
    simp [x_stringslite_HasPrefix, hl, h0, h1, h, hi, preB]
theorem pc_HasPrefix (a b : ByteArray) : pc Q n_strings_HasPrefix [.str a, .str b] = some (.bool (preB a b)) := by
  have hL := pc_litePrefix a b
  refine pcQ res_strings_HasPrefix rfl (by simp [x_strings_HasPrefix]) fun fr hl ha => ?_
  have h0 := ha 0
  have h1 := ha 1
  clear ha
  simp [x_strings_HasPrefix] at hl h0 h1
  simp [x_strings_HasPrefix, hl, h0, h1, hL]

/-- Does a list of bytes begin with two signs of comments? -/
def twoB (l : List UInt8) : Bool := decide (l.take 2 = [35, 35])
theorem pre_two (s : ByteArray) (i : Nat) (hi : i ≤ s.size) : preB (s.extract i s.size) (bs [35, 35]) = twoB ((bys s).drop i) := by
  have e : bys (s.extract i s.size) = (bys s).drop i := by rw [bys_ext, List.take_of_length_le (by rw [bys_len]; exact Nat.le_refl _)]
  have z : (bs [35, 35]).size = 2 := rfl
  have y : bys (bs [35, 35]) = [35, 35] := rfl
  unfold preB twoB
  rw [e, z, y]
  by_cases h : ((bys s).drop i).take 2 = [35, 35]
  · have := congrArg List.length h
    simp only [List.length_take, List.length_cons, List.length_nil] at this
    have hs : 2 ≤ (s.extract i s.size).size := by rw [← bys_len, e]; omega
    rw [dec_t hs, dec_t h, Bool.true_and]
  · simp [h]

/-- The length of the name at the beginning, from some place on. -/
def nmL : List UInt8 → Nat
  | [] => 0
  | c :: r => if parB c.toNat = true ∧ twoB (c :: r) = false then nmL r + 1 else 0
/-- Are there two signs of comments anywhere? -/
def dblB : List UInt8 → Bool
  | [] => false
  | c :: r => twoB (c :: r) || dblB r
theorem nmL_all : ∀ l : List UInt8, (nmL l = l.length) ↔ (l.all (fun c => parB c.toNat) = true ∧ dblB l = false)
  | [] => by simp [nmL, dblB]
  | c :: r => by
    have ih := nmL_all r
    have hle : nmL r ≤ r.length := by
      clear ih
      induction r with
      | nil => simp [nmL]
      | cons d r ih =>
        simp only [nmL]
        split
        · simp; omega
        · simp
    simp only [nmL, dblB, List.all_cons, Bool.and_eq_true, Bool.or_eq_false_iff, List.length_cons]
    by_cases h : parB c.toNat = true ∧ twoB (c :: r) = false
    · rw [if_pos h]
      constructor
      · intro k
        obtain ⟨a, b⟩ := ih.1 (by omega)
        exact ⟨⟨h.1, a⟩, h.2, b⟩
      · rintro ⟨⟨_, a⟩, _, b⟩
        have := ih.2 ⟨a, b⟩
        omega
    · rw [if_neg h]
      constructor
      · intro k; omega
      · rintro ⟨⟨a, _⟩, b, _⟩
        exact absurd ⟨a, b⟩ h

theorem loop_nameLength (s : ByteArray) (hs : s.size ≤ 1099511627776) (fr : Fr) (h : AH) (hl : fr.length = 39) (h0 : look fr 0 = .str s) (h3 : look fr 3 = .int .i64 1) (h1 : 1 ≤ s.size) :
    Ends (lp (evalCode (lim Q) (ctxF n_lexer_nameLength) x_lexer_nameLength_0) (fr, h)) fun e fr' h' => Kp x_lexer_nameLength_0.wr fr fr' ∧ e = .exit 0 ∧ look fr' 3 = .int .i64 (1 + nmL ((bys s).drop 1) : Nat) := by
  refine Ends_lpw rfl fr (fun n fr h => ∃ i : Nat, i + n = s.size ∧ look fr 3 = .int .i64 (i : Nat) ∧ i + nmL ((bys s).drop i) = 1 + nmL ((bys s).drop 1)) ?_ (s.size - 1) h ⟨1, by omega, h3, rfl⟩
  rintro J Φ hJ hΦ n fr1 h1' K ⟨i, hi, k3, hr⟩
  have hl1 : fr1.length = 39 := K.1.trans hl
  have k0 := (K.2 0 (by decide)).trans h0
  have hlen := bys_len s
  by_cases hlt : i < s.size
  · have hlt' : i < (bys s).length := by omega
    have hx : s[i]? = some (bys s)[i] := by rw [bys_get, List.getElem?_eq_getElem hlt']
    have hw : IntKind.i64.wrap ((i : Int) + 1) = (i : Int) + 1 := wrap_id (by omega) (by omega)
    have hP := pc_HasPrefix (s.extract i s.size) (bs [35, 35])
    rw [pre_two s i (by omega)] at hP
    rw [List.drop_eq_getElem_cons hlt'] at hr hP
    generalize (bys s)[i] = c at *
    have hL := pc_lexLetter c.toNat
    have hD := pc_lexDigit c.toNat
    have hsi : s[i]'hlt = c := by rw [getElem?_pos s i hlt] at hx; exact Option.some.inj hx
    have hle : (i : Int) ≤ (s.size : Int) := by omega
    have stop : ¬(parB c.toNat = true ∧ twoB (c :: (bys s).drop (i + 1)) = false) → i = 1 + nmL ((bys s).drop 1) := fun hp => by
      simp only [nmL] at hr
      rw [if_neg hp] at hr
      exact hr
    have fwd : (parB c.toNat = true ∧ twoB (c :: (bys s).drop (i + 1)) = false) → i + 1 + nmL ((bys s).drop (i + 1)) = 1 + nmL ((bys s).drop 1) := fun hp => by
      simp only [nmL] at hr
      rw [if_pos hp] at hr
      omega
    clear hr
    generalize hz : c.toNat = z at *
    have done : ∀ b : Bool, parB z = true → b = twoB (c :: (bys s).drop (i + 1)) → True := fun _ _ _ => trivial
    clear done
    cases hT : twoB (c :: (bys s).drop (i + 1)) with
    | true =>
      rw [hT] at hP
      have st := stop (by simp [hT])
      cases hLv : letB z with
      | true =>
        rw [hLv] at hL
        simp [x_lexer_nameLength_0, hl1, k0, k3, hlt, hsi, hz, hL, hP, boundA, hle]
        exact hΦ _ _ _ ⟨rfl, by rw [← st]; simp [k3]⟩
      | false =>
        rw [hLv] at hL
        cases hDv : digB z with
        | true =>
          rw [hDv] at hD
          simp [x_lexer_nameLength_0, hl1, k0, k3, hlt, hsi, hz, hL, hD, hP, boundA, hle]
          exact hΦ _ _ _ ⟨rfl, by rw [← st]; simp [k3]⟩
        | false =>
          rw [hDv] at hD
          by_cases h95 : (z : Int) = 95
          · simp [x_lexer_nameLength_0, hl1, k0, k3, hlt, hsi, hz, hL, hD, hP, boundA, hle, dec_t h95]
            exact hΦ _ _ _ ⟨rfl, by rw [← st]; simp [k3]⟩
          · by_cases h35 : (z : Int) = 35
            · simp [x_lexer_nameLength_0, hl1, k0, k3, hlt, hsi, hz, hL, hD, hP, boundA, hle, dec_f h95, dec_t h35]
              exact hΦ _ _ _ ⟨rfl, by rw [← st]; simp [k3]⟩
            · simp [x_lexer_nameLength_0, hl1, k0, k3, hlt, hsi, hz, hL, hD, dec_f h95, dec_f h35]
              exact hΦ _ _ _ ⟨rfl, by rw [← st]; simp [k3]⟩
    | false =>
      rw [hT] at hP
      cases hLv : letB z with
      | true =>
        rw [hLv] at hL
        simp [x_lexer_nameLength_0, hl1, k0, k3, hlt, hsi, hz, hw, hL, hP, boundA, hle]
        exact ⟨n - 1, by omega, hJ _ _ _ ⟨i + 1, by omega, by simp [hl1], fwd ⟨by simp [parB, hLv], hT⟩⟩⟩
      | false =>
        rw [hLv] at hL
        cases hDv : digB z with
        | true =>
          rw [hDv] at hD
          simp [x_lexer_nameLength_0, hl1, k0, k3, hlt, hsi, hz, hw, hL, hD, hP, boundA, hle]
          exact ⟨n - 1, by omega, hJ _ _ _ ⟨i + 1, by omega, by simp [hl1], fwd ⟨by simp [parB, hDv], hT⟩⟩⟩
        | false =>
          rw [hDv] at hD
          by_cases h95 : (z : Int) = 95
          · simp [x_lexer_nameLength_0, hl1, k0, k3, hlt, hsi, hz, hw, hL, hD, hP, boundA, hle, dec_t h95]
            exact ⟨n - 1, by omega, hJ _ _ _ ⟨i + 1, by omega, by simp [hl1], fwd ⟨by simp [parB, show z = 95 by omega], hT⟩⟩⟩
          · by_cases h35 : (z : Int) = 35
            · simp [x_lexer_nameLength_0, hl1, k0, k3, hlt, hsi, hz, hw, hL, hD, hP, boundA, hle, dec_f h95, dec_t h35]
              exact ⟨n - 1, by omega, hJ _ _ _ ⟨i + 1, by omega, by simp [hl1], fwd ⟨by simp [parB, show z = 35 by omega], hT⟩⟩⟩
            · have st := stop (by
                intro k
                have := k.1
                simp [parB, hLv, hDv] at this
                omega)
              simp [x_lexer_nameLength_0, hl1, k0, k3, hlt, hsi, hz, hL, hD, dec_f h95, dec_f h35]
              exact hΦ _ _ _ ⟨rfl, by rw [← st]; simp [k3]⟩
  · rw [List.drop_eq_nil_of_le (by omega)] at hr
    have hr' : i = 1 + nmL ((bys s).drop 1) := by simpa [nmL] using hr
    simp [x_lexer_nameLength_0, hl1, k0, k3, hlt]
    exact hΦ _ _ _ ⟨rfl, by rw [← hr']; simp [k3]⟩

theorem pc_nameLength (s : ByteArray) (hs : s.size ≤ 1099511627776) (h1 : 1 ≤ s.size) : pc Q n_lexer_nameLength [.str s] = some (.int .i64 (1 + nmL ((bys s).drop 1) : Nat)) := by
  refine pcQ res_lexer_nameLength rfl (by simp [x_lexer_nameLength]) fun fr hl ha => ?_
  have h0 := ha 0
  clear ha
  simp [x_lexer_nameLength] at hl h0
  generalize hk : (1 + nmL ((bys s).drop 1) : Nat) = k
  simp [x_lexer_nameLength]
  refine (loop_nameLength s hs _ _ (by simp [hl]) (by simp [h0]) (by simp [hl]) h1).mono ?_
  rintro e fr' h' ⟨K, rfl, he⟩
  have hl' : fr'.length = 39 := K.1.trans (by simp [hl])
  rw [hk] at he
  simp [hl', he]

/-- Is a string a name of the language? -/
def lexN (s : ByteArray) : Bool := nameB s && !dblB (bys s)
theorem pc_lexIsName (s : ByteArray) (hs : s.size ≤ 1099511627776) : pc Q n_lexer_IsName [.str s] = some (.bool (lexN s)) := by
  have hlen := bys_len s
  refine pcQ res_lexer_IsName rfl (by simp [x_lexer_IsName]) fun fr hl ha => ?_
  have h0 := ha 0
  clear ha
  simp [x_lexer_IsName] at hl h0
  cases hb : bys s with
  | nil =>
    have e := bys_nil hb
    subst e
    have hv : lexN (bs []) = false := rfl
    rw [hv]
    simp [x_lexer_IsName, hl, h0]
  | cons c r =>
    have hlen' := hlen
    rw [hb] at hlen'
    simp only [List.length_cons] at hlen'
    have hne : ¬s.toList = (bs []).toList := by
      rw [toL_bys, hb]
      simp [toL_bys, bys, bs]
    have hpos : 0 < s.size := by omega
    have hx : s[0]? = some c := by rw [bys_get, hb]; rfl
    have hsi : s[0]'hpos = c := by rw [getElem?_pos s 0 hpos] at hx; exact Option.some.inj hx
    have hL := pc_lexLetter c.toNat
    have hN := pc_nameLength s hs (by omega)
    rw [hb, List.drop_succ_cons, List.drop_zero] at hN
    have hall := nmL_all r
    cases hLv : letB c.toNat with
    | false =>
      rw [hLv] at hL
      have hv : lexN s = false := by simp [lexN, nameB, hb, hLv]
      rw [hv]
      simp [x_lexer_IsName, hl, h0, dec_f hne, hpos, hsi, hL]
    | true =>
      rw [hLv] at hL
      have ht : twoB (c :: r) = false := by
        unfold twoB
        apply dec_f
        intro k
        cases r with
        | nil => simp at k
        | cons d r =>
          simp at k
          rw [k.1] at hLv
          exact absurd hLv (by decide)
      have hp : parB c.toNat = true := by simp [parB, hLv]
      by_cases hk : nmL r = r.length
      · have hk' : ((1 + nmL r : Nat) : Int) = (s.size : Int) := by omega
        have ha := hall.1 hk
        have hv : lexN s = decide (s.size ≤ 24) := by
          have e1 := ha.1
          simp only [lexN, nameB, hb, hLv, List.all_cons, hp, e1, dblB, ht, ha.2]
          simp
        rw [hv]
        generalize ((1 + nmL r : Nat) : Int) = q at *
        by_cases h24 : s.size ≤ 24
        · have h24' : (s.size : Int) ≤ 24 := by omega
          simp [x_lexer_IsName, hl, h0, dec_f hne, hpos, hsi, hL, hN, dec_t hk', dec_t h24', dec_t h24]
        · have h24' : ¬(s.size : Int) ≤ 24 := by omega
          simp [x_lexer_IsName, hl, h0, dec_f hne, hpos, hsi, hL, hN, dec_t hk', dec_f h24', dec_f h24]
      · have hk' : ¬((1 + nmL r : Nat) : Int) = (s.size : Int) := by omega
        have hv : lexN s = false := by
          rw [hall] at hk
          simp only [lexN, nameB, hb, hLv, List.all_cons, hp, dblB, ht]
          cases h1 : (r.all fun c => parB c.toNat) with
          | false => simp
          | true =>
            cases h2 : dblB r with
            | true => simp
            | false => exact absurd ⟨h1, h2⟩ hk
        rw [hv]
        generalize ((1 + nmL r : Nat) : Int) = q at *
        simp [x_lexer_IsName, hl, h0, dec_f hne, hpos, hsi, hL, hN, dec_f hk']
end Go.Abs.Q

/- Growing lists; the reference's tokens: escapes and literals. -/
namespace Go.Abs.Q
open Go.Proofs
attribute [local simp] look_set_ne look_set_eq fin tupled code_loop raw_ref21_escape raw_ref21_literal

/-- A list that grows: nothing, or a row of the heap. -/
def Grw (sz : Nat) (acc : List AV) (v : AV) (h : AH) : Prop := (acc = [] ∧ v = .vs true 0 []) ∨ (acc ≠ [] ∧ ∃ k, v = .sl k acc.length 0 acc.length ∧ h.fams[k]? = some ⟨acc, sz, false⟩)

theorem Grw_nil (sz : Nat) (h : AH) : Grw sz [] (.vs true 0 []) h := .inl ⟨rfl, rfl⟩
theorem Grw_fams {sz : Nat} {acc : List AV} {v : AV} {h h' : AH} (hg : Grw sz acc v h) (e : h'.fams = h.fams) : Grw sz acc v h' := by
  rcases hg with hg | ⟨h1, k, h2, h3⟩
  · exact .inl hg
  · exact .inr ⟨h1, k, h2, by rw [e]; exact h3⟩
theorem Grw_app {c : Ctx} {sz bytes : Nat} {acc ys : List AV} {v x : AV} {h : AH} (hg : Grw sz acc v h) (hm : c.mutApp = false) (hx : elems h sz x = some ys)
    (hb : (acc.length + ys.length) * bytes ≤ roomA ∧ acc.length + ys.length ≤ maxLen) : ∃ v' h', appendA c h sz bytes v x = some (v', h') ∧ Grw sz (acc ++ ys) v' h' ∧ h'.boxes = h.boxes := by
  rcases hg with ⟨rfl, rfl⟩ | ⟨hne, k, rfl, hk⟩
  · rw [app_nil, hx, Option.bind_some]
    by_cases hy : ys.length = 0
    · rw [if_pos hy]
      have : ys = [] := List.eq_nil_of_length_eq_zero hy
      subst this
      exact ⟨_, _, rfl, .inl ⟨rfl, rfl⟩, rfl⟩
    · rw [if_neg hy, if_pos (by simpa using hb), hm]
      refine ⟨_, _, rfl, .inr ⟨fun e => hy (by simpa using congrArg List.length e), _, rfl, ?_⟩, rfl⟩
      simp
  · rw [app_view, hx, Option.bind_some, hk, Option.bind_some]
    rw [if_pos ⟨rfl, rfl, by omega, hb⟩]
    have hk' : k < h.fams.length := by
      rw [List.getElem?_eq_some_iff] at hk
      exact hk.1
    refine ⟨_, _, rfl, .inr ⟨by simp [hne], k, by simp, ?_⟩, rfl⟩
    simp [hk']
theorem Grw_one {c : Ctx} {sz bytes : Nat} {acc : List AV} {v x : AV} {h : AH} (hg : Grw sz acc v h) (hm : c.mutApp = false) (m : Bool × Bool)
    (hb : (acc.length + 1) * bytes ≤ 140737488355328) (hb' : acc.length ≤ 1099511627776) : ∃ v' h', appendA c h sz bytes v (sl m sz [x]) = some (v', h') ∧ Grw sz (acc ++ [x]) v' h' ∧ h'.boxes = h.boxes :=
  Grw_app hg hm (sl_elems h m sz [x]) (by simp only [roomA, maxLen, List.length_singleton]; omega)
theorem Grw_frz {sz : Nat} {acc : List AV} {v : AV} {h : AH} (hg : Grw sz acc v h) : ∃ m, frz h true v = some (sl m sz acc) := by
  rcases hg with ⟨rfl, rfl⟩ | ⟨hne, k, rfl, hk⟩
  · exact ⟨(true, false), by rw [frz_nil]; exact congrArg some (sl_nil_any _ rfl _ _)⟩
  · refine ⟨(false, true), ?_⟩
    rw [frz_view, frz1_view, hk, Option.bind_some, if_pos ⟨rfl, by omega, rfl⟩]
    simp
theorem Grw_frzRes {sz : Nat} {acc : List AV} {v : AV} {h : AH} (hg : Grw sz acc v h) : ∃ m, frzRes h v = some (sl m sz acc) := by
  rcases hg with ⟨rfl, rfl⟩ | ⟨hne, k, rfl, hk⟩
  · exact ⟨(true, false), by rw [sl_nil sz]; rfl⟩
  · refine ⟨(false, true), ?_⟩
    rw [show frzRes h (.sl k acc.length 0 acc.length) = frz1 h true (.sl k acc.length 0 acc.length) from rfl]
    rw [frz1_view, hk, Option.bind_some, if_pos ⟨rfl, by omega, rfl⟩]
    simp
theorem Grw_len {sz : Nat} {acc : List AV} {v : AV} {h : AH} (hg : Grw sz acc v h) : lenA h v = some (.int .i64 acc.length, h) := by
  rcases hg with ⟨rfl, rfl⟩ | ⟨hne, k, rfl, hk⟩ <;> rfl
theorem Grw_elems {sz : Nat} {acc : List AV} {v : AV} {h : AH} (hg : Grw sz acc v h) : elems h sz v = some acc := by
  rcases hg with ⟨rfl, rfl⟩ | ⟨hne, k, rfl, hk⟩
  · simp [elems]
  · simp [elems, hk]

theorem bytes_ok : ∀ {acc : List AV}, (∀ x ∈ acc, ∃ n, x = .int .u8 n) → ∃ ns, bytesOfA acc = some ns
  | [], _ => ⟨[], rfl⟩
  | x :: acc, h => by
    obtain ⟨n, rfl⟩ := h _ List.mem_cons_self
    obtain ⟨ns, hn⟩ := bytes_ok fun y hy => h y (List.mem_cons_of_mem _ hy)
    exact ⟨n :: ns, by simp [bytesOfA, hn]⟩

theorem loop_escape1 (s f : ByteArray) (hs : 0 < s.size) (hf : f.size = 8) (fr : Fr) (h : AH) (hl : fr.length = 68) (h0 : look fr 0 = .str s) (h4 : look fr 4 = .str f) (h5 : look fr 5 = .int .i64 0) :
    Ends (lp (evalCode (lim Q) (ctxF n_ref21_escape) x_ref21_escape_1) (fr, h)) fun e fr' h' => Kp x_ref21_escape_1.wr fr fr' ∧ (e = .exit 0 ∨ e = .ret ∧ (∃ c, look fr' 2 = .int .u8 c) ∧ look fr' 3 = .int .i64 1) := by
  refine Ends_lpw rfl fr (fun n fr h => ∃ i : Nat, i + n = 8 ∧ i % 2 = 0 ∧ look fr 5 = .int .i64 (i : Nat)) ?_ 8 h ⟨0, by omega, rfl, h5⟩
  rintro J Φ hJ hΦ n fr1 h1' K ⟨i, hi, hm, k5⟩
  have hl1 : fr1.length = 68 := K.1.trans hl
  have k0 := (K.2 0 (by decide)).trans h0
  have k4 := (K.2 4 (by decide)).trans h4
  by_cases hlt : i < 8
  · have hw : IntKind.i64.wrap ((i : Int) + 1) = ((i + 1 : Nat) : Int) := wrap_id (by omega) (by omega)
    have hw2 : IntKind.i64.wrap ((i : Int) + 2) = ((i + 2 : Nat) : Int) := wrap_id (by omega) (by omega)
    have i1 : i < f.size := by omega
    have i2 : i + 1 < f.size := by omega
    have i2' : i + 1 < 8 := by omega
    have p1 : (0 : Int) ≤ (i : Int) + 1 := by omega
    have hlt' : (i : Int) < 8 := by omega
    by_cases hc : ((s[0]'hs).toNat : Int) = ((f[i]'i1).toNat : Int)
    · have e2 : f[i + 1]? = some (f[i + 1]'i2) := getElem?_pos f (i + 1) i2
      simp [x_ref21_escape_1, hl1, k0, k4, k5, hlt, hlt', hw, hf, hs, dec_t hc, i2', p1]
      exact hΦ _ _ _ (.inr ⟨rfl, ⟨_, by simp [hl1]; rfl⟩, by simp [hl1]⟩)
    · simp [x_ref21_escape_1, hl1, k0, k4, k5, hlt, hlt', hw2, hf, hs, dec_f hc]
      exact ⟨n - 2, by omega, hJ _ _ _ ⟨i + 2, by omega, by omega, by simp [hl1]⟩⟩
  · have hlt' : ¬(i : Int) < 8 := by omega
    simp [x_ref21_escape_1, hl1, k4, k5, hlt', hf]
    exact hΦ _ _ _ (.inl rfl)

theorem loop_escape0 (s f : ByteArray) (hs : 2 < s.size) (hf : f.size = 16) (fr : Fr) (h : AH) (hl : fr.length = 68) (h0 : look fr 0 = .str s) (h6 : look fr 6 = .str f) (h9 : look fr 9 = .int .i64 0) (h7 : look fr 7 = .int .i64 (-1)) (h8 : look fr 8 = .int .i64 (-1)) :
    Ends (lp (evalCode (lim Q) (ctxF n_ref21_escape) x_ref21_escape_0) (fr, h)) fun e fr' h' => Kp x_ref21_escape_0.wr fr fr' ∧ e = .exit 2 ∧ (∃ c, look fr' 7 = .int .i64 c) ∧ (∃ c, look fr' 8 = .int .i64 c) := by
  refine Ends_lpw rfl fr (fun n fr h => ∃ i : Nat, i + n = 16 ∧ look fr 9 = .int .i64 (i : Nat) ∧ (∃ c, look fr 7 = .int .i64 c) ∧ (∃ c, look fr 8 = .int .i64 c)) ?_ 16 h ⟨0, by omega, h9, ⟨_, h7⟩, ⟨_, h8⟩⟩
  rintro J Φ hJ hΦ n fr1 h1' K ⟨i, hi, k9, ⟨c7, k7⟩, ⟨c8, k8⟩⟩
  have hl1 : fr1.length = 68 := K.1.trans hl
  have k0 := (K.2 0 (by decide)).trans h0
  have k6 := (K.2 6 (by decide)).trans h6
  by_cases hlt : i < 16
  · have hw : IntKind.i64.wrap ((i : Int) + 1) = ((i + 1 : Nat) : Int) := wrap_id (by omega) (by omega)
    have i1 : i < f.size := by omega
    have s1 : 1 < s.size := by omega
    have hlt' : (i : Int) < 16 := by omega
    by_cases hc : ((s[1]'s1).toNat : Int) = ((f[i]'i1).toNat : Int)
    · by_cases hd : ((s[2]'hs).toNat : Int) = ((f[i]'i1).toNat : Int)
      · simp [x_ref21_escape_0, hl1, k0, k6, k9, hlt, hlt', hw, hf, hs, s1, dec_t hc, dec_t hd]
        exact ⟨n - 1, by omega, hJ _ _ _ ⟨i + 1, by omega, by simp [hl1], ⟨_, by simp [hl1]; rfl⟩, ⟨_, by simp [hl1]; rfl⟩⟩⟩
      · simp [x_ref21_escape_0, hl1, k0, k6, k9, hlt, hlt', hw, hf, hs, s1, dec_t hc, dec_f hd]
        exact ⟨n - 1, by omega, hJ _ _ _ ⟨i + 1, by omega, by simp [hl1], ⟨_, by simp [hl1]; rfl⟩, ⟨_, by simp [k8]; rfl⟩⟩⟩
    · by_cases hd : ((s[2]'hs).toNat : Int) = ((f[i]'i1).toNat : Int)
      · simp [x_ref21_escape_0, hl1, k0, k6, k9, hlt, hlt', hw, hf, hs, s1, dec_f hc, dec_t hd]
        exact ⟨n - 1, by omega, hJ _ _ _ ⟨i + 1, by omega, by simp [hl1], ⟨_, by simp [k7]; rfl⟩, ⟨_, by simp [hl1]; rfl⟩⟩⟩
      · simp [x_ref21_escape_0, hl1, k0, k6, k9, hlt, hlt', hw, hf, hs, s1, dec_f hc, dec_f hd]
        exact ⟨n - 1, by omega, hJ _ _ _ ⟨i + 1, by omega, by simp [hl1], ⟨_, by simp [k7]; rfl⟩, ⟨_, by simp [k8]; rfl⟩⟩⟩
  · have hlt' : ¬(i : Int) < 16 := by omega
    simp [x_ref21_escape_0, hl1, k6, k9, hlt', hf]
    exact hΦ _ _ _ ⟨rfl, ⟨_, by simp [k7]; rfl⟩, ⟨_, by simp [k8]; rfl⟩⟩

theorem pc_escape (s : ByteArray) : ∃ r, pc Q n_ref21_escape [.str s] = some r ∧ ∃ (c : Int) (n : Nat), r = .tup [.int .u8 c, .int .i64 n] ∧ (n = 0 ∨ (1 ≤ n ∧ n ≤ s.size)) := by
  refine pc_ends_ex (C := Q) ((Q_spec _).trans rfl) ((Q_code _).trans res_ref21_escape) (by simp [x_ref21_escape]) fun Ψ hΨ fr hl ha => ?_
  rw [Q_ctx]
  have h0 := ha 0
  clear ha
  simp [x_ref21_escape] at hl h0
  by_cases hs : s.size = 0
  · simp [x_ref21_escape, hl, h0, hs]
    exact hΨ _ ⟨0, 0, rfl, .inl rfl⟩
  have hs' : ¬(s.size : Int) = 0 := by omega
  have hs1 : 0 < s.size := by omega
  simp [x_ref21_escape, hl, h0, hs]
  refine (loop_escape1 s (bs [110, 10, 116, 9, 34, 34, 92, 92]) hs1 rfl _ _ (by simp [hl]) (by simp [h0]) (by simp [hl]) (by simp [hl])).mono ?_
  rintro e fr1 h1 ⟨K, rfl | ⟨rfl, ⟨c, k2⟩, k3⟩⟩
  · have hl1 : fr1.length = 68 := K.1.trans (by simp [hl])
    have k0 : look fr1 0 = .str s := (K.2 0 (by decide)).trans (by simp [h0])
    clear K
    by_cases hx : ((s[0]'hs1).toNat : Int) = 120
    · by_cases h3 : (s.size : Int) < 3
      · simp [hl1, k0, hs1, dec_t hx, dec_t h3]
        exact hΨ _ ⟨0, 0, rfl, .inl rfl⟩
      · simp [hl1, k0, hs1, dec_t hx, dec_f h3]
        refine (loop_escape0 s (bs [48, 49, 50, 51, 52, 53, 54, 55, 56, 57, 97, 98, 99, 100, 101, 102]) (by omega) rfl _ _ (by simp [hl1]) (by simp [k0]) (by simp [hl1]) (by simp [hl1]) (by simp [hl1]) (by simp [hl1])).mono ?_
        rintro e fr2 h2 ⟨K, rfl, ⟨c7, k7⟩, ⟨c8, k8⟩⟩
        have hl2 : fr2.length = 68 := K.1.trans (by simp [hl1])
        clear K
        by_cases g7 : c7 < 0
        · simp [hl2, k7, dec_t g7]
          exact hΨ _ ⟨0, 0, rfl, .inl rfl⟩
        · by_cases g8 : c8 < 0
          · simp [hl2, k7, k8, dec_f g7, dec_t g8]
            exact hΨ _ ⟨0, 0, rfl, .inl rfl⟩
          · simp [hl2, k7, k8, dec_f g7, dec_f g8, evalBin]
            exact hΨ _ ⟨_, 3, rfl, .inr (by omega)⟩
    · simp [hl1, k0, hs1, dec_f hx]
      exact hΨ _ ⟨0, 0, rfl, .inl rfl⟩
  · simp [k2, k3]
    exact hΨ _ ⟨c, 1, rfl, .inr (by omega)⟩

theorem loop_literal (s : ByteArray) (hs : s.size ≤ 1099511627776) (h1 : 1 ≤ s.size) (fr : Fr) (h : AH) (hl : fr.length = 62) (h0 : look fr 0 = .str s) (h4 : look fr 4 = .vs true 0 []) (h5 : look fr 5 = .int .i64 1) :
    Ends (lp (evalCode (lim Q) (ctxF n_ref21_literal) x_ref21_literal_0) (fr, h)) fun e fr' h' => Kp x_ref21_literal_0.wr fr fr' ∧ (e = .exit 0 ∨ e = .ret ∧ (∃ v, look fr' 2 = .str v) ∧ ∃ n : Nat, look fr' 3 = .int .i64 n ∧ n ≤ s.size) := by
  refine Ends_lpw rfl fr (fun n fr h => ∃ (i : Nat) (acc : List AV), i + n = s.size + 1 ∧ 1 ≤ i ∧ acc.length ≤ i ∧ look fr 5 = .int .i64 (i : Nat) ∧ Grw 1 acc (look fr 4) h ∧ ∀ x ∈ acc, ∃ n, x = .int .u8 n) ?_ s.size h ⟨1, [], by omega, by omega, by simp, h5, by rw [h4]; exact Grw_nil _ _, by simp⟩
  rintro J Φ hJ hΦ n fr1 h1' K ⟨i, acc, hi, hi1, hal, k5, hg, hb⟩
  have hl1 : fr1.length = 62 := K.1.trans hl
  have k0 := (K.2 0 (by decide)).trans h0
  by_cases hlt : i < s.size
  · have hw : IntKind.i64.wrap ((i : Int) + 1) = ((i + 1 : Nat) : Int) := wrap_id (by omega) (by omega)
    obtain ⟨c, hc⟩ : ∃ c, s[i]'hlt = c := ⟨_, rfl⟩
    by_cases h34 : (c.toNat : Int) = 34
    · obtain ⟨ns, hns⟩ := bytes_ok hb
      have hbs : bstrA h1' (look fr1 4) = some (.str (strOf ns), h1') := by
        unfold bstrA
        rw [Grw_elems hg]
        simp [hns]
      simp [x_ref21_literal_0, hl1, k0, k5, hlt, hc, dec_t h34, hbs, hw]
      exact hΦ _ _ _ (.inr ⟨rfl, ⟨_, by simp [hl1]; rfl⟩, i + 1, by simp [hl1], by omega⟩)
    · by_cases h92 : (c.toNat : Int) = 92
      · have hle : (i : Int) + 1 ≤ (s.size : Int) := by omega
        have p1 : (0 : Int) ≤ (i : Int) + 1 := by omega
        obtain ⟨r, hE, ce, ne, rfl, hne⟩ := pc_escape (s.extract (i + 1) s.size)
        rw [size_ext _ (Nat.le_refl _)] at hne
        rcases hne with rfl | hne
        · simp [x_ref21_literal_0, hl1, k0, k5, hlt, hc, dec_f h34, dec_t h92, hw, boundA, hle, p1, hE]
          exact hΦ _ _ _ (.inr ⟨rfl, ⟨_, by simp [hl1]; rfl⟩, 0, by simp [hl1], by omega⟩)
        · have hne0 : ¬ne = 0 := by omega
          have hw2 : IntKind.i64.wrap ((i : Int) + (ne : Int)) = ((i + ne : Nat) : Int) := wrap_id (by omega) (by omega)
          have hw3 : IntKind.i64.wrap ((i : Int) + (ne : Int) + 1) = ((i + ne + 1 : Nat) : Int) := wrap_id (by omega) (by omega)
          obtain ⟨v', h', ha, hg', -⟩ := Grw_one (c := ctxF n_ref21_literal) (bytes := 1) (x := .int .u8 ce) hg rfl (true, true) (by omega) (by omega)
          simp [x_ref21_literal_0, hl1, k0, k5, hlt, hc, dec_f h34, dec_t h92, hw, boundA, hle, p1, hE, hne0, sliceParts, ha, hw2, hw3]
          refine ⟨n - 1 - ne, by omega, hJ _ _ _ ⟨i + ne + 1, acc ++ [.int .u8 ce], by omega, by omega, by simp; omega, by simp [hl1], by simp [hl1]; exact hg', ?_⟩⟩
          intro x hx
          rcases List.mem_append.1 hx with hx | hx
          · exact hb x hx
          · exact ⟨ce, by simpa using hx⟩
      · by_cases h32 : (c.toNat : Int) < 32
        · simp [x_ref21_literal_0, hl1, k0, k5, hlt, hc, dec_f h34, dec_f h92, dec_t h32]
          exact hΦ _ _ _ (.inr ⟨rfl, ⟨_, by simp [hl1]; rfl⟩, 0, by simp [hl1], by omega⟩)
        · by_cases h126 : 126 < (c.toNat : Int)
          · simp [x_ref21_literal_0, hl1, k0, k5, hlt, hc, dec_f h34, dec_f h92, dec_f h32, dec_t h126]
            exact hΦ _ _ _ (.inr ⟨rfl, ⟨_, by simp [hl1]; rfl⟩, 0, by simp [hl1], by omega⟩)
          · obtain ⟨v', h', ha, hg', -⟩ := Grw_one (c := ctxF n_ref21_literal) (bytes := 1) (x := .int .u8 c.toNat) hg rfl (true, true) (by omega) (by omega)
            simp [x_ref21_literal_0, hl1, k0, k5, hlt, hc, dec_f h34, dec_f h92, dec_f h32, dec_f h126, sliceParts, ha, hw]
            refine ⟨n - 1, by omega, hJ _ _ _ ⟨i + 1, acc ++ [.int .u8 c.toNat], by omega, by omega, by simp; omega, by simp [hl1], by simp [hl1]; exact hg', ?_⟩⟩
            intro x hx
            rcases List.mem_append.1 hx with hx | hx
            · exact hb x hx
            · exact ⟨c.toNat, by simpa using hx⟩
  · simp [x_ref21_literal_0, hl1, k0, k5, hlt]
    exact hΦ _ _ _ (.inl rfl)

theorem pc_literal (s : ByteArray) (hs : s.size ≤ 1099511627776) (h1 : 1 ≤ s.size) : ∃ r, pc Q n_ref21_literal [.str s] = some r ∧ ∃ (v : ByteArray) (n : Nat), r = .tup [.str v, .int .i64 n] ∧ n ≤ s.size := by
  refine pc_ends_ex (C := Q) ((Q_spec _).trans rfl) ((Q_code _).trans res_ref21_literal) (by simp [x_ref21_literal]) fun Ψ hΨ fr hl ha => ?_
  rw [Q_ctx]
  have h0 := ha 0
  clear ha
  simp [x_ref21_literal] at hl h0
  simp [x_ref21_literal]
  refine (loop_literal s hs h1 _ _ (by simp [hl]) (by simp [h0]) (by simp [hl]) (by simp [hl])).mono ?_
  rintro e fr1 h1 ⟨K, rfl | ⟨rfl, ⟨c, k2⟩, n, k3, hn⟩⟩
  · have hl1 : fr1.length = 62 := K.1.trans (by simp [hl])
    simp [hl1]
    exact hΨ _ ⟨_, 0, rfl, by omega⟩
  · simp [k2, k3]
    exact hΨ _ ⟨_, n, rfl, hn⟩
end Go.Abs.Q

namespace Go.Abs.Q
open Go.Proofs
attribute [local simp] look_set_ne look_set_eq fin tupled code_loop raw_ref21_class raw_ref21_word raw_ref21_number raw_ref21_literal raw_ref21_first raw_ref21_bare

theorem loop_class (c : UInt8) (f : ByteArray) (hf : bys f = symL) (fr : Fr) (h : AH) (hl : fr.length = 56) (h0 : look fr 0 = .int .u8 c.toNat) (h3 : look fr 3 = .str f) (h4 : look fr 4 = .int .i64 0) :
    Ends (lp (evalCode (lim Q) (ctxF n_ref21_class) x_ref21_class_0) (fr, h)) fun e fr' h' => Kp x_ref21_class_0.wr fr fr' ∧ (e = .exit 1 ∧ c ∉ symL ∨ e = .ret ∧ look fr' 2 = .int .i64 4 ∧ c ∈ symL) := by
  have hfs : f.size = 18 := by rw [← bys_len, hf]; rfl
  refine Ends_lpw rfl fr (fun n fr h => ∃ i : Nat, i + n = 18 ∧ look fr 4 = .int .i64 (i : Nat) ∧ (c ∈ symL.drop i ↔ c ∈ symL)) ?_ 18 h ⟨0, by omega, h4, Iff.rfl⟩
  rintro J Φ hJ hΦ n fr1 h1' K ⟨i, hi, k4, hr⟩
  have hl1 : fr1.length = 56 := K.1.trans hl
  have k0 := (K.2 0 (by decide)).trans h0
  have k3 := (K.2 3 (by decide)).trans h3
  by_cases hlt : i < 18
  · have hw : IntKind.i64.wrap ((i : Int) + 1) = ((i + 1 : Nat) : Int) := wrap_id (by omega) (by omega)
    have i1 : i < f.size := by omega
    have hlt' : (i : Int) < 18 := by omega
    have hls : i < symL.length := hlt
    have hx : f[i]'i1 = symL[i]'hls := by
      have := bys_get f i
      rw [getElem?_pos f i i1, hf, List.getElem?_eq_getElem hls] at this
      exact Option.some.inj this
    rw [List.drop_eq_getElem_cons hls, List.mem_cons] at hr
    generalize symL[i]'hls = d at *
    by_cases hc : (d.toNat : Int) = (c.toNat : Int)
    · have e : c = d := UInt8.toNat_inj.1 (by omega)
      simp [x_ref21_class_0, hl1, k0, k3, k4, hlt, hlt', hfs, hx, dec_t hc]
      exact hΦ _ _ _ (.inr ⟨rfl, by simp [hl1], hr.1 (.inl e)⟩)
    · have e : ¬c = d := fun k => hc (by rw [k])
      simp [x_ref21_class_0, hl1, k0, k3, k4, hlt, hlt', hfs, hx, dec_f hc, hw]
      exact ⟨n - 1, by omega, hJ _ _ _ ⟨i + 1, by omega, by simp [hl1], ⟨fun k => hr.1 (.inr k), fun k => (hr.2 k).resolve_left e⟩⟩⟩
  · have hlt' : ¬(i : Int) < 18 := by omega
    rw [List.drop_eq_nil_of_le (by simp [symL]; omega)] at hr
    simp [x_ref21_class_0, hl1, k3, k4, hlt', hfs]
    exact hΦ _ _ _ (.inl ⟨rfl, fun k => by simpa using hr.2 k⟩)

set_option maxHeartbeats 2000000 in
theorem pc_class (c : UInt8) : pc Q n_ref21_class [.int .u8 c.toNat] = some (.int .i64 (clsB c)) := by
  refine pcQ res_ref21_class rfl (by simp [x_ref21_class]) fun fr hl ha => ?_
  have h0 := ha 0
  clear ha
  simp [x_ref21_class] at hl h0
  generalize hv : clsB c = v
  have hLc := loop_class c
  generalize hz : c.toNat = z at *
  by_cases w1 : z = 32
  · have : v = 1 := by rw [← hv, clsB, hz, if_pos (by omega)]
    subst this
    simp (disch := first | omega | (simp only [List.length_set]; omega)) [x_ref21_class, h0, dec_t]
  by_cases w2 : z = 9
  · have : v = 1 := by rw [← hv, clsB, hz, if_pos (by omega)]
    subst this
    simp (disch := first | omega | (simp only [List.length_set]; omega)) [x_ref21_class, h0, dec_t, dec_f]
  by_cases w3 : z = 10
  · have : v = 1 := by rw [← hv, clsB, hz, if_pos (by omega)]
    subst this
    simp (disch := first | omega | (simp only [List.length_set]; omega)) [x_ref21_class, h0, dec_t, dec_f]
  by_cases w4 : z = 13
  · have : v = 1 := by rw [← hv, clsB, hz, if_pos (by omega)]
    subst this
    simp (disch := first | omega | (simp only [List.length_set]; omega)) [x_ref21_class, h0, dec_t, dec_f]
  have e1 : v = if letB z = true then 2 else if digB z = true then 3 else if z = 34 then 5 else if c ∈ symL then 4 else 0 := by rw [← hv, clsB, hz, if_neg (by omega)]
  clear hv
  by_cases l1 : 97 ≤ z ∧ z ≤ 122
  · have : letB z = true := by simp [letB, l1]
    rw [if_pos this] at e1
    subst e1
    simp (disch := first | omega | (simp only [List.length_set]; omega)) [x_ref21_class, h0, dec_t, dec_f]
  by_cases l2 : 65 ≤ z ∧ z ≤ 90
  · have : letB z = true := by simp [letB, l2]
    rw [if_pos this] at e1
    subst e1
    simp (disch := first | omega | (simp only [List.length_set]; omega)) [x_ref21_class, h0, dec_t, dec_f]
  rw [if_neg (by simp [letB]; omega)] at e1
  by_cases d1 : 48 ≤ z ∧ z ≤ 57
  · have : digB z = true := by simp [digB, d1]
    rw [if_pos this] at e1
    subst e1
    simp (disch := first | omega | (simp only [List.length_set]; omega)) [x_ref21_class, h0, dec_t, dec_f]
  rw [if_neg (by simp [digB]; omega)] at e1
  by_cases q1 : z = 34
  · rw [if_pos q1] at e1
    subst e1
    simp (disch := first | omega | (simp only [List.length_set]; omega)) [x_ref21_class, h0, dec_t, dec_f]
  rw [if_neg q1] at e1
  have key : Ends (evalCode (lim Q) (ctxF n_ref21_class) x_ref21_class.body (fr, ⟨[], []⟩)) (FIN x_ref21_class.results (.int .i64 v)) := by
    have f1 : decide ((z : Int) = 32) = false := dec_f (by omega)
    have f2 : decide ((z : Int) = 9) = false := dec_f (by omega)
    have f3 : decide ((z : Int) = 10) = false := dec_f (by omega)
    have f4 : decide ((z : Int) = 13) = false := dec_f (by omega)
    have f5 : decide ((z : Int) = 34) = false := dec_f (by omega)
    have go : ∀ b1 b2 b3 b4 b5 b6 : Bool, decide ((97 : Int) ≤ (z : Int)) = b1 → decide ((z : Int) ≤ 122) = b2 → decide ((65 : Int) ≤ (z : Int)) = b3 → decide ((z : Int) ≤ 90) = b4 → decide ((48 : Int) ≤ (z : Int)) = b5 → decide ((z : Int) ≤ 57) = b6 →
        (b1 && b2) = false → (b3 && b4) = false → (b5 && b6) = false → Ends (evalCode (lim Q) (ctxF n_ref21_class) x_ref21_class.body (fr, ⟨[], []⟩)) (FIN x_ref21_class.results (.int .i64 v)) := by
      clear w1 w2 w3 w4 l1 l2 d1 q1
      intro b1 b2 b3 b4 b5 b6 g1 g2 g3 g4 g5 g6 a1 a2 a3
      cases b1 <;> cases b2 <;> cases b3 <;> cases b4 <;> cases b5 <;> cases b6 <;> first | exact absurd a1 (by decide) | exact absurd a2 (by decide) | exact absurd a3 (by decide) | skip
      all_goals
        simp [x_ref21_class, h0, hl, f1, f2, f3, f4, f5, g1, g2, g3, g4, g5, g6]
        refine Ends.mono (hLc (bs [40, 41, 123, 125, 91, 93, 44, 59, 58, 61, 46, 45, 62, 60, 63, 124, 38, 42]) rfl _ _ ?_ ?_ ?_ ?_) ?_ <;> first | (simp [hl]; done) | (simp [h0]; done) | skip
        rintro e fr1 h1 ⟨K, ⟨rfl, hm⟩ | ⟨rfl, k2, hm⟩⟩
        · have hl1 : fr1.length = 56 := K.1.trans (by simp [hl])
          rw [if_neg hm] at e1
          simp [hl1, e1]
        · rw [if_pos hm] at e1
          simp [k2, e1]
    refine go _ _ _ _ _ _ rfl rfl rfl rfl rfl rfl ?_ ?_ ?_
    · by_cases q : (97 : Int) ≤ (z : Int)
      · rw [dec_f (p := (z : Int) ≤ 122) (by omega), Bool.and_false]
      · rw [dec_f q, Bool.false_and]
    · by_cases q : (65 : Int) ≤ (z : Int)
      · rw [dec_f (p := (z : Int) ≤ 90) (by omega), Bool.and_false]
      · rw [dec_f q, Bool.false_and]
    · by_cases q : (48 : Int) ≤ (z : Int)
      · rw [dec_f (p := (z : Int) ≤ 57) (by omega), Bool.and_false]
      · rw [dec_f q, Bool.false_and]
  exact key

theorem cls2 (c : UInt8) : clsB c = 2 ↔ letB c.toNat = true := by
  unfold clsB
  by_cases w : c.toNat = 32 ∨ c.toNat = 9 ∨ c.toNat = 10 ∨ c.toNat = 13
  · rw [if_pos w]
    have : letB c.toNat = false := by rcases w with w | w | w | w <;> rw [w] <;> rfl
    simp [this]
  · rw [if_neg w]
    cases letB c.toNat with
    | true => simp
    | false =>
      simp
      split
      · omega
      · split
        · omega
        · split <;> omega
theorem cls3 (c : UInt8) : clsB c = 3 ↔ digB c.toNat = true := by
  unfold clsB
  by_cases w : c.toNat = 32 ∨ c.toNat = 9 ∨ c.toNat = 10 ∨ c.toNat = 13
  · rw [if_pos w]
    have : digB c.toNat = false := by rcases w with w | w | w | w <;> rw [w] <;> rfl
    simp [this]
  · rw [if_neg w]
    cases hL : letB c.toNat with
    | true =>
      have : digB c.toNat = false := by
        simp only [letB, Bool.or_eq_true, decide_eq_true_eq] at hL
        simp only [digB]
        apply dec_f
        omega
      simp [this]
    | false =>
      cases digB c.toNat with
      | true => simp
      | false =>
        simp
        split
        · omega
        · split <;> omega

/-- How many bytes of a name stand in front. -/
def wdL : List UInt8 → Nat
  | [] => 0
  | c :: r => if parB c.toNat = true then wdL r + 1 else 0
theorem wdL_le : ∀ l : List UInt8, wdL l ≤ l.length
  | [] => Nat.le_refl _
  | c :: r => by
    have := wdL_le r
    simp only [wdL]
    split
    · simp; omega
    · simp
theorem wdL_all : ∀ {l : List UInt8}, l.all (fun c => parB c.toNat) = true → wdL l = l.length
  | [], _ => rfl
  | c :: r, h => by
    simp only [List.all_cons, Bool.and_eq_true] at h
    simp [wdL, h.1, wdL_all h.2]

theorem loop_word (s : ByteArray) (hs : s.size ≤ 1099511627776) (fr : Fr) (h : AH) (hl : fr.length = 39) (h0 : look fr 0 = .str s) (h3 : look fr 3 = .int .i64 0) :
    Ends (lp (evalCode (lim Q) (ctxF n_ref21_word) x_ref21_word_0) (fr, h)) fun e fr' h' => Kp x_ref21_word_0.wr fr fr' ∧ e = .exit 0 ∧ look fr' 3 = .int .i64 (wdL (bys s) : Nat) := by
  refine Ends_lpw rfl fr (fun n fr h => ∃ i : Nat, i + n = s.size ∧ look fr 3 = .int .i64 (i : Nat) ∧ i + wdL ((bys s).drop i) = wdL (bys s)) ?_ s.size h ⟨0, by omega, h3, by simp⟩
  rintro J Φ hJ hΦ n fr1 h1' K ⟨i, hi, k3, hr⟩
  have hl1 : fr1.length = 39 := K.1.trans hl
  have k0 := (K.2 0 (by decide)).trans h0
  have hlen := bys_len s
  by_cases hlt : i < s.size
  · have hlt' : i < (bys s).length := by omega
    have hx : s[i]? = some (bys s)[i] := by rw [bys_get, List.getElem?_eq_getElem hlt']
    have hw : IntKind.i64.wrap ((i : Int) + 1) = (i : Int) + 1 := wrap_id (by omega) (by omega)
    rw [List.drop_eq_getElem_cons hlt'] at hr
    generalize (bys s)[i] = c at *
    have hC := pc_class c
    have hsi : s[i]'hlt = c := by rw [getElem?_pos s i hlt] at hx; exact Option.some.inj hx
    simp only [wdL] at hr
    have stop : ¬parB c.toNat = true → i = wdL (bys s) := fun hp => by
      rw [if_neg hp] at hr
      exact hr
    have fwd : parB c.toNat = true → i + 1 + wdL ((bys s).drop (i + 1)) = wdL (bys s) := fun hp => by
      rw [if_pos hp] at hr
      omega
    clear hr
    have g2 := cls2 c
    have g3 := cls3 c
    generalize hv : clsB c = v at *
    generalize hz : c.toNat = z at *
    by_cases v2 : v = 2
    · simp [x_ref21_word_0, hl1, k0, k3, hlt, hsi, hz, hw, hC, dec_t v2]
      exact ⟨n - 1, by omega, hJ _ _ _ ⟨i + 1, by omega, by simp [hl1], fwd (by simp [parB, g2.1 v2])⟩⟩
    · by_cases v3 : v = 3
      · simp [x_ref21_word_0, hl1, k0, k3, hlt, hsi, hz, hw, hC, dec_f v2, dec_t v3]
        exact ⟨n - 1, by omega, hJ _ _ _ ⟨i + 1, by omega, by simp [hl1], fwd (by simp [parB, g3.1 v3])⟩⟩
      · by_cases h95 : (z : Int) = 95
        · simp [x_ref21_word_0, hl1, k0, k3, hlt, hsi, hz, hw, hC, dec_f v2, dec_f v3, dec_t h95]
          exact ⟨n - 1, by omega, hJ _ _ _ ⟨i + 1, by omega, by simp [hl1], fwd (by simp [parB, show z = 95 by omega])⟩⟩
        · by_cases h35 : (z : Int) = 35
          · simp [x_ref21_word_0, hl1, k0, k3, hlt, hsi, hz, hw, hC, dec_f v2, dec_f v3, dec_f h95, dec_t h35]
            exact ⟨n - 1, by omega, hJ _ _ _ ⟨i + 1, by omega, by simp [hl1], fwd (by simp [parB, show z = 35 by omega])⟩⟩
          · have st := stop (by
              intro k
              simp only [parB, Bool.or_eq_true, decide_eq_true_eq] at k
              rcases k with ((k | k) | k) | k
              · exact v2 (g2.2 k)
              · exact v3 (g3.2 k)
              · omega
              · omega)
            simp [x_ref21_word_0, hl1, k0, k3, hlt, hsi, hz, hC, dec_f v2, dec_f v3, dec_f h95, dec_f h35]
            exact hΦ _ _ _ ⟨rfl, by rw [← st]; simp [k3]⟩
  · rw [List.drop_eq_nil_of_le (by omega)] at hr
    have hr' : i = wdL (bys s) := by simpa [wdL] using hr
    simp [x_ref21_word_0, hl1, k0, k3, hlt]
    exact hΦ _ _ _ ⟨rfl, by rw [← hr']; simp [k3]⟩

theorem pc_word (s : ByteArray) (hs : s.size ≤ 1099511627776) : pc Q n_ref21_word [.str s] = some (.str (s.extract 0 (wdL (bys s)))) := by
  have hle := wdL_le (bys s)
  rw [bys_len] at hle
  refine pcQ res_ref21_word rfl (by simp [x_ref21_word]) fun fr hl ha => ?_
  have h0 := ha 0
  clear ha
  simp [x_ref21_word] at hl h0
  generalize hk : wdL (bys s) = k at *
  simp [x_ref21_word]
  refine (loop_word s hs _ _ (by simp [hl]) (by simp [h0]) (by simp [hl])).mono ?_
  rintro e fr' h' ⟨K, rfl, he⟩
  have hl' : fr'.length = 39 := K.1.trans (by simp [hl])
  have k0 : look fr' 0 = .str s := (K.2 0 (by decide)).trans (by simp [h0])
  have hle' : (k : Int) ≤ (s.size : Int) := by omega
  rw [hk] at he
  simp [hl', he, k0, boundA, hle']

theorem bin_mul (k : IntKind) (a b : Int) : evalBin .mul (.int k a) (.int k b) = some (.int k (k.wrap (a * b))) := by simp [evalBin]
theorem bin_quo10 (k : IntKind) (a : Int) : evalBin .quo (.int k a) (.int k 10) = some (.int k (k.wrap (a.tdiv 10))) := by simp [evalBin]

theorem loop_number (s : ByteArray) (hs : s.size ≤ 1099511627776) (hd : ∃ c r, bys s = c :: r ∧ digB c.toNat = true) (fr : Fr) (h : AH) (hl : fr.length = 39) (h0 : look fr 0 = .str s) (h5 : look fr 5 = .int .i64 0) (h6 : look fr 6 = .int .i64 0) :
    Ends (lp (evalCode (lim Q) (ctxF n_ref21_number) x_ref21_number_0) (fr, h)) fun e fr' h' => Kp x_ref21_number_0.wr fr fr' ∧ (e = .exit 0 ∧ (∃ n : Nat, look fr' 5 = .int .i64 n ∧ 1 ≤ n ∧ n ≤ s.size) ∧ (∃ v, look fr' 6 = .int .i64 v) ∨ e = .ret ∧ look fr' 2 = .str (bs []) ∧ look fr' 3 = .int .i64 0 ∧ look fr' 4 = .bool false) := by
  refine Ends_lpw rfl fr (fun n fr h => ∃ (i : Nat) (v : Int), i + n = s.size ∧ look fr 5 = .int .i64 (i : Nat) ∧ look fr 6 = .int .i64 v) ?_ s.size h ⟨0, 0, by omega, h5, h6⟩
  rintro J Φ hJ hΦ n fr1 h1' K ⟨i, v, hi, k5, k6⟩
  have hl1 : fr1.length = 39 := K.1.trans hl
  have k0 := (K.2 0 (by decide)).trans h0
  have hlen := bys_len s
  by_cases hlt : i < s.size
  · have hlt' : i < (bys s).length := by omega
    have hx : s[i]? = some (bys s)[i] := by rw [bys_get, List.getElem?_eq_getElem hlt']
    have hw : IntKind.i64.wrap ((i : Int) + 1) = (i : Int) + 1 := wrap_id (by omega) (by omega)
    have hone : clsB ((bys s)[i]) = 3 ∨ 1 ≤ i := by
      by_cases hi0 : i = 0
      · subst hi0
        obtain ⟨c, r, e, hc⟩ := hd
        left
        rw [cls3]
        simp only [e, List.getElem_cons_zero]
        exact hc
      · right; omega
    generalize (bys s)[i] = c at *
    have hC := pc_class c
    have hsi : s[i]'hlt = c := by rw [getElem?_pos s i hlt] at hx; exact Option.some.inj hx
    generalize hv : clsB c = k at *
    generalize hz : c.toNat = z at *
    by_cases v3 : k = 3
    · obtain ⟨q, hq⟩ : ∃ q, IntKind.i64.wrap (IntKind.u8.wrap ((z : Int) - 48)) = q := ⟨_, rfl⟩
      obtain ⟨p, hp⟩ : ∃ p, IntKind.i64.wrap ((IntKind.i64.wrap (9223372036854775807 - q)).tdiv 10) = p := ⟨_, rfl⟩
      by_cases hg : p < v
      · simp [x_ref21_number_0, hl1, k0, k5, k6, hlt, hsi, hz, hC, dec_t v3, bin_quo10, hq, hp, dec_t hg]
        exact hΦ _ _ _ (.inr ⟨rfl, by simp [hl1], by simp [hl1], by simp [hl1]⟩)
      · simp [x_ref21_number_0, hl1, k0, k5, k6, hlt, hsi, hz, hw, hC, dec_t v3, bin_mul, bin_quo10, hq, hp, dec_f hg]
        exact ⟨n - 1, by omega, hJ _ _ _ ⟨i + 1, _, by omega, by simp [hl1], by simp [hl1]; rfl⟩⟩
    · simp [x_ref21_number_0, hl1, k0, k5, hlt, hsi, hz, hC, dec_f v3]
      exact hΦ _ _ _ (.inl ⟨rfl, ⟨i, by simp [k5], by omega, by omega⟩, ⟨v, by simp [k6]⟩⟩)
  · have hne : 1 ≤ s.size := by
      obtain ⟨c, r, e, hc⟩ := hd
      rw [← bys_len, e]
      simp
    simp [x_ref21_number_0, hl1, k0, k5, hlt]
    exact hΦ _ _ _ (.inl ⟨rfl, ⟨i, by simp [k5], by omega, by omega⟩, ⟨v, by simp [k6]⟩⟩)

theorem pc_refNumber (s : ByteArray) (hs : s.size ≤ 1099511627776) (hd : ∃ c r, bys s = c :: r ∧ digB c.toNat = true) : ∃ r, pc Q n_ref21_number [.str s] = some r ∧ ∃ (w : ByteArray) (v : Int) (b : Bool), r = .tup [.str w, .int .i64 v, .bool b] ∧ (b = true → 1 ≤ w.size ∧ w.size ≤ s.size) := by
  refine pc_ends_ex (C := Q) ((Q_spec _).trans rfl) ((Q_code _).trans res_ref21_number) (by simp [x_ref21_number]) fun Ψ hΨ fr hl ha => ?_
  rw [Q_ctx]
  have h0 := ha 0
  clear ha
  simp [x_ref21_number] at hl h0
  simp [x_ref21_number]
  refine (loop_number s hs hd _ _ (by simp [hl]) (by simp [h0]) (by simp [hl]) (by simp [hl])).mono ?_
  rintro e fr1 h1 ⟨K, ⟨rfl, ⟨n, k5, n1, n2⟩, v, k6⟩ | ⟨rfl, k2, k3, k4⟩⟩
  · have hl1 : fr1.length = 39 := K.1.trans (by simp [hl])
    have k0 : look fr1 0 = .str s := (K.2 0 (by decide)).trans (by simp [h0])
    have hle' : (n : Int) ≤ (s.size : Int) := by omega
    simp [hl1, k0, k5, k6, boundA, hle']
    exact hΨ _ ⟨_, v, true, rfl, fun _ => by rw [size_ext _ n2]; omega⟩
  · simp [k2, k3, k4]
    exact hΨ _ ⟨_, _, false, rfl, fun h => by cases h⟩
end Go.Abs.Q
