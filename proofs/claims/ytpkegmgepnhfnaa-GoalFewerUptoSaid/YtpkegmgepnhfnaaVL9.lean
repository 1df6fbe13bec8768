/- Contracts: is an assignment right? -/
import Derived.Test.YtpkegmgepnhfnaaVL8
/- Contracts: two equal claims of different sessions. -/
namespace Go.Abs.Q
attribute [local simp] look_set_ne look_set_eq fin tupled code_loop raw_goal_kind raw_ref27_kind raw_goal_equal raw_ref27_Equal raw_goal_Fresh raw_ref27_Fresh

def intsV (m : Bool × Bool) (cs : List Int) : AV := sl m 1 (cs.map (AV.int .i64))
def clash (l : List Mo) (a b : Int) : Bool := match atI l a, atI l b with | some x, some y => decide (x.kind = 5) && decide (y.kind = 5) && eqM x y && !decide (x.number = y.number) | _, _ => false
def freshIn (l : List Mo) (b : Int) : List Int → Option Int
  | [] => none
  | a :: r => if clash l a b = true then some a else freshIn l b r
def freshFrom (l : List Mo) (done : List Int) : List Int → AV
  | [] => .tup [.int .i64 0, .int .i64 0, .bool true]
  | b :: r => match freshIn l b done with | some a => .tup [.int .i64 a, .int .i64 b, .bool false] | none => freshFrom l (done ++ [b]) r

theorem slcA_sl (h : AH) (m : Bool × Bool) (sz : Nat) (hsz : 0 < sz) (xs : List AV) (lo hi : Option Int) : slcA h sz (sl m sz xs) (some lo) (some hi) (some none) =
    if 0 ≤ lo.getD 0 ∧ lo.getD 0 ≤ hi.getD xs.length ∧ hi.getD xs.length ≤ xs.length then
      some (sl (m.1 && decide (hi.getD xs.length = xs.length), m.2 || !xs.isEmpty) sz ((xs.drop (lo.getD 0).toNat).take (hi.getD xs.length - lo.getD 0).toNat), h) else none := by
  have hz : (if (xs.isEmpty && !m.2) = true then 0 else sz) = sz ∨ xs.length = 0 := by
    cases xs with
    | nil => exact .inr rfl
    | cons x xs => exact .inl rfl
  simp only [slcA, sl, sliceA]
  rw [if_pos ⟨hsz, hz⟩]
  by_cases hc : 0 ≤ lo.getD 0 ∧ lo.getD 0 ≤ hi.getD xs.length ∧ hi.getD xs.length ≤ xs.length
  · rw [if_pos hc, if_pos hc]
    have e : ((if (xs.isEmpty && !m.2) = true then 0 else sz) : Nat) = (if (((xs.drop (lo.getD 0).toNat).take (hi.getD xs.length - lo.getD 0).toNat).isEmpty && !(m.2 || !xs.isEmpty)) = true then 0 else sz) := by
      cases xs with
      | nil => simp
      | cons x xs => simp
    rw [e]
  · rw [if_neg hc, if_neg hc]
end Go.Abs.Q

/- Contracts: two equal claims of different sessions: the loops. -/
namespace Go.Abs.Q
attribute [local simp] look_set_ne look_set_eq fin tupled code_loop raw_goal_kind raw_ref27_kind raw_goal_equal raw_ref27_Equal raw_goal_Fresh raw_ref27_Fresh

theorem fresh_inner (m mm : Bool × Bool) (l : List Mo) (hf : fine l) (b : Int) (cs : List Int) (hlen : cs.length ≤ 1099511627776) (done : List Int) (hd : done.length ≤ cs.length) (c1 c11 c12 c13 : AV) (fr : Fr) (h : AH) (hl : fr.length = 62)
    (h0 : look fr 0 = sl m 6 (l.map moV)) (h1 : look fr 1 = c1) (h8 : look fr 8 = .int .i64 b) (h11 : look fr 11 = c11) (h12 : look fr 12 = c12) (h13 : look fr 13 = c13) (h20 : look fr 20 = sl mm 1 (done.map (AV.int .i64))) (h21 : look fr 21 = .int .i64 done.length) (h22 : look fr 22 = .int .i64 0) :
    Ends (lp (evalCode (lim Q) (ctxF n_goal_Fresh) x_goal_Fresh_0) (fr, h)) fun e fr' h' => fr'.length = 62 ∧ h' = h ∧ look fr' 0 = sl m 6 (l.map moV) ∧ look fr' 1 = c1 ∧ look fr' 11 = c11 ∧ look fr' 12 = c12 ∧ look fr' 13 = c13 ∧
      (e = .exit 2 ∧ freshIn l b done = none ∨ e = .ret ∧ ∃ a, freshIn l b done = some a ∧ look fr' 4 = .int .i64 a ∧ look fr' 5 = .int .i64 b ∧ look fr' 6 = .bool false) := by
  have hk := pc_kind m l
  simp only [mosV] at hk
  refine Ends_lp (fun n fr h' => ∃ i, i + n = done.length ∧ h' = h ∧ fr.length = 62 ∧ look fr 0 = sl m 6 (l.map moV) ∧ look fr 1 = c1 ∧ look fr 8 = .int .i64 b ∧ look fr 11 = c11 ∧ look fr 12 = c12 ∧ look fr 13 = c13 ∧
    look fr 20 = sl mm 1 (done.map (AV.int .i64)) ∧ look fr 21 = .int .i64 done.length ∧ look fr 22 = .int .i64 (i : Nat) ∧ freshIn l b (done.drop i) = freshIn l b done) ?_ done.length fr h ⟨0, by omega, rfl, hl, h0, h1, h8, h11, h12, h13, h20, h21, h22, rfl⟩
  clear h0 h1 h8 h11 h12 h13 h20 h21 h22 hl
  rintro n fr h' ⟨i, hi, rfl, hl, h0, h1, h8, h11, h12, h13, h20, h21, h22, hr⟩
  by_cases hlt : i < done.length
  · have hx := nth_map (f := AV.int .i64) (List.getElem?_eq_getElem hlt)
    have hw : IntKind.i64.wrap ((i : Int) + 1) = (i : Int) + 1 := wrap_id (by omega) (by omega)
    rw [List.drop_eq_getElem_cons hlt] at hr
    simp only [freshIn] at hr
    generalize done[i] = a at *
    have yes : clash l a b = true → freshIn l b done = some a := fun hc => by rw [if_pos hc] at hr; exact hr.symm
    have no : ¬clash l a b = true → freshIn l b (done.drop (i + 1)) = freshIn l b done := fun hc => by rw [if_neg hc] at hr; exact hr
    have fwd : ¬clash l a b = true → ∃ m_1, m_1 < n ∧ ∃ i_1, i_1 + m_1 = done.length ∧ (i : Int) + 1 = (i_1 : Nat) ∧ freshIn l b (done.drop i_1) = freshIn l b done := fun hc => ⟨n - 1, by omega, i + 1, by omega, by simp, no hc⟩
    cases hA : atI l a with
    | none =>
      have hc : ¬clash l a b = true := by simp [clash, hA]
      simp [x_goal_Fresh_0, hl, h0, h1, h8, h11, h12, h13, h20, h21, h22, hlt, hx, hw, hk, kindB, hA]
      exact fwd hc
    | some x =>
      obtain ⟨g1, g2, g3, g4⟩ := atI_some hA
      by_cases hxk : x.kind = 5
      case neg =>
        have hc : ¬clash l a b = true := by
          simp only [clash, hA]
          cases atI l b <;> simp [hxk]
        simp [x_goal_Fresh_0, hl, h0, h1, h8, h11, h12, h13, h20, h21, h22, hlt, hx, hw, hk, kindB, hA, hxk]
        exact fwd hc
      cases hB : atI l b with
      | none =>
        have hc : ¬clash l a b = true := by simp [clash, hA, hB]
        simp [x_goal_Fresh_0, hl, h0, h1, h8, h11, h12, h13, h20, h21, h22, hlt, hx, hw, hk, kindB, hA, hxk, hB]
        exact fwd hc
      | some y =>
        obtain ⟨k1, k2, k3, k4⟩ := atI_some hB
        by_cases hyk : y.kind = 5
        case neg =>
          have hc : ¬clash l a b = true := by simp [clash, hA, hB, hyk]
          simp [x_goal_Fresh_0, hl, h0, h1, h8, h11, h12, h13, h20, h21, h22, hlt, hx, hw, hk, kindB, hA, hxk, hB, hyk]
          exact fwd hc
        have hn := nth_map (f := moV) g3
        have hn' := nth_map (f := moV) k3
        have hE := pc_equal x y (hf x g4) (hf y k4)
        simp only [moV] at hn hn' hE
        rw [hxk] at hn hE
        rw [hyk] at hn' hE
        cases hq : eqM x y with
        | false =>
          rw [hq] at hE
          have hc : ¬clash l a b = true := by simp [clash, hA, hB, hq]
          simp [x_goal_Fresh_0, hl, h0, h1, h8, h11, h12, h13, h20, h21, h22, hlt, hx, hw, hk, kindB, hA, hxk, hB, hyk, g1, k1, hn, hn', hE]
          exact fwd hc
        | true =>
          rw [hq] at hE
          by_cases hnum : x.number = y.number
          · have hc : ¬clash l a b = true := by simp [clash, hA, hB, hq, hnum]
            rw [hnum] at hn hE
            simp [x_goal_Fresh_0, hl, h0, h1, h8, h11, h12, h13, h20, h21, h22, hlt, hx, hw, hk, kindB, hA, hxk, hB, hyk, g1, k1, hn, hn', hE, hnum]
            exact fwd hc
          · have hc : clash l a b = true := by simp [clash, hA, hB, hq, hnum, hxk, hyk]
            simp [x_goal_Fresh_0, hl, h0, h1, h8, h11, h12, h13, h20, h21, h22, hlt, hx, hw, hk, kindB, hA, hxk, hB, hyk, g1, k1, hn, hn', hE, hnum]
            exact yes hc
  · have e0 : done.length ≤ i := by omega
    rw [List.drop_eq_nil_of_le e0] at hr
    simp only [freshIn] at hr
    simp [x_goal_Fresh_0, hl, h0, h1, h11, h12, h13, h21, h22, hlt]
    exact hr.symm
end Go.Abs.Q

/- Contracts: two equal claims of different sessions. -/
namespace Go.Abs.Q
attribute [local simp] look_set_ne look_set_eq fin tupled code_loop raw_goal_kind raw_ref27_kind raw_goal_equal raw_ref27_Equal raw_goal_Fresh raw_ref27_Fresh

def freshV (l : List Mo) (cs : List Int) : AV := freshFrom l [] cs

theorem pc_Fresh (m mc : Bool × Bool) (l : List Mo) (hf : fine l) (cs : List Int) (hlen : cs.length ≤ 1099511627776) : pc Q n_goal_Fresh [mosV m l, intsV mc cs] = some (freshV l cs) := by
  refine pcQ res_goal_Fresh rfl (by simp [x_goal_Fresh]) fun fr hl ha => ?_
  have h0 := ha 0
  have h1 := ha 1
  clear ha
  simp [x_goal_Fresh, mosV, intsV] at hl h0 h1
  simp [x_goal_Fresh, hl, h1]
  refine (Ends_lp (Ψ := fun e fr h => fr.length = 62 ∧ h = ⟨[], []⟩ ∧ (e = .exit 0 ∧ freshV l cs = .tup [.int .i64 0, .int .i64 0, .bool true] ∨ e = .ret ∧ ∃ a b, freshV l cs = .tup [.int .i64 a, .int .i64 b, .bool false] ∧ look fr 4 = .int .i64 a ∧ look fr 5 = .int .i64 b ∧ look fr 6 = .bool false))
    (fun n fr h => ∃ i, i + n = cs.length ∧ h = ⟨[], []⟩ ∧ fr.length = 62 ∧ look fr 0 = sl m 6 (l.map moV) ∧ look fr 1 = sl mc 1 (cs.map (AV.int .i64)) ∧ look fr 11 = sl mc 1 (cs.map (AV.int .i64)) ∧ look fr 12 = .int .i64 cs.length ∧ look fr 13 = .int .i64 (i : Nat) ∧ freshFrom l (cs.take i) (cs.drop i) = freshV l cs) ?_ cs.length _ _ ?_).mono ?_
  · rintro n fr h ⟨i, hi, rfl, hl, h0, h1, h11, h12, h13, hr⟩
    by_cases hlt : i < cs.length
    · have hx := nth_map (f := AV.int .i64) (List.getElem?_eq_getElem hlt)
      have hw : IntKind.i64.wrap ((i : Int) + 1) = (i : Int) + 1 := wrap_id (by omega) (by omega)
      have htk : (cs.take i).length = i := by simp; omega
      have hr' : freshFrom l (cs.take i) (cs[i] :: cs.drop (i + 1)) = freshV l cs := by rw [← List.drop_eq_getElem_cons hlt]; exact hr
      have hnext : cs.take (i + 1) = cs.take i ++ [cs[i]] := by rw [List.take_succ_eq_append_getElem hlt]
      simp only [freshFrom] at hr'
      rw [← hnext] at hr'
      generalize cs[i] = b at *
      have hs : slcA ⟨[], []⟩ 1 (sl mc 1 (cs.map (AV.int .i64))) (some none) (some (some (i : Int))) (some none) = some (sl (mc.1 && decide ((i : Int) = (cs.length : Int)), mc.2 || !cs.isEmpty) 1 ((cs.take i).map (AV.int .i64)), ⟨[], []⟩) := by
        rw [slcA_sl _ _ _ (by omega)]
        have : (i : Int) ≤ (cs.length : Int) := by omega
        simp [this, List.map_take]
      simp [x_goal_Fresh_1, hl, h0, h1, h11, h12, h13, hlt, hx, hw, boundA, hs]
      refine (fresh_inner m (mc.1 && decide ((i : Int) = (cs.length : Int)), mc.2 || !cs.isEmpty) l hf b cs hlen (cs.take i) (by omega) (sl mc 1 (cs.map (AV.int .i64))) (sl mc 1 (cs.map (AV.int .i64))) (.int .i64 cs.length) (.int .i64 (i : Nat)) _ _ (by simp [hl]) (by simp [hl, h0]) (by simp [hl, h1]) (by simp [hl]) (by simp [hl, h11]) (by simp [hl, h12]) (by simp [hl, h13]) (by simp [hl]) (by simp [hl]) (by simp [hl])).mono ?_
      rintro e fr' h' ⟨hl', rfl, k0, k1, k11, k12, k13, ⟨rfl, hn⟩ | ⟨rfl, a, ha, k4, k5, k6⟩⟩
      · rw [hn] at hr'
        simp [hl', k0, k1, k11, k12, k13, hw]
        exact ⟨n - 1, by omega, i + 1, by omega, by simp, hr'⟩
      · rw [ha] at hr'
        simp [hl', k4, k5, k6]
        exact hr'.symm
    · have e0 : cs.length ≤ i := by omega
      rw [List.drop_eq_nil_of_le e0] at hr
      simp only [freshFrom] at hr
      simp [x_goal_Fresh_1, hl, h12, h13, hlt]
      exact hr.symm
  · exact ⟨0, by omega, rfl, by simp [hl], by simp [h0], by simp [h1], by simp [hl], by simp [hl], by simp [hl], rfl⟩
  · rintro e fr h ⟨hl, rfl, ⟨rfl, he⟩ | ⟨rfl, a, b, he, h4, h5, h6⟩⟩
    · simp [hl, he]
    · simp [hl, he, h4, h5, h6]
end Go.Abs.Q

/- Contracts: two equal claims of different sessions: the reference's loops. -/
namespace Go.Abs.Q
attribute [local simp] look_set_ne look_set_eq fin tupled code_loop raw_goal_kind raw_ref27_kind raw_goal_equal raw_ref27_Equal raw_goal_Fresh raw_ref27_Fresh

theorem rfresh_inner (m mc : Bool × Bool) (l : List Mo) (hf : fine l) (cs : List Int) (hlen : cs.length ≤ 1099511627776) (k : Nat) (hk0 : k < cs.length) (b : Int) (hb : cs[k]? = some b) (done : List Int) (hdone : done = cs.take k) (fr : Fr) (h : AH) (hl : fr.length = 64)
    (h0 : look fr 0 = sl m 6 (l.map moV)) (h1 : look fr 1 = sl mc 1 (cs.map (AV.int .i64))) (h7 : look fr 7 = .int .i64 (k : Nat)) (h8 : look fr 8 = .int .i64 0) :
    Ends (lp (evalCode (lim Q) (ctxF n_ref27_Fresh) x_ref27_Fresh_0) (fr, h)) fun e fr' h' => fr'.length = 64 ∧ h' = h ∧ look fr' 0 = sl m 6 (l.map moV) ∧ look fr' 1 = sl mc 1 (cs.map (AV.int .i64)) ∧ look fr' 7 = .int .i64 (k : Nat) ∧
      (e = .exit 2 ∧ freshIn l b done = none ∨ e = .ret ∧ ∃ a, freshIn l b done = some a ∧ look fr' 4 = .int .i64 a ∧ look fr' 5 = .int .i64 b ∧ look fr' 6 = .bool false) := by
  have hk := pc_refkind m l
  simp only [mosV] at hk
  have hdl : done.length = k := by rw [hdone]; simp; omega
  have hxb := nth_map (f := AV.int .i64) hb
  refine Ends_lp (fun n fr h' => ∃ i, i + n = done.length ∧ h' = h ∧ fr.length = 64 ∧ look fr 0 = sl m 6 (l.map moV) ∧ look fr 1 = sl mc 1 (cs.map (AV.int .i64)) ∧ look fr 7 = .int .i64 (k : Nat) ∧ look fr 8 = .int .i64 (i : Nat) ∧ freshIn l b (done.drop i) = freshIn l b done) ?_ done.length fr h ⟨0, by omega, rfl, hl, h0, h1, h7, h8, rfl⟩
  clear h0 h1 h7 h8 hl
  rintro n fr h' ⟨i, hi, rfl, hl, h0, h1, h7, h8, hr⟩
  by_cases hlt : i < k
  · have hlt' : i < done.length := by omega
    have hd : cs[i]? = some done[i] := by subst hdone; simp [List.getElem?_eq_getElem (show i < cs.length by omega)]
    have hx := nth_map (f := AV.int .i64) hd
    have hw : IntKind.i64.wrap ((i : Int) + 1) = (i : Int) + 1 := wrap_id (by omega) (by omega)
    rw [List.drop_eq_getElem_cons hlt'] at hr
    simp only [freshIn] at hr
    generalize done[i] = a at *
    have yes : clash l a b = true → freshIn l b done = some a := fun hc => by rw [if_pos hc] at hr; exact hr.symm
    have no : ¬clash l a b = true → freshIn l b (done.drop (i + 1)) = freshIn l b done := fun hc => by rw [if_neg hc] at hr; exact hr
    have fwd : ¬clash l a b = true → ∃ m_1, m_1 < n ∧ ∃ i_1, i_1 + m_1 = done.length ∧ (i : Int) + 1 = (i_1 : Nat) ∧ freshIn l b (done.drop i_1) = freshIn l b done := fun hc => ⟨n - 1, by omega, i + 1, by omega, by simp, no hc⟩
    cases hA : atI l a with
    | none =>
      have hc : ¬clash l a b = true := by simp [clash, hA]
      simp [x_ref27_Fresh_0, hl, h0, h1, h7, h8, hlt, hx, hxb, hw, hk, kindB, hA]
      exact fwd hc
    | some x =>
      obtain ⟨g1, g2, g3, g4⟩ := atI_some hA
      by_cases hxk : x.kind = 5
      case neg =>
        have hc : ¬clash l a b = true := by
          simp only [clash, hA]
          cases atI l b <;> simp [hxk]
        simp [x_ref27_Fresh_0, hl, h0, h1, h7, h8, hlt, hx, hxb, hw, hk, kindB, hA, hxk]
        exact fwd hc
      cases hB : atI l b with
      | none =>
        have hc : ¬clash l a b = true := by simp [clash, hA, hB]
        simp [x_ref27_Fresh_0, hl, h0, h1, h7, h8, hlt, hx, hxb, hw, hk, kindB, hA, hxk, hB]
        exact fwd hc
      | some y =>
        obtain ⟨k1, k2, k3, k4⟩ := atI_some hB
        by_cases hyk : y.kind = 5
        case neg =>
          have hc : ¬clash l a b = true := by simp [clash, hA, hB, hyk]
          simp [x_ref27_Fresh_0, hl, h0, h1, h7, h8, hlt, hx, hxb, hw, hk, kindB, hA, hxk, hB, hyk]
          exact fwd hc
        have hn := nth_map (f := moV) g3
        have hn' := nth_map (f := moV) k3
        have hE := pc_Equal x y (hf x g4) (hf y k4)
        simp only [moV] at hn hn' hE
        rw [hxk] at hn hE
        rw [hyk] at hn' hE
        cases hq : eqM x y with
        | false =>
          rw [hq] at hE
          have hc : ¬clash l a b = true := by simp [clash, hA, hB, hq]
          simp [x_ref27_Fresh_0, hl, h0, h1, h7, h8, hlt, hx, hxb, hw, hk, kindB, hA, hxk, hB, hyk, g1, k1, hn, hn', hE]
          exact fwd hc
        | true =>
          rw [hq] at hE
          by_cases hnum : x.number = y.number
          · have hc : ¬clash l a b = true := by simp [clash, hA, hB, hq, hnum]
            rw [hnum] at hn hE
            simp [x_ref27_Fresh_0, hl, h0, h1, h7, h8, hlt, hx, hxb, hw, hk, kindB, hA, hxk, hB, hyk, g1, k1, hn, hn', hE, hnum]
            exact fwd hc
          · have hc : clash l a b = true := by simp [clash, hA, hB, hq, hnum, hxk, hyk]
            simp [x_ref27_Fresh_0, hl, h0, h1, h7, h8, hlt, hx, hxb, hw, hk, kindB, hA, hxk, hB, hyk, g1, k1, hn, hn', hE, hnum]
            exact yes hc
  · have e0 : done.length ≤ i := by omega
    rw [List.drop_eq_nil_of_le e0] at hr
    simp only [freshIn] at hr
    simp [x_ref27_Fresh_0, hl, h0, h1, h7, h8, hlt]
    exact hr.symm
end Go.Abs.Q

/- Contracts: two equal claims of different sessions, the reference's. -/
namespace Go.Abs.Q
attribute [local simp] look_set_ne look_set_eq fin tupled code_loop raw_ref27_kind raw_ref27_Equal raw_ref27_Fresh

theorem pc_refFresh (m mc : Bool × Bool) (l : List Mo) (hf : fine l) (cs : List Int) (hlen : cs.length ≤ 1099511627776) : pc Q n_ref27_Fresh [mosV m l, intsV mc cs] = some (freshV l cs) := by
  refine pcQ res_ref27_Fresh rfl (by simp [x_ref27_Fresh]) fun fr hl ha => ?_
  have h0 := ha 0
  have h1 := ha 1
  clear ha
  simp [x_ref27_Fresh, mosV, intsV] at hl h0 h1
  simp [x_ref27_Fresh, hl]
  refine (Ends_lp (Ψ := fun e fr h => fr.length = 64 ∧ h = ⟨[], []⟩ ∧ (e = .exit 0 ∧ freshV l cs = .tup [.int .i64 0, .int .i64 0, .bool true] ∨ e = .ret ∧ ∃ a b, freshV l cs = .tup [.int .i64 a, .int .i64 b, .bool false] ∧ look fr 4 = .int .i64 a ∧ look fr 5 = .int .i64 b ∧ look fr 6 = .bool false))
    (fun n fr h => ∃ i, i + n = cs.length ∧ h = ⟨[], []⟩ ∧ fr.length = 64 ∧ look fr 0 = sl m 6 (l.map moV) ∧ look fr 1 = sl mc 1 (cs.map (AV.int .i64)) ∧ look fr 7 = .int .i64 (i : Nat) ∧ freshFrom l (cs.take i) (cs.drop i) = freshV l cs) ?_ cs.length _ _ ?_).mono ?_
  · rintro n fr h ⟨i, hi, rfl, hl, h0, h1, h7, hr⟩
    by_cases hlt : i < cs.length
    · have hw : IntKind.i64.wrap ((i : Int) + 1) = (i : Int) + 1 := wrap_id (by omega) (by omega)
      have hr' : freshFrom l (cs.take i) (cs[i] :: cs.drop (i + 1)) = freshV l cs := by rw [← List.drop_eq_getElem_cons hlt]; exact hr
      have hnext : cs.take (i + 1) = cs.take i ++ [cs[i]] := by rw [List.take_succ_eq_append_getElem hlt]
      simp only [freshFrom] at hr'
      rw [← hnext] at hr'
      have hb : cs[i]? = some cs[i] := List.getElem?_eq_getElem hlt
      generalize cs[i] = b at *
      simp [x_ref27_Fresh_1, hl, h0, h1, h7, hlt]
      refine (rfresh_inner m mc l hf cs hlen i hlt b hb (cs.take i) rfl _ _ (by simp [hl]) (by simp [hl, h0]) (by simp [hl, h1]) (by simp [hl, h7]) (by simp [hl])).mono ?_
      rintro e fr' h' ⟨hl', rfl, k0, k1, k7, ⟨rfl, hn⟩ | ⟨rfl, a, ha, k4, k5, k6⟩⟩
      · rw [hn] at hr'
        simp [hl', k0, k1, k7, hw]
        exact ⟨n - 1, by omega, i + 1, by omega, by simp, hr'⟩
      · rw [ha] at hr'
        simp [hl', k4, k5, k6]
        exact hr'.symm
    · have e0 : cs.length ≤ i := by omega
      rw [List.drop_eq_nil_of_le e0] at hr
      simp only [freshFrom] at hr
      simp [x_ref27_Fresh_1, hl, h0, h1, h7, hlt]
      exact hr.symm
  · exact ⟨0, by omega, rfl, by simp [hl], by simp [h0], by simp [h1], by simp [hl], rfl⟩
  · rintro e fr h ⟨hl, rfl, ⟨rfl, he⟩ | ⟨rfl, a, b, he, h4, h5, h6⟩⟩
    · simp [hl, he]
    · simp [hl, he, h4, h5, h6]
end Go.Abs.Q

/- What code writes to; loops that keep the rest. -/
namespace Go.Abs

/-- The places to which code writes. -/
def RCode.wr : RCode → List Nat
  | .region _ ops => ops.filterMap (·.dst)
  | .seq a b => a.wr ++ b.wr
  | .cond _ a b => a.wr ++ b.wr
  | .block _ a => a.wr
  | .loop a => a.wr
  | _ => []

/-- A frame that differs only at some places. -/
def Kp (ws : List Nat) (fr fr' : Fr) : Prop := fr'.length = fr.length ∧ ∀ j, j ∉ ws → look fr' j = look fr j

theorem Kp.refl (ws : List Nat) (fr : Fr) : Kp ws fr fr := ⟨rfl, fun _ _ => rfl⟩
theorem Kp.trans {ws : List Nat} {a b c : Fr} (h : Kp ws a b) (k : Kp ws b c) : Kp ws a c := ⟨k.1.trans h.1, fun j hj => (k.2 j hj).trans (h.2 j hj)⟩
theorem Kp.mono {ws ws' : List Nat} {a b : Fr} (h : Kp ws a b) (hs : ∀ j, j ∈ ws → j ∈ ws') : Kp ws' a b := ⟨h.1, fun j hj => h.2 j fun k => hj (hs j k)⟩

theorem Kp.put (fr : Fr) (d : Option Nat) (v : AV) {ws : List Nat} (hd : ∀ x, d = some x → x ∈ ws) : Kp ws fr (put fr d v) := by
  cases d with
  | none => exact Kp.refl _ _
  | some d =>
    refine ⟨by simp, fun j hj => ?_⟩
    have hne : d ≠ j := fun e => hj (e ▸ hd d rfl)
    simp [look_set_ne fr v hne]

section
variable {C : Cfg} {c : Ctx}

theorem ops_keep {O : Orc} : ∀ {ros : List RO} {fr : Fr} {h : AH} {x : Fr × AH} {ws : List Nat}, (∀ j, j ∈ ros.filterMap (·.dst) → j ∈ ws) → evalOps O c ros fr h = some x → Kp ws fr x.1
  | [], fr, h, x, ws, _, he => by
    simp only [evalOps] at he
    cases he
    exact Kp.refl _ _
  | o :: ros, fr, h, x, ws, hs, he => by
    have h1 : ∀ y, o.dst = some y → y ∈ ws := fun y hy => hs y (by simp [hy])
    have h2 : ∀ j, j ∈ ros.filterMap (·.dst) → j ∈ ws := fun j hj => hs j (by
      rw [List.filterMap_cons]
      split
      · exact hj
      · exact List.mem_cons_of_mem _ hj)
    simp only [evalOps] at he
    cases hw : wantedA fr o.guard with
    | none => rw [hw] at he; cases he
    | some b =>
      rw [hw] at he
      cases b with
      | false => exact (Kp.put fr o.dst _ h1).trans (ops_keep h2 he)
      | true =>
        dsimp only at he
        cases hop : evalOp O c o.op fr h with
        | none => rw [hop] at he; cases he
        | some y =>
          rw [hop] at he
          exact (Kp.put fr o.dst _ h1).trans (ops_keep h2 he)

theorem iter_keep {step : St → Option (Ex × St)} {ws : List Nat} (hs : ∀ s x, step s = some x → Kp ws s.1 x.2.1) : ∀ (n : Nat) (s : St) (x : Ex × St), iter step n s = some x → Kp ws s.1 x.2.1
  | 0, s, x, he => by simp [iter] at he
  | n + 1, s, x, he => by
    simp only [iter] at he
    cases h1 : step s with
    | none => rw [h1] at he; cases he
    | some y =>
      rw [h1] at he
      have k := hs s y h1
      obtain ⟨e, s'⟩ := y
      cases e with
      | normal => exact k.trans (iter_keep hs n s' x he)
      | exit id => cases he; exact k
      | ret => cases he; exact k

theorem code_keep : ∀ (rc : RCode) (s : St) (x : Ex × St), evalCode (lim C) c rc s = some x → Kp rc.wr s.1 x.2.1 := by
  intro rc
  induction rc with
  | skip => intro s x he; cases he; exact Kp.refl _ _
  | region d ros =>
    intro s x he
    simp only [evalCode] at he
    cases hs : evalOps (lim C) c ros s.1 s.2 with
    | none => rw [hs] at he; cases he
    | some y =>
      rw [hs] at he
      cases he
      exact ops_keep (fun j hj => hj) hs
  | seq a b iha ihb =>
    intro s x he
    simp only [evalCode] at he
    cases hs : evalCode (lim C) c a s with
    | none => rw [hs] at he; cases he
    | some y =>
      rw [hs] at he
      have k := (iha s y hs).mono (ws' := (RCode.seq a b).wr) fun j hj => List.mem_append_left _ hj
      obtain ⟨e, s'⟩ := y
      cases e with
      | normal => exact k.trans ((ihb _ _ he).mono fun j hj => List.mem_append_right _ hj)
      | exit id => cases he; exact k
      | ret => cases he; exact k
  | cond q a b iha ihb =>
    intro s x he
    simp only [evalCode] at he
    split at he
    · exact (iha _ _ he).mono fun j hj => List.mem_append_left _ hj
    · exact (ihb _ _ he).mono fun j hj => List.mem_append_right _ hj
    · cases he
  | block id a ih =>
    intro s x he
    simp only [evalCode] at he
    cases hs : evalCode (lim C) c a s with
    | none => rw [hs] at he; cases he
    | some y =>
      rw [hs] at he
      have k := ih s y hs
      obtain ⟨e, s'⟩ := y
      cases e with
      | normal => cases he; exact k
      | exit i =>
        simp only at he
        split at he <;> cases he <;> exact k
      | ret => cases he; exact k
  | loop a ih =>
    intro s x he
    obtain ⟨n, hn⟩ := lp_iter he
    exact iter_keep ih n s x hn
  | exit id => intro s x he; cases he; exact Kp.refl _ _
  | ret => intro s x he; cases he; exact Kp.refl _ _

theorem Ends_keep {rc : RCode} {ws : List Nat} (hw : rc.wr = ws) {fr : Fr} {h : AH} {Ψ : Ex → Fr → AH → Prop} (H : Ends (evalCode (lim C) c rc (fr, h)) Ψ) : Ends (evalCode (lim C) c rc (fr, h)) fun e fr' h' => Kp ws fr fr' ∧ Ψ e fr' h' := by
  subst hw
  obtain ⟨e, fr', h', he, hp⟩ := H.elim'
  have k := code_keep rc _ _ he
  rw [he]
  exact ⟨k, hp⟩

/-- A loop, by an invariant with a number that falls; what the body does not write to stays. -/
theorem Ends_lpk {body : RCode} {Ψ : Ex → Fr → AH → Prop} {ws : List Nat} (hw : body.wr = ws) (fr0 : Fr) (Inv : Nat → Fr → AH → Prop)
    (H : ∀ n fr h, Kp ws fr0 fr → Inv n fr h → Ends (evalCode (lim C) c body (fr, h)) fun e fr' h' => (e = .normal ∧ ∃ m, m < n ∧ Inv m fr' h') ∨ (e ≠ .normal ∧ Ψ e fr' h'))
    (n : Nat) (h : AH) (hi : Inv n fr0 h) : Ends (lp (evalCode (lim C) c body) (fr0, h)) fun e fr' h' => Kp ws fr0 fr' ∧ Ψ e fr' h' := by
  refine Ends_lp (fun n fr h => Kp ws fr0 fr ∧ Inv n fr h) (fun n fr h ⟨k, hi⟩ => ?_) n fr0 h ⟨Kp.refl _ _, hi⟩
  refine (Ends_keep hw (H n fr h k hi)).mono fun e fr' h' ⟨k', hp⟩ => ?_
  rcases hp with ⟨h1, m, h2, h3⟩ | ⟨h1, h2⟩
  · exact .inl ⟨h1, m, h2, k.trans k', h3⟩
  · exact .inr ⟨h1, k.trans k', h2⟩
end

/-- The same, with the invariant behind a name, so that simp leaves it alone. -/
theorem Ends_lpw {C : Cfg} {c : Ctx} {body : RCode} {Ψ : Ex → Fr → AH → Prop} {ws : List Nat} (hw : body.wr = ws) (fr0 : Fr) (Inv : Nat → Fr → AH → Prop)
    (H : ∀ (J : Nat → Fr → AH → Prop) (Φ : Ex → Fr → AH → Prop), (∀ n fr h, Inv n fr h → J n fr h) → (∀ e fr h, Ψ e fr h → Φ e fr h) → ∀ n fr h, Kp ws fr0 fr → Inv n fr h →
      Ends (evalCode (lim C) c body (fr, h)) fun e fr' h' => (e = .normal ∧ ∃ m, m < n ∧ J m fr' h') ∨ (e ≠ .normal ∧ Φ e fr' h'))
    (n : Nat) (h : AH) (hi : Inv n fr0 h) : Ends (lp (evalCode (lim C) c body) (fr0, h)) fun e fr' h' => Kp ws fr0 fr' ∧ Ψ e fr' h' :=
  Ends_lpk hw fr0 Inv (H Inv Ψ (fun _ _ _ h => h) (fun _ _ _ h => h)) n h hi

/-- At a pure function's end, by what holds of its result. -/
def EFIN (rs : List RRes) (Φ : AV → Prop) : Ex → Fr → AH → Prop
  | .exit _, _, _ => False
  | _, fr, h => ∃ r, fin rs fr h = some r ∧ Φ r
@[simp] theorem EFIN_n (rs : List RRes) (Φ : AV → Prop) (fr : Fr) (h : AH) : EFIN rs Φ .normal fr h = (∃ r, fin rs fr h = some r ∧ Φ r) := _root_.id rfl
@[simp] theorem EFIN_r (rs : List RRes) (Φ : AV → Prop) (fr : Fr) (h : AH) : EFIN rs Φ .ret fr h = (∃ r, fin rs fr h = some r ∧ Φ r) := _root_.id rfl

theorem pc_ends_ex0 {C : Cfg} {f : FuncId} {rf : RFunc} {args : List AV} {Φ : AV → Prop} (hs : C.spec f = none) (hc : C.code f = some rf) (hl : args.length ≤ rf.ntmps)
    (H : ∀ fr : Fr, fr.length = rf.ntmps → (∀ i, look fr i = args.getD i undefA) → Ends (evalCode (lim C) (C.ctx f) rf.body (fr, ⟨[], []⟩)) (EFIN rf.results Φ)) : ∃ r, pc C f args = some r ∧ Φ r := by
  obtain ⟨hl', hlook⟩ := look_start hl
  obtain ⟨e, fr', h', he, hp⟩ := (H _ hl' hlook).elim'
  have key : ∃ r, fin rf.results fr' h' = some r ∧ Φ r := by
    cases e with
    | exit i => exact hp.elim
    | normal => exact hp
    | ret => exact hp
  obtain ⟨r, hr, hΦ⟩ := key
  refine ⟨r, pc_run hs hc hl fun fr h1 h2 => ?_, hΦ⟩
  have hfr : fr = startFr rf args := by
    apply List.ext_getElem (h1.trans hl'.symm)
    intro i g1 g2
    have a := h2 i
    have b := hlook i
    simp only [look, List.getD, List.getElem?_eq_getElem g1, List.getElem?_eq_getElem g2, Option.getD_some] at a b
    exact a.trans b.symm
  subst hfr
  rw [he]
  cases e with
  | exit i => exact hp.elim
  | normal => exact hr
  | ret => exact hr
/-- The same, with what holds of the result behind a name, so that simp leaves it alone. -/
theorem pc_ends_ex {C : Cfg} {f : FuncId} {rf : RFunc} {args : List AV} {Φ : AV → Prop} (hs : C.spec f = none) (hc : C.code f = some rf) (hl : args.length ≤ rf.ntmps)
    (H : ∀ Ψ : AV → Prop, (∀ r, Φ r → Ψ r) → ∀ fr : Fr, fr.length = rf.ntmps → (∀ i, look fr i = args.getD i undefA) → Ends (evalCode (lim C) (C.ctx f) rf.body (fr, ⟨[], []⟩)) (EFIN rf.results Ψ)) : ∃ r, pc C f args = some r ∧ Φ r :=
  pc_ends_ex0 hs hc hl (H Φ fun _ h => h)

@[simp] theorem tame_int (h : AH) (k : IntKind) (n : Int) : tame h (.int k n) = true := _root_.id rfl
@[simp] theorem tame_bool (h : AH) (b : Bool) : tame h (.bool b) = true := _root_.id rfl
@[simp] theorem tame_str (h : AH) (s : ByteArray) : tame h (.str s) = true := _root_.id rfl
@[simp] theorem tame_agg (h : AH) (cs : List AV) : tame h (.agg cs) = cs.all (tame1 h) := _root_.id rfl
@[simp] theorem tame1_int (h : AH) (k : IntKind) (n : Int) : tame1 h (.int k n) = true := _root_.id rfl
@[simp] theorem tame1_bool (h : AH) (b : Bool) : tame1 h (.bool b) = true := _root_.id rfl
@[simp] theorem tame1_str (h : AH) (s : ByteArray) : tame1 h (.str s) = true := _root_.id rfl
@[simp] theorem tame_vs (h : AH) (f : Bool) (sz : Nat) (xs : List AV) : tame h (.vs f sz xs) = true := _root_.id rfl
@[simp] theorem tame1_vs (h : AH) (f : Bool) (sz : Nat) (xs : List AV) : tame1 h (.vs f sz xs) = true := _root_.id rfl
@[simp] theorem isTup_view (k n off len : Nat) : (AV.sl k n off len).isTup = false := _root_.id rfl
@[simp] theorem cells_view (k n off len : Nat) : (AV.sl k n off len).cells = [.sl k n off len] := _root_.id rfl
@[simp] theorem isTup_ptr (b off : Nat) : (AV.ptr b off).isTup = false := _root_.id rfl
@[simp] theorem cells_ptr (b off : Nat) : (AV.ptr b off).cells = [.ptr b off] := _root_.id rfl
@[simp] theorem isTup_vs (f : Bool) (sz : Nat) (xs : List AV) : (AV.vs f sz xs).isTup = false := _root_.id rfl
@[simp] theorem cells_vs (f : Bool) (sz : Nat) (xs : List AV) : (AV.vs f sz xs).cells = [.vs f sz xs] := _root_.id rfl
end Go.Abs

/- Contracts: is a number, a string in a list? -/
namespace Go.Abs.Q
attribute [local simp] look_set_ne look_set_eq fin tupled code_loop raw_slices_Index_int raw_slices_Contains_int raw_slices_Index_string raw_slices_Contains_string raw_ref15_find

theorem slc_drop (h : AH) (m : Bool × Bool) (sz : Nat) (hsz : 0 < sz) (xs : List AV) (k : Nat) (hk : k ≤ xs.length) :
    slcA h sz (sl m sz xs) (some (some (k : Int))) (some none) (some none) = some (sl (m.1, m.2 || !xs.isEmpty) sz (xs.drop k), h) := by
  rw [slcA_sl _ _ _ hsz]
  have e : ((xs.length : Int) - (k : Int)).toNat = xs.length - k := by omega
  simp only [Option.getD_some, Option.getD_none, decide_true, Bool.and_true, Int.toNat_natCast, e]
  rw [if_pos ⟨by omega, by omega, by omega⟩, List.take_of_length_le (by simp)]
theorem slc_take (h : AH) (m : Bool × Bool) (sz : Nat) (hsz : 0 < sz) (xs : List AV) (k : Nat) (hk : k ≤ xs.length) :
    slcA h sz (sl m sz xs) (some none) (some (some (k : Int))) (some none) = some (sl (m.1 && decide (k = xs.length), m.2 || !xs.isEmpty) sz (xs.take k), h) := by
  rw [slcA_sl _ _ _ hsz]
  have e : decide ((k : Int) = (xs.length : Int)) = decide (k = xs.length) := by
    rw [Bool.eq_iff_iff]
    simp only [decide_eq_true_eq]
    omega
  simp only [Option.getD_some, Option.getD_none, Int.sub_zero, Int.toNat_natCast, e, Int.toNat_zero, List.drop_zero]
  rw [if_pos ⟨by omega, by omega, by omega⟩]

/-- The place of the first one that is so, or -1. -/
def idxFrom {α : Type} (p : α → Bool) : Nat → List α → Int
  | _, [] => -1
  | i, a :: r => if p a = true then (i : Int) else idxFrom p (i + 1) r
def idx {α : Type} (p : α → Bool) (l : List α) : Int := idxFrom p 0 l

theorem idxFrom_ge {α : Type} (p : α → Bool) : ∀ (l : List α) (i : Nat), (0 ≤ idxFrom p i l) ↔ l.any p = true
  | [], i => by simp [idxFrom]
  | a :: l, i => by
    simp only [idxFrom, List.any_cons, Bool.or_eq_true]
    by_cases h : p a = true
    · simp [h]
    · rw [if_neg h, idxFrom_ge p l (i + 1)]
      simp [h]

theorem loop_Index_int (m : Bool × Bool) (l : List Int) (x : Int) (hlen : l.length ≤ 1099511627776) (fr : Fr) (h : AH) (hl : fr.length = 19)
    (h0 : look fr 0 = sl m 1 (l.map (AV.int .i64))) (h1 : look fr 1 = .int .i64 x) (h7 : look fr 7 = .int .i64 l.length) (h8 : look fr 8 = .int .i64 0) :
    Ends (lp (evalCode (lim Q) (ctxF n_slices_Index_int) x_slices_Index_int_0) (fr, h)) fun e fr' h' => Kp x_slices_Index_int_0.wr fr fr' ∧ (e = .exit 0 ∧ idx (fun a => decide (x = a)) l = -1 ∨ e = .ret ∧ look fr' 4 = .int .i64 (idx (fun a => decide (x = a)) l)) := by
  refine Ends_lpk rfl fr (fun n fr h => ∃ i, i + n = l.length ∧ look fr 8 = .int .i64 (i : Nat) ∧ idxFrom (fun a => decide (x = a)) i (l.drop i) = idx (fun a => decide (x = a)) l) ?_ l.length h ⟨0, by omega, h8, rfl⟩
  rintro n fr1 h1' K ⟨i, hi, k8, hr⟩
  have hl1 : fr1.length = 19 := K.1.trans hl
  have k0 := (K.2 0 (by decide)).trans h0
  have k1 := (K.2 1 (by decide)).trans h1
  have k7 := (K.2 7 (by decide)).trans h7
  by_cases hlt : i < l.length
  · have hx := nth_map (f := AV.int .i64) (List.getElem?_eq_getElem hlt)
    have hw : IntKind.i64.wrap ((i : Int) + 1) = (i : Int) + 1 := wrap_id (by omega) (by omega)
    rw [List.drop_eq_getElem_cons hlt] at hr
    simp only [idxFrom] at hr
    generalize l[i] = a at *
    by_cases hc : x = a
    · rw [if_pos (by simpa using hc)] at hr
      simp [x_slices_Index_int_0, hl1, k0, k1, k7, k8, hlt, hx, hw, hc]
      rw [← hc]; exact hr
    · rw [if_neg (by simpa using hc)] at hr
      simp [x_slices_Index_int_0, hl1, k0, k1, k7, k8, hlt, hx, hw, hc]
      exact ⟨n - 1, by omega, i + 1, by omega, by simp, hr⟩
  · rw [List.drop_eq_nil_of_le (by omega)] at hr
    simp [x_slices_Index_int_0, hl1, k7, k8, hlt]
    exact hr.symm

theorem pc_IndexInt (m : Bool × Bool) (l : List Int) (x : Int) (hlen : l.length ≤ 1099511627776) : pc Q n_slices_Index_int [intsV m l, .int .i64 x] = some (.int .i64 (idx (fun a => decide (x = a)) l)) := by
  refine pcQ res_slices_Index_int rfl (by simp [x_slices_Index_int]) fun fr hl ha => ?_
  have h0 := ha 0
  have h1 := ha 1
  clear ha
  simp [x_slices_Index_int, intsV] at hl h0 h1
  simp [x_slices_Index_int, hl, h0]
  refine (loop_Index_int m l x hlen _ _ (by simp [hl]) (by simp [hl, h0]) (by simp [hl, h1]) (by simp [hl]) (by simp [hl])).mono ?_
  rintro e fr' h' ⟨K, ⟨rfl, he⟩ | ⟨rfl, h4⟩⟩
  · have hl' : fr'.length = 19 := K.1.trans (by simp [hl])
    simp [hl', he]
  · simp [h4]

theorem pc_ContainsInt (m : Bool × Bool) (l : List Int) (x : Int) (hlen : l.length ≤ 1099511627776) : pc Q n_slices_Contains_int [intsV m l, .int .i64 x] = some (.bool (l.contains x)) := by
  have hI := pc_IndexInt m l x hlen
  have he : decide (0 ≤ idx (fun a => decide (x = a)) l) = l.contains x := by
    rw [Bool.eq_iff_iff, decide_eq_true_iff, idx, idxFrom_ge]
    simp
  refine pcQ res_slices_Contains_int rfl (by simp [x_slices_Contains_int]) fun fr hl ha => ?_
  have h0 := ha 0
  have h1 := ha 1
  clear ha
  simp [x_slices_Contains_int, intsV] at hl h0 h1 hI
  simp [x_slices_Contains_int, hl, h0, h1, hI]
  simpa using he
end Go.Abs.Q

/- Augmenting paths, with no program in sight: what a search changes, and that it fails only where there is no assignment. -/
namespace Go.Abs.Q

/-- A search for a partner of i, from b on; t: what has been tried; k: by which a place is taken. -/
inductive Run (F : Nat → Nat → Bool) (n : Nat) : Nat → Nat → List Bool → List Int → Bool → List Bool → List Int → Prop
  | stop {i b : Nat} {t : List Bool} {k : List Int} : n ≤ b → Run F n i b t k false t k
  | skip {i b : Nat} {t t' : List Bool} {k k' : List Int} {r : Bool} : b < n → (t[b]? = some true ∨ F b i = false) → Run F n i (b + 1) t k r t' k' → Run F n i b t k r t' k'
  | free {i b : Nat} {t : List Bool} {k : List Int} {z : Int} : b < n → t[b]? = some false → F b i = true → k[b]? = some z → z < 0 → Run F n i b t k true (t.set b true) (k.set b (i : Int))
  | move {i b j : Nat} {t t' : List Bool} {k k' : List Int} : b < n → t[b]? = some false → F b i = true → k[b]? = some (j : Int) → Run F n j 0 (t.set b true) k true t' k' → Run F n i b t k true t' (k'.set b (i : Int))
  | fail {i b j : Nat} {t t1 t' : List Bool} {k k1 k' : List Int} {r : Bool} : b < n → t[b]? = some false → F b i = true → k[b]? = some (j : Int) → Run F n j 0 (t.set b true) k false t1 k1 → Run F n i (b + 1) t1 k1 r t' k' → Run F n i b t k r t' k'

section
variable {F : Nat → Nat → Bool} {n : Nat}

theorem Run.lens {i b : Nat} {t t' : List Bool} {k k' : List Int} {r : Bool} (h : Run F n i b t k r t' k') : t'.length = t.length ∧ k'.length = k.length := by
  induction h with
  | stop => exact ⟨rfl, rfl⟩
  | skip _ _ _ ih => exact ih
  | free => simp
  | move _ _ _ _ _ ih => simpa using ih
  | fail _ _ _ _ _ _ ih1 ih2 => simp at ih1; exact ⟨by omega, by omega⟩

theorem set_true {t : List Bool} {b b' : Nat} (h : t[b']? = some true) : (t.set b true)[b']? = some true := by
  rw [List.getElem?_set]
  split
  · rename_i e
    subst e
    rw [if_pos (List.getElem?_eq_some_iff.1 h).1]
  · exact h

theorem set_self {t : List Bool} {b : Nat} {x : Bool} (h : t[b]? = some x) : (t.set b true)[b]? = some true := by
  rw [List.getElem?_set, if_pos rfl, if_pos (List.getElem?_eq_some_iff.1 h).1]

theorem Run.grow {i b : Nat} {t t' : List Bool} {k k' : List Int} {r : Bool} (h : Run F n i b t k r t' k') : ∀ b' : Nat, t[b']? = some true → t'[b']? = some true := by
  induction h with
  | stop => exact fun _ h => h
  | skip _ _ _ ih => exact ih
  | free => exact fun _ h => set_true h
  | move _ _ _ _ _ ih => exact fun b' h => ih b' (set_true h)
  | fail _ _ _ _ _ _ ih1 ih2 => exact fun b' h => ih2 b' (ih1 b' (set_true h))

theorem Run.keep {i b : Nat} {t t' : List Bool} {k k' : List Int} {r : Bool} (h : Run F n i b t k r t' k') : ∀ b' : Nat, t[b']? = some true → k'[b']? = k[b']? := by
  induction h with
  | stop => exact fun _ _ => rfl
  | skip _ _ _ ih => exact ih
  | @free i b t k z _ hb _ _ _ =>
    intro b' h
    have hne : b ≠ b' := fun e => by subst e; rw [hb] at h; cases h
    exact List.getElem?_set_ne hne
  | @move i b j t t' k k' _ hb _ _ _ ih =>
    intro b' h
    have hne : b ≠ b' := fun e => by subst e; rw [hb] at h; cases h
    rw [List.getElem?_set_ne hne]
    exact ih b' (set_true h)
  | @fail i b j t t1 t' k k1 k' r _ hb _ _ h1 _ ih1 ih2 => exact fun b' h => (ih2 b' (h1.grow b' (set_true h))).trans (ih1 b' (set_true h))

theorem Run.same {i b : Nat} {t t' : List Bool} {k k' : List Int} {r : Bool} (h : Run F n i b t k r t' k') : r = false → k' = k := by
  induction h with
  | stop => exact fun _ => rfl
  | skip _ _ _ ih => exact ih
  | free => exact fun h => by cases h
  | move => exact fun h => by cases h
  | fail _ _ _ _ _ _ ih1 ih2 => exact fun h => (ih2 h).trans (ih1 rfl)

theorem count_set' {k : List Int} {b : Nat} {z : Int} (h : k[b]? = some z) (x y : Int) : (k.set b x).count y + (if z = y then 1 else 0) = k.count y + (if x = y then 1 else 0) := by
  induction k generalizing b with
  | nil => simp at h
  | cons a k ih =>
    cases b with
    | zero =>
      simp at h
      subst h
      simp only [List.set_cons_zero, List.count_cons, beq_iff_eq]
      omega
    | succ b =>
      have := ih (b := b) (by simpa using h)
      simp only [List.set_cons_succ, List.count_cons, beq_iff_eq]
      omega

theorem Run.count {i b : Nat} {t t' : List Bool} {k k' : List Int} {r : Bool} (h : Run F n i b t k r t' k') : r = true → ∀ j : Nat, k'.count (j : Int) = k.count (j : Int) + (if i = j then 1 else 0) := by
  induction h with
  | stop => exact fun h => by cases h
  | skip _ _ _ ih => exact ih
  | @free i b t k z _ hb _ hk hz =>
    intro _ j
    have := count_set' hk (i : Int) (j : Int)
    have hz' : z ≠ (j : Int) := by omega
    have e : ((i : Int) = (j : Int)) = (i = j) := propext ⟨fun h => by omega, fun h => by omega⟩
    rw [if_neg hz'] at this
    simp only [e] at this
    omega
  | @move i b j t t' k k' _ hb _ hk hr ih =>
    intro _ q
    have h1 := ih rfl q
    have h2 : k'[b]? = some (j : Int) := (hr.keep b (set_self hb)).trans hk
    have h3 := count_set' h2 (i : Int) (q : Int)
    have e : ((i : Int) = (q : Int)) = (i = q) := propext ⟨fun h => by omega, fun h => by omega⟩
    have e' : ((j : Int) = (q : Int)) = (j = q) := propext ⟨fun h => by omega, fun h => by omega⟩
    simp only [e, e'] at h3
    omega
  | @fail i b j t t1 t' k k1 k' r _ hb _ hk h1 _ ih1 ih2 =>
    intro hr q
    rw [ih2 hr q, h1.same rfl]

/-- Each place is free, or taken by a number below m that fits. -/
def Fit (F : Nat → Nat → Bool) (m : Nat) (k : List Int) : Prop := ∀ b z, k[b]? = some z → z < 0 ∨ ∃ j : Nat, z = (j : Int) ∧ j < m ∧ F b j = true

theorem Fit.set {m : Nat} {k : List Int} (h : Fit F m k) {b i : Nat} (hi : i < m) (hF : F b i = true) : Fit F m (k.set b (i : Int)) := by
  intro b' z hz
  rw [List.getElem?_set] at hz
  split at hz
  · rename_i e
    subst e
    split at hz
    · cases hz
      exact .inr ⟨i, rfl, hi, hF⟩
    · cases hz
  · exact h b' z hz

theorem Run.fit {m i b : Nat} {t t' : List Bool} {k k' : List Int} {r : Bool} (h : Run F n i b t k r t' k') : i < m → Fit F m k → Fit F m k' := by
  induction h with
  | stop => exact fun _ h => h
  | skip _ _ _ ih => exact ih
  | free _ _ hF _ _ => exact fun hi h => h.set hi hF
  | move _ _ hF hk _ ih =>
    intro hi h
    have hj := h _ _ hk
    rcases hj with hj | ⟨j', e, hj, _⟩
    · omega
    · have := Int.ofNat.inj e
      subst this
      exact (ih hj h).set hi hF
  | fail _ _ _ hk h1 _ _ ih2 =>
    intro hi h
    rw [h1.same rfl] at ih2
    exact ih2 hi h

/-- A search that fails: all that fits is tried, and taken by those of which the same holds. -/
theorem Run.closed {i b : Nat} {t t' : List Bool} {k k' : List Int} {r : Bool} (h : Run F n i b t k r t' k') : r = false →
    (∀ b' : Nat, b ≤ b' → b' < n → F b' i = true → t'[b']? = some true) ∧
    ∀ b' : Nat, t'[b']? = some true → t[b']? = some true ∨ ∃ j : Nat, k[b']? = some (j : Int) ∧ ∀ b'' : Nat, b'' < n → F b'' j = true → t'[b'']? = some true := by
  induction h with
  | stop h => exact fun _ => ⟨fun b' h1 h2 _ => by omega, fun b' h => .inl h⟩
  | @skip i b t t' k k' r hb hs hr ih =>
    intro h
    obtain ⟨h1, h2⟩ := ih h
    refine ⟨fun b' g1 g2 g3 => ?_, h2⟩
    by_cases e : b = b'
    · subst e
      rcases hs with hs | hs
      · exact hr.grow b hs
      · rw [hs] at g3; cases g3
    · exact h1 b' (by omega) g2 g3
  | free => exact fun h => by cases h
  | move => exact fun h => by cases h
  | @fail i b j t t1 t' k k1 k' r hb ht hF hk hr1 hr2 ih1 ih2 =>
    intro h
    obtain ⟨p1, p2⟩ := ih1 rfl
    obtain ⟨q1, q2⟩ := ih2 h
    rw [hr1.same rfl] at q2
    refine ⟨fun b' g1 g2 g3 => ?_, fun b' hb' => ?_⟩
    · by_cases e : b = b'
      · subst e
        exact hr2.grow b (hr1.grow b (set_self ht))
      · exact q1 b' (by omega) g2 g3
    · rcases q2 b' hb' with hq | hq
      · rcases p2 b' hq with hp | ⟨j', e1, e2⟩
        · by_cases e : b = b'
          · subst e
            exact .inr ⟨j, hk, fun b'' g1 g2 => hr2.grow b'' (p1 b'' (by omega) g1 g2)⟩
          · rw [List.getElem?_set_ne e] at hp
            exact .inl hp
        · exact .inr ⟨j', e1, fun b'' g1 g2 => hr2.grow b'' (e2 b'' g1 g2)⟩
      · exact .inr hq

/-- The first i have partners. -/
structure Good (F : Nat → Nat → Bool) (n i : Nat) (k : List Int) : Prop where
  len : k.length = n
  fit : Fit F i k
  one : ∀ j : Nat, j < i → k.count (j : Int) = 1

theorem Good.start : Good F n 0 (List.replicate n (-1)) := by
  refine ⟨by simp, fun b z h => ?_, fun j hj => by omega⟩
  rw [List.getElem?_replicate] at h
  split at h
  · cases h; exact .inl (by omega)
  · cases h

theorem Good.step {i : Nat} {t t' : List Bool} {k k' : List Int} (g : Good F n i k) (h : Run F n i 0 t k true t' k') : Good F n (i + 1) k' := by
  refine ⟨h.lens.2.trans g.len, h.fit (by omega) fun b z hz => ?_, fun j hj => ?_⟩
  · rcases g.fit b z hz with h1 | ⟨j, e, h1, h2⟩
    · exact .inl h1
    · exact .inr ⟨j, e, by omega, h2⟩
  · rw [h.count rfl j]
    by_cases e : i = j
    · subst e
      have : k.count (i : Int) = 0 := by
        rw [List.count_eq_zero]
        intro hm
        obtain ⟨b, hb⟩ := List.mem_iff_getElem?.1 hm
        rcases g.fit b _ hb with h1 | ⟨j, e, h1, h2⟩
        · omega
        · omega
      rw [this, if_pos rfl]
    · rw [if_neg e, g.one j (by omega)]

theorem count_two {k : List Int} {z : Int} : ∀ {b b' : Nat}, b < b' → k[b]? = some z → k[b']? = some z → 2 ≤ k.count z := by
  induction k with
  | nil => intro b b' _ h; simp at h
  | cons a k ih =>
    intro b b' hlt h h'
    cases b' with
    | zero => omega
    | succ b' =>
      simp only [List.count_cons, beq_iff_eq]
      cases b with
      | zero =>
        simp at h h'
        subst h
        have : 0 < k.count a := List.count_pos_iff.2 (List.mem_of_getElem? h')
        rw [if_pos rfl]
        omega
      | succ b =>
        have := ih (b := b) (b' := b') (by omega) (by simpa using h) (by simpa using h')
        omega

theorem count_one {k : List Int} {z : Int} (h : k.count z = 1) {b b' : Nat} (h1 : k[b]? = some z) (h2 : k[b']? = some z) : b = b' := by
  rcases Nat.lt_trichotomy b b' with hlt | e | hlt
  · have := count_two hlt h1 h2; omega
  · exact e
  · have := count_two hlt h2 h1; omega

theorem nodup_le {α : Type} [DecidableEq α] : ∀ {l r : List α}, l.Nodup → (∀ x ∈ l, x ∈ r) → l.length ≤ r.length
  | [], _, _, _ => by simp
  | a :: l, r, hn, hs => by
    rw [List.nodup_cons] at hn
    have := nodup_le (l := l) (r := r.erase a) hn.2 fun x hx => by
      have hne : x ≠ a := fun e => hn.1 (e ▸ hx)
      exact (List.mem_erase_of_ne hne).2 (hs x (by simp [hx]))
    have h2 := List.length_erase_of_mem (hs a (by simp))
    have h3 := List.length_pos_of_mem (hs a (by simp))
    simp only [List.length_cons]
    omega

theorem nodup_map {α β : Type} {f : α → β} : ∀ {l : List α}, l.Nodup → (∀ x ∈ l, ∀ y ∈ l, f x = f y → x = y) → (l.map f).Nodup
  | [], _, _ => by simp
  | a :: l, hn, hi => by
    rw [List.nodup_cons] at hn
    rw [List.map_cons, List.nodup_cons]
    refine ⟨fun hm => ?_, nodup_map hn.2 fun x hx y hy => hi x (by simp [hx]) y (by simp [hy])⟩
    obtain ⟨x, hx, e⟩ := List.mem_map.1 hm
    have := hi x (by simp [hx]) a (by simp) e
    exact hn.1 (this ▸ hx)

/-- The first i have different partners. -/
def Matched (F : Nat → Nat → Bool) (n i : Nat) (g : Nat → Nat) : Prop := (∀ j, j < i → g j < n ∧ F (g j) j = true) ∧ ∀ j j', j < i → j' < i → g j = g j' → j = j'

theorem Good.fail {i : Nat} {t' : List Bool} {k k' : List Int} (g : Good F n i k) (h : Run F n i 0 (List.replicate n false) k false t' k') (p : Nat → Nat) : ¬Matched F n (i + 1) p := by
  rintro ⟨m1, m2⟩
  obtain ⟨c1, c2⟩ := h.closed rfl
  have c2' : ∀ b' : Nat, t'[b']? = some true → ∃ j : Nat, k[b']? = some (j : Int) ∧ ∀ b'' : Nat, b'' < n → F b'' j = true → t'[b'']? = some true := by
    intro b' hb'
    rcases c2 b' hb' with h1 | h1
    · rw [List.getElem?_replicate] at h1
      split at h1 <;> cases h1
    · exact h1
  let T := (List.range n).filter fun b => t'[b]? == some true
  have hT : ∀ b, b ∈ T ↔ b < n ∧ t'[b]? = some true := fun b => by simp [T]
  let q : Nat → Nat := fun b => ((k[b]?).getD 0).toNat
  have hq : ∀ b ∈ T, ∃ j : Nat, k[b]? = some (j : Int) ∧ q b = j ∧ j < i ∧ ∀ b'', b'' < n → F b'' j = true → b'' ∈ T := by
    intro b hb
    obtain ⟨j, e, hj⟩ := c2' b ((hT b).1 hb).2
    refine ⟨j, e, by simp [q, e], ?_, fun b'' h1 h2 => (hT b'').2 ⟨h1, hj b'' h1 h2⟩⟩
    rcases g.fit b _ e with h1 | ⟨j', e', h1, _⟩
    · omega
    · omega
  have hTn : T.Nodup := List.Pairwise.filter _ List.nodup_range
  have hL : (i :: T.map q).Nodup := by
    rw [List.nodup_cons]
    refine ⟨fun hm => ?_, nodup_map hTn fun x hx y hy e => ?_⟩
    · obtain ⟨b, hb, e⟩ := List.mem_map.1 hm
      obtain ⟨j, _, e', hj, _⟩ := hq b hb
      omega
    · obtain ⟨j, e1, e2, hj, _⟩ := hq x hx
      obtain ⟨j', e1', e2', hj', _⟩ := hq y hy
      have : j = j' := by omega
      subst this
      exact count_one (g.one j hj) e1 e1'
  have hlt : ∀ j ∈ i :: T.map q, j < i + 1 := by
    intro j hj
    rcases List.mem_cons.1 hj with rfl | hj
    · omega
    · obtain ⟨b, hb, rfl⟩ := List.mem_map.1 hj
      obtain ⟨j, _, e', hj, _⟩ := hq b hb
      omega
  have hM : ((i :: T.map q).map p).Nodup := nodup_map hL fun x hx y hy e => m2 x y (hlt x hx) (hlt y hy) e
  have hle := nodup_le (r := T) hM fun x hx => by
    obtain ⟨j, hj, rfl⟩ := List.mem_map.1 hx
    obtain ⟨g1, g2⟩ := m1 j (hlt j hj)
    rcases List.mem_cons.1 hj with rfl | hj
    · exact (hT _).2 ⟨g1, c1 _ (by omega) g1 g2⟩
    · obtain ⟨b, hb, rfl⟩ := List.mem_map.1 hj
      obtain ⟨j, _, e', hj, hF⟩ := hq b hb
      rw [e'] at g1 g2 ⊢
      exact hF _ g1 g2
  simp at hle
  omega

theorem Good.place {i : Nat} {k : List Int} (g : Good F n i k) {j : Nat} (hj : j < i) : ∃ b, k[b]? = some (j : Int) ∧ b < n ∧ F b j = true := by
  have h1 := g.one j hj
  have h2 : (j : Int) ∈ k := List.count_pos_iff.1 (by omega)
  obtain ⟨b, hb⟩ := List.mem_iff_getElem?.1 h2
  refine ⟨b, hb, ?_, ?_⟩
  · have := (List.getElem?_eq_some_iff.1 hb).1
    have := g.len
    omega
  · rcases g.fit b _ hb with h1 | ⟨j', e', h1, h2⟩
    · omega
    · have := Int.ofNat.inj e'
      subst this
      exact h2
end
end Go.Abs.Q

/- Right assignments, with no program in sight. -/
namespace Go.Abs.Q

/-- Begins for claims, in order; done: the Begins that are given. -/
def rightFrom (l : List Mo) (done : List Int) : List Int → List Int → Bool
  | [], [] => true
  | c :: cs, b :: bs => fitsB l b c && !done.contains b && rightFrom l (done ++ [b]) cs bs
  | _, _ => false
def rightB (l : List Mo) (cs bs : List Int) : Bool := rightFrom l [] cs bs
theorem rightFrom_len {l : List Mo} : ∀ {cs bs done : List Int}, rightFrom l done cs bs = true → cs.length = bs.length
  | [], [], _, _ => rfl
  | [], _ :: _, _, h => by simp [rightFrom] at h
  | _ :: _, [], _, h => by simp [rightFrom] at h
  | c :: cs, b :: bs, done, h => by
    simp only [rightFrom, Bool.and_eq_true] at h
    simp [rightFrom_len h.2]

theorem right_iff {l : List Mo} : ∀ {cs bs done : List Int}, rightFrom l done cs bs = true ↔ cs.length = bs.length ∧ (∀ (i : Nat) (c b : Int), cs[i]? = some c → bs[i]? = some b → fitsB l b c = true) ∧ bs.Nodup ∧ ∀ b ∈ bs, b ∉ done
  | [], [], _ => by simp [rightFrom]
  | [], _ :: _, _ => by simp [rightFrom]
  | _ :: _, [], _ => by simp [rightFrom]
  | c :: cs, b :: bs, done => by
    simp only [rightFrom, Bool.and_eq_true, right_iff (cs := cs) (bs := bs) (done := done ++ [b])]
    constructor
    · rintro ⟨⟨h1, h2⟩, h3, h4, h5, h6⟩
      refine ⟨by simp [h3], fun i c' b' hc hb => ?_, ?_, ?_⟩
      · cases i with
        | zero => simp at hc hb; subst hc hb; exact h1
        | succ i => exact h4 i c' b' (by simpa using hc) (by simpa using hb)
      · rw [List.nodup_cons]
        exact ⟨fun hm => h6 b hm (by simp), h5⟩
      · intro x hx
        rcases List.mem_cons.1 hx with rfl | hx
        · simpa using h2
        · exact fun hm => h6 x hx (by simp [hm])
    · rintro ⟨h1, h2, h3, h4⟩
      rw [List.nodup_cons] at h3
      refine ⟨⟨h2 0 c b rfl rfl, by simpa using h4 b (by simp)⟩, by simpa using h1, fun i c' b' hc hb => h2 (i + 1) c' b' (by simpa using hc) (by simpa using hb), h3.2, fun x hx hm => ?_⟩
      rcases List.mem_append.1 hm with hm | hm
      · exact h4 x (by simp [hx]) hm
      · simp at hm
        subst hm
        exact h3.1 hx

theorem nodup_inj {l : List Int} : l.Nodup → ∀ {i j : Nat} {a : Int}, l[i]? = some a → l[j]? = some a → i = j := by
  induction l with
  | nil => intro _ i j a h; simp at h
  | cons x l ih =>
    intro hn i j a hi hj
    rw [List.nodup_cons] at hn
    cases i with
    | zero =>
      cases j with
      | zero => rfl
      | succ j =>
        simp at hi hj
        subst hi
        exact absurd (List.mem_of_getElem? hj) hn.1
    | succ i =>
      cases j with
      | zero =>
        simp at hi hj
        subst hj
        exact absurd (List.mem_of_getElem? hi) hn.1
      | succ j => rw [ih hn.2 (i := i) (j := j) (by simpa using hi) (by simpa using hj)]
theorem nodup_of {l : List Int} : (∀ (i j : Nat) (a : Int), l[i]? = some a → l[j]? = some a → i = j) → l.Nodup := by
  induction l with
  | nil => intro _; simp
  | cons x l ih =>
    intro h
    rw [List.nodup_cons]
    refine ⟨fun hm => ?_, ih fun i j a hi hj => by have := h (i + 1) (j + 1) a (by simpa using hi) (by simpa using hj); omega⟩
    obtain ⟨i, hi⟩ := List.mem_iff_getElem?.1 hm
    have := h 0 (i + 1) x rfl (by simpa using hi)
    omega

/-- Is there a right assignment? -/
def Poss (l : List Mo) (cs : List Int) : Prop := ∃ bs, rightB l cs bs = true

theorem rightB_iff {l : List Mo} {cs bs : List Int} : rightB l cs bs = true ↔ cs.length = bs.length ∧ (∀ (i : Nat) (c b : Int), cs[i]? = some c → bs[i]? = some b → fitsB l b c = true) ∧ bs.Nodup := by
  unfold rightB
  rw [right_iff]
  simp

/-- Does the moment at b fit the claim at place i? -/
def FF (l : List Mo) (cs : List Int) (b i : Nat) : Bool := match cs[i]? with | some c => fitsB l (b : Int) c | none => false

theorem fitsB_bnd {l : List Mo} {b c : Int} (h : fitsB l b c = true) : 0 ≤ b ∧ b < l.length ∧ 0 ≤ c ∧ c < l.length ∧ kindB l c 5 = true := by
  unfold fitsB at h
  cases hx : atI l b with
  | none => rw [hx] at h; simp at h
  | some x =>
    cases hy : atI l c with
    | none => rw [hx, hy] at h; simp at h
    | some y =>
      rw [hx, hy] at h
      simp at h
      obtain ⟨g1, g2, _⟩ := atI_some hx
      obtain ⟨k1, k2, _⟩ := atI_some hy
      exact ⟨g1, g2, k1, k2, by simp [kindB, hy, h.1.1.2]⟩

/-- An assignment, as a function. -/
theorem matched_of {l : List Mo} {cs bs : List Int} (h : rightB l cs bs = true) : Matched (FF l cs) l.length cs.length fun j => ((bs[j]?).getD 0).toNat := by
  obtain ⟨h1, h2, h3⟩ := rightB_iff.1 h
  have key : ∀ j, j < cs.length → ∃ b : Int, bs[j]? = some b ∧ 0 ≤ b ∧ b < l.length ∧ FF l cs b.toNat j = true := by
    intro j hj
    have e1 := List.getElem?_eq_getElem hj
    have e2 := List.getElem?_eq_getElem (show j < bs.length by omega)
    have hf := h2 j _ _ e1 e2
    have hb := fitsB_bnd hf
    refine ⟨_, e2, hb.1, hb.2.1, ?_⟩
    simp only [FF, e1, Int.toNat_of_nonneg hb.1]
    exact hf
  refine ⟨fun j hj => ?_, fun j j' hj hj' e => ?_⟩
  · obtain ⟨b, e, g1, g2, g3⟩ := key j hj
    simp only [e, Option.getD_some]
    exact ⟨by omega, g3⟩
  · obtain ⟨b, e1, g1, g2, _⟩ := key j hj
    obtain ⟨b', e1', g1', g2', _⟩ := key j' hj'
    simp only [e1, e1', Option.getD_some] at e
    have hbb : b = b' := by omega
    subst hbb
    exact nodup_inj h3 e1 e1'

theorem Matched.le {F : Nat → Nat → Bool} {n i i' : Nat} {g : Nat → Nat} (h : Matched F n i g) (hi : i' ≤ i) : Matched F n i' g :=
  ⟨fun j hj => h.1 j (by omega), fun j j' hj hj' => h.2 j j' (by omega) (by omega)⟩

/-- A search that ends well gives a right assignment. -/
theorem right_of_good {l : List Mo} {cs : List Int} {k : List Int} (g : Good (FF l cs) l.length cs.length k) {out : List Int} (hl : out.length = cs.length)
    (ho : ∀ (b i : Nat), k[b]? = some (i : Int) → out[i]? = some (b : Int)) : rightB l cs out = true := by
  have key : ∀ j, j < cs.length → ∃ b : Nat, out[j]? = some (b : Int) ∧ k[b]? = some (j : Int) ∧ FF l cs b j = true := by
    intro j hj
    obtain ⟨b, e, _, hF⟩ := g.place hj
    exact ⟨b, ho b j e, e, hF⟩
  refine rightB_iff.2 ⟨hl.symm, fun i c b hc hb => ?_, ?_⟩
  · obtain ⟨b', e, _, hF⟩ := key i (List.getElem?_eq_some_iff.1 hc).1
    rw [e] at hb
    cases hb
    simpa [FF, hc] using hF
  · refine nodup_of fun i j a hi hj => ?_
    have hi' := (List.getElem?_eq_some_iff.1 hi).1
    have hj' := (List.getElem?_eq_some_iff.1 hj).1
    obtain ⟨b, e1, e2, _⟩ := key i (by omega)
    obtain ⟨b', e1', e2', _⟩ := key j (by omega)
    rw [hi] at e1
    rw [hj] at e1'
    cases e1
    have e3 : (b : Int) = (b' : Int) := by simpa using e1'
    have : b = b' := by omega
    subst this
    rw [e2] at e2'
    have e4 : (i : Int) = (j : Int) := by simpa using e2'
    omega
end Go.Abs.Q

namespace Go.Abs.Q
attribute [local simp] look_set_ne look_set_eq fin tupled code_loop raw_goal_fits raw_ref27_Fits raw_slices_Contains_int raw_goal_CheckInject raw_ref27_CheckInject

theorem loop_CheckInject (m mc mb : Bool × Bool) (l : List Mo) (hf : fine l) (cs bs : List Int) (hlen : cs.length ≤ 1099511627776) (hbs : cs.length = bs.length) (fr : Fr) (h : AH) (hl : fr.length = 40)
    (h0 : look fr 0 = sl m 6 (l.map moV)) (h2 : look fr 2 = sl mb 1 (bs.map (AV.int .i64))) (h14 : look fr 14 = sl mc 1 (cs.map (AV.int .i64))) (h15 : look fr 15 = .int .i64 cs.length) (h16 : look fr 16 = .int .i64 0) :
    Ends (lp (evalCode (lim Q) (ctxF n_goal_CheckInject) x_goal_CheckInject_0) (fr, h)) fun e fr' h' => Kp x_goal_CheckInject_0.wr fr fr' ∧ (e = .exit 0 ∧ rightB l cs bs = true ∨ e = .ret ∧ look fr' 6 = .bool false ∧ rightB l cs bs = false) := by
  refine Ends_lpk rfl fr (fun n fr h => ∃ i, i + n = cs.length ∧ look fr 16 = .int .i64 (i : Nat) ∧ rightFrom l (bs.take i) (cs.drop i) (bs.drop i) = rightB l cs bs) ?_ cs.length h ⟨0, by omega, h16, rfl⟩
  rintro n fr1 h1' K ⟨i, hi, k16, hr⟩
  have hl1 : fr1.length = 40 := K.1.trans hl
  have k0 := (K.2 0 (by decide)).trans h0
  have k2 := (K.2 2 (by decide)).trans h2
  have k14 := (K.2 14 (by decide)).trans h14
  have k15 := (K.2 15 (by decide)).trans h15
  by_cases hlt : i < cs.length
  · have hlt' : i < bs.length := by omega
    have hx := nth_map (f := AV.int .i64) (List.getElem?_eq_getElem hlt)
    have hx' := nth_map (f := AV.int .i64) (List.getElem?_eq_getElem hlt')
    have hw : IntKind.i64.wrap ((i : Int) + 1) = (i : Int) + 1 := wrap_id (by omega) (by omega)
    have hF := pc_fits m l hf
    have hs : ∀ h, slcA h 1 (sl mb 1 (bs.map (AV.int .i64))) (some none) (some (some (i : Int))) (some none) = some (sl (mb.1 && decide ((i : Int) = (bs.length : Int)), mb.2 || !bs.isEmpty) 1 ((bs.take i).map (AV.int .i64)), h) := by
      intro h
      rw [slcA_sl _ _ _ (by omega)]
      have : (i : Int) ≤ (bs.length : Int) := by omega
      simp [this, List.map_take]
    have hC := pc_ContainsInt (mb.1 && decide ((i : Int) = (bs.length : Int)), mb.2 || !bs.isEmpty) (bs.take i) bs[i] (by simp; omega)
    rw [List.drop_eq_getElem_cons hlt, List.drop_eq_getElem_cons hlt'] at hr
    simp only [rightFrom] at hr
    rw [← List.take_succ_eq_append_getElem hlt'] at hr
    generalize cs[i] = c at *
    generalize bs[i] = b at *
    have hF' := hF b c
    simp only [mosV] at hF'
    simp only [intsV, List.map_take] at hC
    cases hfb : fitsB l b c with
    | false =>
      rw [hfb] at hF' hr
      simp [x_goal_CheckInject_0, hl1, k0, k2, k14, k15, k16, hlt, hx, hx', hw, hF']
      simpa using hr.symm
    | true =>
      rw [hfb] at hF' hr
      cases hcb : (bs.take i).contains b with
      | true =>
        rw [hcb] at hC hr
        simp [x_goal_CheckInject_0, hl1, k0, k2, k14, k15, k16, hlt, hx, hx', hw, hF', boundA, hs, hC]
        simpa using hr.symm
      | false =>
        rw [hcb] at hC hr
        simp [x_goal_CheckInject_0, hl1, k0, k2, k14, k15, k16, hlt, hx, hx', hw, hF', boundA, hs, hC]
        exact ⟨n - 1, by omega, i + 1, by omega, by simp, by simpa using hr⟩
  · rw [List.drop_eq_nil_of_le (by omega), List.drop_eq_nil_of_le (by omega)] at hr
    simp [x_goal_CheckInject_0, hl1, k15, k16, hlt]
    exact hr.symm

theorem pc_CheckInject (m mc mb : Bool × Bool) (l : List Mo) (hf : fine l) (cs bs : List Int) (hlen : cs.length ≤ 1099511627776) : pc Q n_goal_CheckInject [mosV m l, intsV mc cs, intsV mb bs] = some (.bool (rightB l cs bs)) := by
  refine pcQ res_goal_CheckInject rfl (by simp [x_goal_CheckInject]) fun fr hl ha => ?_
  have h0 := ha 0
  have h1 := ha 1
  have h2 := ha 2
  clear ha
  simp [x_goal_CheckInject, intsV, mosV] at hl h0 h1 h2
  by_cases hbs : cs.length = bs.length
  · have hbs' : (cs.length : Int) = (bs.length : Int) := by omega
    simp [x_goal_CheckInject, hl, h1, h2, hbs]
    refine (loop_CheckInject m mc mb l hf cs bs hlen hbs _ _ (by simp [hl]) (by simp [hl, h0]) (by simp [hl, h2]) (by simp [hl, h1]) (by simp [hl, hbs]) (by simp [hl])).mono ?_
    rintro e fr' h' ⟨K, ⟨rfl, he⟩ | ⟨rfl, h4, he⟩⟩
    · have hl' : fr'.length = 40 := K.1.trans (by simp [hl])
      simp [hl', he]
    · simp [h4, he]
  · have hbs' : ¬(cs.length : Int) = (bs.length : Int) := by omega
    have hf : rightB l cs bs = false := by
      cases hq : rightB l cs bs with
      | false => rfl
      | true => exact absurd (rightFrom_len hq) hbs
    simp [x_goal_CheckInject, hl, h1, h2, hbs', hf]

theorem rloop_CheckInject_in (mb : Bool × Bool) (bs : List Int) (hlen : bs.length ≤ 1099511627776) (i : Nat) (hi0 : i < bs.length) (b : Int) (hb : bs[i]? = some b) (fr : Fr) (h : AH) (hl : fr.length = 45)
    (h2 : look fr 2 = sl mb 1 (bs.map (AV.int .i64))) (h7 : look fr 7 = .int .i64 (i : Nat)) (h8 : look fr 8 = .int .i64 0) :
    Ends (lp (evalCode (lim Q) (ctxF n_ref27_CheckInject) x_ref27_CheckInject_0) (fr, h)) fun e fr' h' => Kp x_ref27_CheckInject_0.wr fr fr' ∧ (e = .exit 2 ∧ (bs.take i).contains b = false ∨ e = .ret ∧ look fr' 6 = .bool false ∧ (bs.take i).contains b = true) := by
  refine Ends_lpk rfl fr (fun n fr h => ∃ j, j + n = i ∧ look fr 8 = .int .i64 (j : Nat) ∧ ((bs.take i).drop j).contains b = (bs.take i).contains b) ?_ i h ⟨0, by omega, h8, rfl⟩
  rintro n fr1 h1' K ⟨j, hj, k8, hr⟩
  have hl1 : fr1.length = 45 := K.1.trans hl
  have k2 := (K.2 2 (by decide)).trans h2
  have k7 := (K.2 7 (by decide)).trans h7
  have hxb := nth_map (f := AV.int .i64) hb
  by_cases hlt : j < i
  · have hlt' : j < bs.length := by omega
    have hx := nth_map (f := AV.int .i64) (List.getElem?_eq_getElem hlt')
    have hw : IntKind.i64.wrap ((j : Int) + 1) = (j : Int) + 1 := wrap_id (by omega) (by omega)
    have hd : (bs.take i).drop j = bs[j] :: (bs.take i).drop (j + 1) := by
      rw [List.drop_eq_getElem_cons (by simp; omega)]
      simp
    rw [hd, List.contains_cons] at hr
    generalize bs[j] = a at *
    by_cases hc : a = b
    · have hr' : (bs.take i).contains b = true := by rw [← hr]; simp [hc]
      simp [x_ref27_CheckInject_0, hl1, k2, k7, k8, hlt, hx, hxb, hw, hc]
      simpa using hr'
    · have hr' : ((bs.take i).drop (j + 1)).contains b = (bs.take i).contains b := by
        have hne : (b == a) = false := by simp; exact fun e => hc e.symm
        rw [← hr, hne, Bool.false_or]
      simp [x_ref27_CheckInject_0, hl1, k2, k7, k8, hlt, hx, hxb, hw, hc]
      exact ⟨n - 1, by omega, j + 1, by omega, by simp, by simpa using hr'⟩
  · rw [List.drop_eq_nil_of_le (by simp; omega)] at hr
    simp [x_ref27_CheckInject_0, hl1, k7, k8, hlt]
    simpa using hr.symm

theorem rloop_CheckInject (m mc mb : Bool × Bool) (l : List Mo) (hf : fine l) (cs bs : List Int) (hlen : cs.length ≤ 1099511627776) (hbs : cs.length = bs.length) (fr : Fr) (h : AH) (hl : fr.length = 45)
    (h0 : look fr 0 = sl m 6 (l.map moV)) (h1 : look fr 1 = sl mc 1 (cs.map (AV.int .i64))) (h2 : look fr 2 = sl mb 1 (bs.map (AV.int .i64))) (h7 : look fr 7 = .int .i64 0) :
    Ends (lp (evalCode (lim Q) (ctxF n_ref27_CheckInject) x_ref27_CheckInject_1) (fr, h)) fun e fr' h' => Kp x_ref27_CheckInject_1.wr fr fr' ∧ (e = .exit 0 ∧ rightB l cs bs = true ∨ e = .ret ∧ look fr' 6 = .bool false ∧ rightB l cs bs = false) := by
  refine Ends_lpk rfl fr (fun n fr h => ∃ i, i + n = cs.length ∧ look fr 7 = .int .i64 (i : Nat) ∧ rightFrom l (bs.take i) (cs.drop i) (bs.drop i) = rightB l cs bs) ?_ cs.length h ⟨0, by omega, h7, rfl⟩
  rintro n fr1 h1' K ⟨i, hi, k7, hr⟩
  have hl1 : fr1.length = 45 := K.1.trans hl
  have k0 := (K.2 0 (by decide)).trans h0
  have k1 := (K.2 1 (by decide)).trans h1
  have k2 := (K.2 2 (by decide)).trans h2
  by_cases hlt : i < cs.length
  · have hlt' : i < bs.length := by omega
    have hx := nth_map (f := AV.int .i64) (List.getElem?_eq_getElem hlt)
    have hb := List.getElem?_eq_getElem hlt'
    have hx' := nth_map (f := AV.int .i64) hb
    have hw : IntKind.i64.wrap ((i : Int) + 1) = (i : Int) + 1 := wrap_id (by omega) (by omega)
    have hF := pc_refFits m l hf
    rw [List.drop_eq_getElem_cons hlt, List.drop_eq_getElem_cons hlt'] at hr
    simp only [rightFrom] at hr
    rw [← List.take_succ_eq_append_getElem hlt'] at hr
    generalize cs[i] = c at *
    generalize bs[i] = b at *
    have hF' := hF b c
    simp only [mosV] at hF'
    cases hfb : fitsB l b c with
    | false =>
      rw [hfb] at hF' hr
      simp [x_ref27_CheckInject_1, hl1, k0, k1, k2, k7, hlt, hx, hx', hw, hF']
      simpa using hr.symm
    | true =>
      rw [hfb] at hF' hr
      simp [x_ref27_CheckInject_1, hl1, k0, k1, k2, k7, hlt, hx, hx', hw, hF']
      refine (rloop_CheckInject_in mb bs (by omega) i hlt' b hb _ _ (by simp [hl1]) (by simp [hl1, k2]) (by simp [hl1, k7]) (by simp [hl1])).mono ?_
      rintro e fr' h' ⟨K', ⟨rfl, he⟩ | ⟨rfl, h6, he⟩⟩
      · have hl' : fr'.length = 45 := K'.1.trans (by simp [hl1])
        have q7 : look fr' 7 = .int .i64 (i : Nat) := (K'.2 7 (by decide)).trans (by simp [hl1, k7])
        rw [he] at hr
        simp [hl', q7, hw]
        exact ⟨n - 1, by omega, i + 1, by omega, by simp, by simpa using hr⟩
      · rw [he] at hr
        simp [h6]
        simpa using hr.symm
  · rw [List.drop_eq_nil_of_le (by omega), List.drop_eq_nil_of_le (by omega)] at hr
    simp [x_ref27_CheckInject_1, hl1, k1, k7, hlt]
    exact hr.symm

theorem pc_refCheckInject (m mc mb : Bool × Bool) (l : List Mo) (hf : fine l) (cs bs : List Int) (hlen : cs.length ≤ 1099511627776) : pc Q n_ref27_CheckInject [mosV m l, intsV mc cs, intsV mb bs] = some (.bool (rightB l cs bs)) := by
  refine pcQ res_ref27_CheckInject rfl (by simp [x_ref27_CheckInject]) fun fr hl ha => ?_
  have h0 := ha 0
  have h1 := ha 1
  have h2 := ha 2
  clear ha
  simp [x_ref27_CheckInject, intsV, mosV] at hl h0 h1 h2
  by_cases hbs : cs.length = bs.length
  · have hbs' : (cs.length : Int) = (bs.length : Int) := by omega
    simp [x_ref27_CheckInject, hl, h1, h2, hbs]
    refine (rloop_CheckInject m mc mb l hf cs bs hlen hbs _ _ (by simp [hl]) (by simp [hl, h0]) (by simp [hl, h1]) (by simp [hl, h2]) (by simp [hl])).mono ?_
    rintro e fr' h' ⟨K, ⟨rfl, he⟩ | ⟨rfl, h4, he⟩⟩
    · have hl' : fr'.length = 45 := K.1.trans (by simp [hl])
      simp [hl', he]
    · simp [h4, he]
  · have hbs' : ¬(cs.length : Int) = (bs.length : Int) := by omega
    have hf : rightB l cs bs = false := by
      cases hq : rightB l cs bs with
      | false => rfl
      | true => exact absurd (rightFrom_len hq) hbs
    simp [x_ref27_CheckInject, hl, h1, h2, hbs', hf]
end Go.Abs.Q
