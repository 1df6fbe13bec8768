/- Contracts: the error of a cast. -/
import Derived.Test.YtpkegmgepnhfnaaVH8
import Derived.Lib.Strings
/- Contracts: two equal claims of different sessions. -/
namespace Go.Abs.Q
attribute [local simp] look_set_ne look_set_eq fin tupled code_loop raw_goal_kind raw_ref27_kind raw_goal_equal raw_ref27_Equal raw_goal_Fresh raw_ref27_Fresh

def intsV (m : Bool × Bool) (cs : List Int) : AV := sl m 1 (cs.map (AV.int .i64))
def clash (l : List Mo) (a b : Int) : Bool := match atI l a, atI l b with | some x, some y => decide (x.kind = 5) && decide (y.kind = 5) && eqM x y && !decide (x.number = y.number) | _, _ => false
def freshIn (l : List Mo) (b : Int) : List Int → Option Int
  | [] => none
  | a :: r => if clash l a b = true then some a else freshIn l b r
def freshFrom (l : List Mo) (done : List Int) : List Int → AV
  | [] => .tup [.int .i64 0, .int .i64 0, .bool true]
  | b :: r => match freshIn l b done with | some a => .tup [.int .i64 a, .int .i64 b, .bool false] | none => freshFrom l (done ++ [b]) r

theorem slcA_sl (h : AH) (m : Bool × Bool) (sz : Nat) (hsz : 0 < sz) (xs : List AV) (lo hi : Option Int) : slcA h sz (sl m sz xs) (some lo) (some hi) (some none) =
    if 0 ≤ lo.getD 0 ∧ lo.getD 0 ≤ hi.getD xs.length ∧ hi.getD xs.length ≤ xs.length then
      some (sl (m.1 && decide (hi.getD xs.length = xs.length), m.2 || !xs.isEmpty) sz ((xs.drop (lo.getD 0).toNat).take (hi.getD xs.length - lo.getD 0).toNat), h) else none := by
  have hz : (if (xs.isEmpty && !m.2) = true then 0 else sz) = sz ∨ xs.length = 0 := by
    cases xs with
    | nil => exact .inr rfl
    | cons x xs => exact .inl rfl
  simp only [slcA, sl, sliceA]
  rw [if_pos ⟨hsz, hz⟩]
  by_cases hc : 0 ≤ lo.getD 0 ∧ lo.getD 0 ≤ hi.getD xs.length ∧ hi.getD xs.length ≤ xs.length
  · rw [if_pos hc, if_pos hc]
    have e : ((if (xs.isEmpty && !m.2) = true then 0 else sz) : Nat) = (if (((xs.drop (lo.getD 0).toNat).take (hi.getD xs.length - lo.getD 0).toNat).isEmpty && !(m.2 || !xs.isEmpty)) = true then 0 else sz) := by
      cases xs with
      | nil => simp
      | cons x xs => simp
    rw [e]
  · rw [if_neg hc, if_neg hc]
end Go.Abs.Q

/- Contracts: two equal claims of different sessions: the loops. -/
namespace Go.Abs.Q
attribute [local simp] look_set_ne look_set_eq fin tupled code_loop raw_goal_kind raw_ref27_kind raw_goal_equal raw_ref27_Equal raw_goal_Fresh raw_ref27_Fresh

theorem fresh_inner (m mm : Bool × Bool) (l : List Mo) (hf : fine l) (b : Int) (cs : List Int) (hlen : cs.length ≤ 1099511627776) (done : List Int) (hd : done.length ≤ cs.length) (c1 c11 c12 c13 : AV) (fr : Fr) (h : AH) (hl : fr.length = 62)
    (h0 : look fr 0 = sl m 6 (l.map moV)) (h1 : look fr 1 = c1) (h8 : look fr 8 = .int .i64 b) (h11 : look fr 11 = c11) (h12 : look fr 12 = c12) (h13 : look fr 13 = c13) (h20 : look fr 20 = sl mm 1 (done.map (AV.int .i64))) (h21 : look fr 21 = .int .i64 done.length) (h22 : look fr 22 = .int .i64 0) :
    Ends (lp (evalCode (lim Q) (ctxF n_goal_Fresh) x_goal_Fresh_0) (fr, h)) fun e fr' h' => fr'.length = 62 ∧ h' = h ∧ look fr' 0 = sl m 6 (l.map moV) ∧ look fr' 1 = c1 ∧ look fr' 11 = c11 ∧ look fr' 12 = c12 ∧ look fr' 13 = c13 ∧
      (e = .exit 2 ∧ freshIn l b done = none ∨ e = .ret ∧ ∃ a, freshIn l b done = some a ∧ look fr' 4 = .int .i64 a ∧ look fr' 5 = .int .i64 b ∧ look fr' 6 = .bool false) := by
  have hk := pc_kind m l
  simp only [mosV] at hk
  refine Ends_lp (fun n fr h' => ∃ i, i + n = done.length ∧ h' = h ∧ fr.length = 62 ∧ look fr 0 = sl m 6 (l.map moV) ∧ look fr 1 = c1 ∧ look fr 8 = .int .i64 b ∧ look fr 11 = c11 ∧ look fr 12 = c12 ∧ look fr 13 = c13 ∧
    look fr 20 = sl mm 1 (done.map (AV.int .i64)) ∧ look fr 21 = .int .i64 done.length ∧ look fr 22 = .int .i64 (i : Nat) ∧ freshIn l b (done.drop i) = freshIn l b done) ?_ done.length fr h ⟨0, by omega, rfl, hl, h0, h1, h8, h11, h12, h13, h20, h21, h22, rfl⟩
  clear h0 h1 h8 h11 h12 h13 h20 h21 h22 hl
  rintro n fr h' ⟨i, hi, rfl, hl, h0, h1, h8, h11, h12, h13, h20, h21, h22, hr⟩
  by_cases hlt : i < done.length
  · have hx := nth_map (f := AV.int .i64) (List.getElem?_eq_getElem hlt)
    have hw : IntKind.i64.wrap ((i : Int) + 1) = (i : Int) + 1 := wrap_id (by omega) (by omega)
    rw [List.drop_eq_getElem_cons hlt] at hr
    simp only [freshIn] at hr
    generalize done[i] = a at *
    have yes : clash l a b = true → freshIn l b done = some a := fun hc => by rw [if_pos hc] at hr; exact hr.symm
    have no : ¬clash l a b = true → freshIn l b (done.drop (i + 1)) = freshIn l b done := fun hc => by rw [if_neg hc] at hr; exact hr
    have fwd : ¬clash l a b = true → ∃ m_1, m_1 < n ∧ ∃ i_1, i_1 + m_1 = done.length ∧ (i : Int) + 1 = (i_1 : Nat) ∧ freshIn l b (done.drop i_1) = freshIn l b done := fun hc => ⟨n - 1, by omega, i + 1, by omega, by simp, no hc⟩
    cases hA : atI l a with
    | none =>
      have hc : ¬clash l a b = true := by simp [clash, hA]
      simp [x_goal_Fresh_0, hl, h0, h1, h8, h11, h12, h13, h20, h21, h22, hlt, hx, hw, hk, kindB, hA]
      exact fwd hc
    | some x =>
      obtain ⟨g1, g2, g3, g4⟩ := atI_some hA
      by_cases hxk : x.kind = 5
      case neg =>
        have hc : ¬clash l a b = true := by
          simp only [clash, hA]
          cases atI l b <;> simp [hxk]
        simp [x_goal_Fresh_0, hl, h0, h1, h8, h11, h12, h13, h20, h21, h22, hlt, hx, hw, hk, kindB, hA, hxk]
        exact fwd hc
      cases hB : atI l b with
      | none =>
        have hc : ¬clash l a b = true := by simp [clash, hA, hB]
        simp [x_goal_Fresh_0, hl, h0, h1, h8, h11, h12, h13, h20, h21, h22, hlt, hx, hw, hk, kindB, hA, hxk, hB]
        exact fwd hc
      | some y =>
        obtain ⟨k1, k2, k3, k4⟩ := atI_some hB
        by_cases hyk : y.kind = 5
        case neg =>
          have hc : ¬clash l a b = true := by simp [clash, hA, hB, hyk]
          simp [x_goal_Fresh_0, hl, h0, h1, h8, h11, h12, h13, h20, h21, h22, hlt, hx, hw, hk, kindB, hA, hxk, hB, hyk]
          exact fwd hc
        have hn := nth_map (f := moV) g3
        have hn' := nth_map (f := moV) k3
        have hE := pc_equal x y (hf x g4) (hf y k4)
        simp only [moV] at hn hn' hE
        rw [hxk] at hn hE
        rw [hyk] at hn' hE
        cases hq : eqM x y with
        | false =>
          rw [hq] at hE
          have hc : ¬clash l a b = true := by simp [clash, hA, hB, hq]
          simp [x_goal_Fresh_0, hl, h0, h1, h8, h11, h12, h13, h20, h21, h22, hlt, hx, hw, hk, kindB, hA, hxk, hB, hyk, g1, k1, hn, hn', hE]
          exact fwd hc
        | true =>
          rw [hq] at hE
          by_cases hnum : x.number = y.number
          · have hc : ¬clash l a b = true := by simp [clash, hA, hB, hq, hnum]
            rw [hnum] at hn hE
            simp [x_goal_Fresh_0, hl, h0, h1, h8, h11, h12, h13, h20, h21, h22, hlt, hx, hw, hk, kindB, hA, hxk, hB, hyk, g1, k1, hn, hn', hE, hnum]
            exact fwd hc
          · have hc : clash l a b = true := by simp [clash, hA, hB, hq, hnum, hxk, hyk]
            simp [x_goal_Fresh_0, hl, h0, h1, h8, h11, h12, h13, h20, h21, h22, hlt, hx, hw, hk, kindB, hA, hxk, hB, hyk, g1, k1, hn, hn', hE, hnum]
            exact yes hc
  · have e0 : done.length ≤ i := by omega
    rw [List.drop_eq_nil_of_le e0] at hr
    simp only [freshIn] at hr
    simp [x_goal_Fresh_0, hl, h0, h1, h11, h12, h13, h21, h22, hlt]
    exact hr.symm
end Go.Abs.Q

/- Contracts: two equal claims of different sessions. -/
namespace Go.Abs.Q
attribute [local simp] look_set_ne look_set_eq fin tupled code_loop raw_goal_kind raw_ref27_kind raw_goal_equal raw_ref27_Equal raw_goal_Fresh raw_ref27_Fresh

def freshV (l : List Mo) (cs : List Int) : AV := freshFrom l [] cs

theorem pc_Fresh (m mc : Bool × Bool) (l : List Mo) (hf : fine l) (cs : List Int) (hlen : cs.length ≤ 1099511627776) : pc Q n_goal_Fresh [mosV m l, intsV mc cs] = some (freshV l cs) := by
  refine pcQ res_goal_Fresh rfl (by simp [x_goal_Fresh]) fun fr hl ha => ?_
  have h0 := ha 0
  have h1 := ha 1
  clear ha
  simp [x_goal_Fresh, mosV, intsV] at hl h0 h1
  simp [x_goal_Fresh, hl, h1]
  refine (Ends_lp (Ψ := fun e fr h => fr.length = 62 ∧ h = ⟨[], []⟩ ∧ (e = .exit 0 ∧ freshV l cs = .tup [.int .i64 0, .int .i64 0, .bool true] ∨ e = .ret ∧ ∃ a b, freshV l cs = .tup [.int .i64 a, .int .i64 b, .bool false] ∧ look fr 4 = .int .i64 a ∧ look fr 5 = .int .i64 b ∧ look fr 6 = .bool false))
    (fun n fr h => ∃ i, i + n = cs.length ∧ h = ⟨[], []⟩ ∧ fr.length = 62 ∧ look fr 0 = sl m 6 (l.map moV) ∧ look fr 1 = sl mc 1 (cs.map (AV.int .i64)) ∧ look fr 11 = sl mc 1 (cs.map (AV.int .i64)) ∧ look fr 12 = .int .i64 cs.length ∧ look fr 13 = .int .i64 (i : Nat) ∧ freshFrom l (cs.take i) (cs.drop i) = freshV l cs) ?_ cs.length _ _ ?_).mono ?_
  · rintro n fr h ⟨i, hi, rfl, hl, h0, h1, h11, h12, h13, hr⟩
    by_cases hlt : i < cs.length
    · have hx := nth_map (f := AV.int .i64) (List.getElem?_eq_getElem hlt)
      have hw : IntKind.i64.wrap ((i : Int) + 1) = (i : Int) + 1 := wrap_id (by omega) (by omega)
      have htk : (cs.take i).length = i := by simp; omega
      have hr' : freshFrom l (cs.take i) (cs[i] :: cs.drop (i + 1)) = freshV l cs := by rw [← List.drop_eq_getElem_cons hlt]; exact hr
      have hnext : cs.take (i + 1) = cs.take i ++ [cs[i]] := by rw [List.take_succ_eq_append_getElem hlt]
      simp only [freshFrom] at hr'
      rw [← hnext] at hr'
      generalize cs[i] = b at *
      have hs : slcA ⟨[], []⟩ 1 (sl mc 1 (cs.map (AV.int .i64))) (some none) (some (some (i : Int))) (some none) = some (sl (mc.1 && decide ((i : Int) = (cs.length : Int)), mc.2 || !cs.isEmpty) 1 ((cs.take i).map (AV.int .i64)), ⟨[], []⟩) := by
        rw [slcA_sl _ _ _ (by omega)]
        have : (i : Int) ≤ (cs.length : Int) := by omega
        simp [this, List.map_take]
      simp [x_goal_Fresh_1, hl, h0, h1, h11, h12, h13, hlt, hx, hw, boundA, hs]
      refine (fresh_inner m (mc.1 && decide ((i : Int) = (cs.length : Int)), mc.2 || !cs.isEmpty) l hf b cs hlen (cs.take i) (by omega) (sl mc 1 (cs.map (AV.int .i64))) (sl mc 1 (cs.map (AV.int .i64))) (.int .i64 cs.length) (.int .i64 (i : Nat)) _ _ (by simp [hl]) (by simp [hl, h0]) (by simp [hl, h1]) (by simp [hl]) (by simp [hl, h11]) (by simp [hl, h12]) (by simp [hl, h13]) (by simp [hl]) (by simp [hl]) (by simp [hl])).mono ?_
      rintro e fr' h' ⟨hl', rfl, k0, k1, k11, k12, k13, ⟨rfl, hn⟩ | ⟨rfl, a, ha, k4, k5, k6⟩⟩
      · rw [hn] at hr'
        simp [hl', k0, k1, k11, k12, k13, hw]
        exact ⟨n - 1, by omega, i + 1, by omega, by simp, hr'⟩
      · rw [ha] at hr'
        simp [hl', k4, k5, k6]
        exact hr'.symm
    · have e0 : cs.length ≤ i := by omega
      rw [List.drop_eq_nil_of_le e0] at hr
      simp only [freshFrom] at hr
      simp [x_goal_Fresh_1, hl, h12, h13, hlt]
      exact hr.symm
  · exact ⟨0, by omega, rfl, by simp [hl], by simp [h0], by simp [h1], by simp [hl], by simp [hl], by simp [hl], rfl⟩
  · rintro e fr h ⟨hl, rfl, ⟨rfl, he⟩ | ⟨rfl, a, b, he, h4, h5, h6⟩⟩
    · simp [hl, he]
    · simp [hl, he, h4, h5, h6]
end Go.Abs.Q

/- Contracts: two equal claims of different sessions: the reference's loops. -/
namespace Go.Abs.Q
attribute [local simp] look_set_ne look_set_eq fin tupled code_loop raw_goal_kind raw_ref27_kind raw_goal_equal raw_ref27_Equal raw_goal_Fresh raw_ref27_Fresh

theorem rfresh_inner (m mc : Bool × Bool) (l : List Mo) (hf : fine l) (cs : List Int) (hlen : cs.length ≤ 1099511627776) (k : Nat) (hk0 : k < cs.length) (b : Int) (hb : cs[k]? = some b) (done : List Int) (hdone : done = cs.take k) (fr : Fr) (h : AH) (hl : fr.length = 64)
    (h0 : look fr 0 = sl m 6 (l.map moV)) (h1 : look fr 1 = sl mc 1 (cs.map (AV.int .i64))) (h7 : look fr 7 = .int .i64 (k : Nat)) (h8 : look fr 8 = .int .i64 0) :
    Ends (lp (evalCode (lim Q) (ctxF n_ref27_Fresh) x_ref27_Fresh_0) (fr, h)) fun e fr' h' => fr'.length = 64 ∧ h' = h ∧ look fr' 0 = sl m 6 (l.map moV) ∧ look fr' 1 = sl mc 1 (cs.map (AV.int .i64)) ∧ look fr' 7 = .int .i64 (k : Nat) ∧
      (e = .exit 2 ∧ freshIn l b done = none ∨ e = .ret ∧ ∃ a, freshIn l b done = some a ∧ look fr' 4 = .int .i64 a ∧ look fr' 5 = .int .i64 b ∧ look fr' 6 = .bool false) := by
  have hk := pc_refkind m l
  simp only [mosV] at hk
  have hdl : done.length = k := by rw [hdone]; simp; omega
  have hxb := nth_map (f := AV.int .i64) hb
  refine Ends_lp (fun n fr h' => ∃ i, i + n = done.length ∧ h' = h ∧ fr.length = 64 ∧ look fr 0 = sl m 6 (l.map moV) ∧ look fr 1 = sl mc 1 (cs.map (AV.int .i64)) ∧ look fr 7 = .int .i64 (k : Nat) ∧ look fr 8 = .int .i64 (i : Nat) ∧ freshIn l b (done.drop i) = freshIn l b done) ?_ done.length fr h ⟨0, by omega, rfl, hl, h0, h1, h7, h8, rfl⟩
  clear h0 h1 h7 h8 hl
  rintro n fr h' ⟨i, hi, rfl, hl, h0, h1, h7, h8, hr⟩
  by_cases hlt : i < k
  · have hlt' : i < done.length := by omega
    have hd : cs[i]? = some done[i] := by subst hdone; simp [List.getElem?_eq_getElem (show i < cs.length by omega)]
    have hx := nth_map (f := AV.int .i64) hd
    have hw : IntKind.i64.wrap ((i : Int) + 1) = (i : Int) + 1 := wrap_id (by omega) (by omega)
    rw [List.drop_eq_getElem_cons hlt'] at hr
    simp only [freshIn] at hr
    generalize done[i] = a at *
    have yes : clash l a b = true → freshIn l b done = some a := fun hc => by rw [if_pos hc] at hr; exact hr.symm
    have no : ¬clash l a b = true → freshIn l b (done.drop (i + 1)) = freshIn l b done := fun hc => by rw [if_neg hc] at hr; exact hr
    have fwd : ¬clash l a b = true → ∃ m_1, m_1 < n ∧ ∃ i_1, i_1 + m_1 = done.length ∧ (i : Int) + 1 = (i_1 : Nat) ∧ freshIn l b (done.drop i_1) = freshIn l b done := fun hc => ⟨n - 1, by omega, i + 1, by omega, by simp, no hc⟩
    cases hA : atI l a with
    | none =>
      have hc : ¬clash l a b = true := by simp [clash, hA]
      simp [x_ref27_Fresh_0, hl, h0, h1, h7, h8, hlt, hx, hxb, hw, hk, kindB, hA]
      exact fwd hc
    | some x =>
      obtain ⟨g1, g2, g3, g4⟩ := atI_some hA
      by_cases hxk : x.kind = 5
      case neg =>
        have hc : ¬clash l a b = true := by
          simp only [clash, hA]
          cases atI l b <;> simp [hxk]
        simp [x_ref27_Fresh_0, hl, h0, h1, h7, h8, hlt, hx, hxb, hw, hk, kindB, hA, hxk]
        exact fwd hc
      cases hB : atI l b with
      | none =>
        have hc : ¬clash l a b = true := by simp [clash, hA, hB]
        simp [x_ref27_Fresh_0, hl, h0, h1, h7, h8, hlt, hx, hxb, hw, hk, kindB, hA, hxk, hB]
        exact fwd hc
      | some y =>
        obtain ⟨k1, k2, k3, k4⟩ := atI_some hB
        by_cases hyk : y.kind = 5
        case neg =>
          have hc : ¬clash l a b = true := by simp [clash, hA, hB, hyk]
          simp [x_ref27_Fresh_0, hl, h0, h1, h7, h8, hlt, hx, hxb, hw, hk, kindB, hA, hxk, hB, hyk]
          exact fwd hc
        have hn := nth_map (f := moV) g3
        have hn' := nth_map (f := moV) k3
        have hE := pc_Equal x y (hf x g4) (hf y k4)
        simp only [moV] at hn hn' hE
        rw [hxk] at hn hE
        rw [hyk] at hn' hE
        cases hq : eqM x y with
        | false =>
          rw [hq] at hE
          have hc : ¬clash l a b = true := by simp [clash, hA, hB, hq]
          simp [x_ref27_Fresh_0, hl, h0, h1, h7, h8, hlt, hx, hxb, hw, hk, kindB, hA, hxk, hB, hyk, g1, k1, hn, hn', hE]
          exact fwd hc
        | true =>
          rw [hq] at hE
          by_cases hnum : x.number = y.number
          · have hc : ¬clash l a b = true := by simp [clash, hA, hB, hq, hnum]
            rw [hnum] at hn hE
            simp [x_ref27_Fresh_0, hl, h0, h1, h7, h8, hlt, hx, hxb, hw, hk, kindB, hA, hxk, hB, hyk, g1, k1, hn, hn', hE, hnum]
            exact fwd hc
          · have hc : clash l a b = true := by simp [clash, hA, hB, hq, hnum, hxk, hyk]
            simp [x_ref27_Fresh_0, hl, h0, h1, h7, h8, hlt, hx, hxb, hw, hk, kindB, hA, hxk, hB, hyk, g1, k1, hn, hn', hE, hnum]
            exact yes hc
  · have e0 : done.length ≤ i := by omega
    rw [List.drop_eq_nil_of_le e0] at hr
    simp only [freshIn] at hr
    simp [x_ref27_Fresh_0, hl, h0, h1, h7, h8, hlt]
    exact hr.symm
end Go.Abs.Q

/- Contracts: two equal claims of different sessions, the reference's. -/
namespace Go.Abs.Q
attribute [local simp] look_set_ne look_set_eq fin tupled code_loop raw_ref27_kind raw_ref27_Equal raw_ref27_Fresh

theorem pc_refFresh (m mc : Bool × Bool) (l : List Mo) (hf : fine l) (cs : List Int) (hlen : cs.length ≤ 1099511627776) : pc Q n_ref27_Fresh [mosV m l, intsV mc cs] = some (freshV l cs) := by
  refine pcQ res_ref27_Fresh rfl (by simp [x_ref27_Fresh]) fun fr hl ha => ?_
  have h0 := ha 0
  have h1 := ha 1
  clear ha
  simp [x_ref27_Fresh, mosV, intsV] at hl h0 h1
  simp [x_ref27_Fresh, hl]
  refine (Ends_lp (Ψ := fun e fr h => fr.length = 64 ∧ h = ⟨[], []⟩ ∧ (e = .exit 0 ∧ freshV l cs = .tup [.int .i64 0, .int .i64 0, .bool true] ∨ e = .ret ∧ ∃ a b, freshV l cs = .tup [.int .i64 a, .int .i64 b, .bool false] ∧ look fr 4 = .int .i64 a ∧ look fr 5 = .int .i64 b ∧ look fr 6 = .bool false))
    (fun n fr h => ∃ i, i + n = cs.length ∧ h = ⟨[], []⟩ ∧ fr.length = 64 ∧ look fr 0 = sl m 6 (l.map moV) ∧ look fr 1 = sl mc 1 (cs.map (AV.int .i64)) ∧ look fr 7 = .int .i64 (i : Nat) ∧ freshFrom l (cs.take i) (cs.drop i) = freshV l cs) ?_ cs.length _ _ ?_).mono ?_
  · rintro n fr h ⟨i, hi, rfl, hl, h0, h1, h7, hr⟩
    by_cases hlt : i < cs.length
    · have hw : IntKind.i64.wrap ((i : Int) + 1) = (i : Int) + 1 := wrap_id (by omega) (by omega)
      have hr' : freshFrom l (cs.take i) (cs[i] :: cs.drop (i + 1)) = freshV l cs := by rw [← List.drop_eq_getElem_cons hlt]; exact hr
      have hnext : cs.take (i + 1) = cs.take i ++ [cs[i]] := by rw [List.take_succ_eq_append_getElem hlt]
      simp only [freshFrom] at hr'
      rw [← hnext] at hr'
      have hb : cs[i]? = some cs[i] := List.getElem?_eq_getElem hlt
      generalize cs[i] = b at *
      simp [x_ref27_Fresh_1, hl, h0, h1, h7, hlt]
      refine (rfresh_inner m mc l hf cs hlen i hlt b hb (cs.take i) rfl _ _ (by simp [hl]) (by simp [hl, h0]) (by simp [hl, h1]) (by simp [hl, h7]) (by simp [hl])).mono ?_
      rintro e fr' h' ⟨hl', rfl, k0, k1, k7, ⟨rfl, hn⟩ | ⟨rfl, a, ha, k4, k5, k6⟩⟩
      · rw [hn] at hr'
        simp [hl', k0, k1, k7, hw]
        exact ⟨n - 1, by omega, i + 1, by omega, by simp, hr'⟩
      · rw [ha] at hr'
        simp [hl', k4, k5, k6]
        exact hr'.symm
    · have e0 : cs.length ≤ i := by omega
      rw [List.drop_eq_nil_of_le e0] at hr
      simp only [freshFrom] at hr
      simp [x_ref27_Fresh_1, hl, h0, h1, h7, hlt]
      exact hr.symm
  · exact ⟨0, by omega, rfl, by simp [hl], by simp [h0], by simp [h1], by simp [hl], rfl⟩
  · rintro e fr h ⟨hl, rfl, ⟨rfl, he⟩ | ⟨rfl, a, b, he, h4, h5, h6⟩⟩
    · simp [hl, he]
    · simp [hl, he, h4, h5, h6]
end Go.Abs.Q

/- What code writes to; loops that keep the rest. -/
namespace Go.Abs

/-- The places to which code writes. -/
def RCode.wr : RCode → List Nat
  | .region _ ops => ops.filterMap (·.dst)
  | .seq a b => a.wr ++ b.wr
  | .cond _ a b => a.wr ++ b.wr
  | .block _ a => a.wr
  | .loop a => a.wr
  | _ => []

/-- A frame that differs only at some places. -/
def Kp (ws : List Nat) (fr fr' : Fr) : Prop := fr'.length = fr.length ∧ ∀ j, j ∉ ws → look fr' j = look fr j

theorem Kp.refl (ws : List Nat) (fr : Fr) : Kp ws fr fr := ⟨rfl, fun _ _ => rfl⟩
theorem Kp.trans {ws : List Nat} {a b c : Fr} (h : Kp ws a b) (k : Kp ws b c) : Kp ws a c := ⟨k.1.trans h.1, fun j hj => (k.2 j hj).trans (h.2 j hj)⟩
theorem Kp.mono {ws ws' : List Nat} {a b : Fr} (h : Kp ws a b) (hs : ∀ j, j ∈ ws → j ∈ ws') : Kp ws' a b := ⟨h.1, fun j hj => h.2 j fun k => hj (hs j k)⟩

theorem Kp.put (fr : Fr) (d : Option Nat) (v : AV) {ws : List Nat} (hd : ∀ x, d = some x → x ∈ ws) : Kp ws fr (put fr d v) := by
  cases d with
  | none => exact Kp.refl _ _
  | some d =>
    refine ⟨by simp, fun j hj => ?_⟩
    have hne : d ≠ j := fun e => hj (e ▸ hd d rfl)
    simp [look_set_ne fr v hne]

section
variable {C : Cfg} {c : Ctx}

theorem ops_keep {O : Orc} : ∀ {ros : List RO} {fr : Fr} {h : AH} {x : Fr × AH} {ws : List Nat}, (∀ j, j ∈ ros.filterMap (·.dst) → j ∈ ws) → evalOps O c ros fr h = some x → Kp ws fr x.1
  | [], fr, h, x, ws, _, he => by
    simp only [evalOps] at he
    cases he
    exact Kp.refl _ _
  | o :: ros, fr, h, x, ws, hs, he => by
    have h1 : ∀ y, o.dst = some y → y ∈ ws := fun y hy => hs y (by simp [hy])
    have h2 : ∀ j, j ∈ ros.filterMap (·.dst) → j ∈ ws := fun j hj => hs j (by
      rw [List.filterMap_cons]
      split
      · exact hj
      · exact List.mem_cons_of_mem _ hj)
    simp only [evalOps] at he
    cases hw : wantedA fr o.guard with
    | none => rw [hw] at he; cases he
    | some b =>
      rw [hw] at he
      cases b with
      | false => exact (Kp.put fr o.dst _ h1).trans (ops_keep h2 he)
      | true =>
        dsimp only at he
        cases hop : evalOp O c o.op fr h with
        | none => rw [hop] at he; cases he
        | some y =>
          rw [hop] at he
          exact (Kp.put fr o.dst _ h1).trans (ops_keep h2 he)

theorem iter_keep {step : St → Option (Ex × St)} {ws : List Nat} (hs : ∀ s x, step s = some x → Kp ws s.1 x.2.1) : ∀ (n : Nat) (s : St) (x : Ex × St), iter step n s = some x → Kp ws s.1 x.2.1
  | 0, s, x, he => by simp [iter] at he
  | n + 1, s, x, he => by
    simp only [iter] at he
    cases h1 : step s with
    | none => rw [h1] at he; cases he
    | some y =>
      rw [h1] at he
      have k := hs s y h1
      obtain ⟨e, s'⟩ := y
      cases e with
      | normal => exact k.trans (iter_keep hs n s' x he)
      | exit id => cases he; exact k
      | ret => cases he; exact k

theorem code_keep : ∀ (rc : RCode) (s : St) (x : Ex × St), evalCode (lim C) c rc s = some x → Kp rc.wr s.1 x.2.1 := by
  intro rc
  induction rc with
  | skip => intro s x he; cases he; exact Kp.refl _ _
  | region d ros =>
    intro s x he
    simp only [evalCode] at he
    cases hs : evalOps (lim C) c ros s.1 s.2 with
    | none => rw [hs] at he; cases he
    | some y =>
      rw [hs] at he
      cases he
      exact ops_keep (fun j hj => hj) hs
  | seq a b iha ihb =>
    intro s x he
    simp only [evalCode] at he
    cases hs : evalCode (lim C) c a s with
    | none => rw [hs] at he; cases he
    | some y =>
      rw [hs] at he
      have k := (iha s y hs).mono (ws' := (RCode.seq a b).wr) fun j hj => List.mem_append_left _ hj
      obtain ⟨e, s'⟩ := y
      cases e with
      | normal => exact k.trans ((ihb _ _ he).mono fun j hj => List.mem_append_right _ hj)
      | exit id => cases he; exact k
      | ret => cases he; exact k
  | cond q a b iha ihb =>
    intro s x he
    simp only [evalCode] at he
    split at he
    · exact (iha _ _ he).mono fun j hj => List.mem_append_left _ hj
    · exact (ihb _ _ he).mono fun j hj => List.mem_append_right _ hj
    · cases he
  | block id a ih =>
    intro s x he
    simp only [evalCode] at he
    cases hs : evalCode (lim C) c a s with
    | none => rw [hs] at he; cases he
    | some y =>
      rw [hs] at he
      have k := ih s y hs
      obtain ⟨e, s'⟩ := y
      cases e with
      | normal => cases he; exact k
      | exit i =>
        simp only at he
        split at he <;> cases he <;> exact k
      | ret => cases he; exact k
  | loop a ih =>
    intro s x he
    obtain ⟨n, hn⟩ := lp_iter he
    exact iter_keep ih n s x hn
  | exit id => intro s x he; cases he; exact Kp.refl _ _
  | ret => intro s x he; cases he; exact Kp.refl _ _

theorem Ends_keep {rc : RCode} {ws : List Nat} (hw : rc.wr = ws) {fr : Fr} {h : AH} {Ψ : Ex → Fr → AH → Prop} (H : Ends (evalCode (lim C) c rc (fr, h)) Ψ) : Ends (evalCode (lim C) c rc (fr, h)) fun e fr' h' => Kp ws fr fr' ∧ Ψ e fr' h' := by
  subst hw
  obtain ⟨e, fr', h', he, hp⟩ := H.elim'
  have k := code_keep rc _ _ he
  rw [he]
  exact ⟨k, hp⟩

/-- A loop, by an invariant with a number that falls; what the body does not write to stays. -/
theorem Ends_lpk {body : RCode} {Ψ : Ex → Fr → AH → Prop} {ws : List Nat} (hw : body.wr = ws) (fr0 : Fr) (Inv : Nat → Fr → AH → Prop)
    (H : ∀ n fr h, Kp ws fr0 fr → Inv n fr h → Ends (evalCode (lim C) c body (fr, h)) fun e fr' h' => (e = .normal ∧ ∃ m, m < n ∧ Inv m fr' h') ∨ (e ≠ .normal ∧ Ψ e fr' h'))
    (n : Nat) (h : AH) (hi : Inv n fr0 h) : Ends (lp (evalCode (lim C) c body) (fr0, h)) fun e fr' h' => Kp ws fr0 fr' ∧ Ψ e fr' h' := by
  refine Ends_lp (fun n fr h => Kp ws fr0 fr ∧ Inv n fr h) (fun n fr h ⟨k, hi⟩ => ?_) n fr0 h ⟨Kp.refl _ _, hi⟩
  refine (Ends_keep hw (H n fr h k hi)).mono fun e fr' h' ⟨k', hp⟩ => ?_
  rcases hp with ⟨h1, m, h2, h3⟩ | ⟨h1, h2⟩
  · exact .inl ⟨h1, m, h2, k.trans k', h3⟩
  · exact .inr ⟨h1, k.trans k', h2⟩
end

/-- The same, with the invariant behind a name, so that simp leaves it alone. -/
theorem Ends_lpw {C : Cfg} {c : Ctx} {body : RCode} {Ψ : Ex → Fr → AH → Prop} {ws : List Nat} (hw : body.wr = ws) (fr0 : Fr) (Inv : Nat → Fr → AH → Prop)
    (H : ∀ (J : Nat → Fr → AH → Prop) (Φ : Ex → Fr → AH → Prop), (∀ n fr h, Inv n fr h → J n fr h) → (∀ e fr h, Ψ e fr h → Φ e fr h) → ∀ n fr h, Kp ws fr0 fr → Inv n fr h →
      Ends (evalCode (lim C) c body (fr, h)) fun e fr' h' => (e = .normal ∧ ∃ m, m < n ∧ J m fr' h') ∨ (e ≠ .normal ∧ Φ e fr' h'))
    (n : Nat) (h : AH) (hi : Inv n fr0 h) : Ends (lp (evalCode (lim C) c body) (fr0, h)) fun e fr' h' => Kp ws fr0 fr' ∧ Ψ e fr' h' :=
  Ends_lpk hw fr0 Inv (H Inv Ψ (fun _ _ _ h => h) (fun _ _ _ h => h)) n h hi

/-- At a pure function's end, by what holds of its result. -/
def EFIN (rs : List RRes) (Φ : AV → Prop) : Ex → Fr → AH → Prop
  | .exit _, _, _ => False
  | _, fr, h => ∃ r, fin rs fr h = some r ∧ Φ r
@[simp] theorem EFIN_n (rs : List RRes) (Φ : AV → Prop) (fr : Fr) (h : AH) : EFIN rs Φ .normal fr h = (∃ r, fin rs fr h = some r ∧ Φ r) := _root_.id rfl
@[simp] theorem EFIN_r (rs : List RRes) (Φ : AV → Prop) (fr : Fr) (h : AH) : EFIN rs Φ .ret fr h = (∃ r, fin rs fr h = some r ∧ Φ r) := _root_.id rfl

theorem pc_ends_ex0 {C : Cfg} {f : FuncId} {rf : RFunc} {args : List AV} {Φ : AV → Prop} (hs : C.spec f = none) (hc : C.code f = some rf) (hl : args.length ≤ rf.ntmps)
    (H : ∀ fr : Fr, fr.length = rf.ntmps → (∀ i, look fr i = args.getD i undefA) → Ends (evalCode (lim C) (C.ctx f) rf.body (fr, ⟨[], []⟩)) (EFIN rf.results Φ)) : ∃ r, pc C f args = some r ∧ Φ r := by
  obtain ⟨hl', hlook⟩ := look_start hl
  obtain ⟨e, fr', h', he, hp⟩ := (H _ hl' hlook).elim'
  have key : ∃ r, fin rf.results fr' h' = some r ∧ Φ r := by
    cases e with
    | exit i => exact hp.elim
    | normal => exact hp
    | ret => exact hp
  obtain ⟨r, hr, hΦ⟩ := key
  refine ⟨r, pc_run hs hc hl fun fr h1 h2 => ?_, hΦ⟩
  have hfr : fr = startFr rf args := by
    apply List.ext_getElem (h1.trans hl'.symm)
    intro i g1 g2
    have a := h2 i
    have b := hlook i
    simp only [look, List.getD, List.getElem?_eq_getElem g1, List.getElem?_eq_getElem g2, Option.getD_some] at a b
    exact a.trans b.symm
  subst hfr
  rw [he]
  cases e with
  | exit i => exact hp.elim
  | normal => exact hr
  | ret => exact hr
/-- The same, with what holds of the result behind a name, so that simp leaves it alone. -/
theorem pc_ends_ex {C : Cfg} {f : FuncId} {rf : RFunc} {args : List AV} {Φ : AV → Prop} (hs : C.spec f = none) (hc : C.code f = some rf) (hl : args.length ≤ rf.ntmps)
    (H : ∀ Ψ : AV → Prop, (∀ r, Φ r → Ψ r) → ∀ fr : Fr, fr.length = rf.ntmps → (∀ i, look fr i = args.getD i undefA) → Ends (evalCode (lim C) (C.ctx f) rf.body (fr, ⟨[], []⟩)) (EFIN rf.results Ψ)) : ∃ r, pc C f args = some r ∧ Φ r :=
  pc_ends_ex0 hs hc hl (H Φ fun _ h => h)

@[simp] theorem tame_int (h : AH) (k : IntKind) (n : Int) : tame h (.int k n) = true := _root_.id rfl
@[simp] theorem tame_bool (h : AH) (b : Bool) : tame h (.bool b) = true := _root_.id rfl
@[simp] theorem tame_str (h : AH) (s : ByteArray) : tame h (.str s) = true := _root_.id rfl
@[simp] theorem tame_agg (h : AH) (cs : List AV) : tame h (.agg cs) = cs.all (tame1 h) := _root_.id rfl
@[simp] theorem tame1_int (h : AH) (k : IntKind) (n : Int) : tame1 h (.int k n) = true := _root_.id rfl
@[simp] theorem tame1_bool (h : AH) (b : Bool) : tame1 h (.bool b) = true := _root_.id rfl
@[simp] theorem tame1_str (h : AH) (s : ByteArray) : tame1 h (.str s) = true := _root_.id rfl
@[simp] theorem tame_vs (h : AH) (f : Bool) (sz : Nat) (xs : List AV) : tame h (.vs f sz xs) = true := _root_.id rfl
@[simp] theorem tame1_vs (h : AH) (f : Bool) (sz : Nat) (xs : List AV) : tame1 h (.vs f sz xs) = true := _root_.id rfl
@[simp] theorem isTup_view (k n off len : Nat) : (AV.sl k n off len).isTup = false := _root_.id rfl
@[simp] theorem cells_view (k n off len : Nat) : (AV.sl k n off len).cells = [.sl k n off len] := _root_.id rfl
@[simp] theorem isTup_ptr (b off : Nat) : (AV.ptr b off).isTup = false := _root_.id rfl
@[simp] theorem cells_ptr (b off : Nat) : (AV.ptr b off).cells = [.ptr b off] := _root_.id rfl
@[simp] theorem isTup_vs (f : Bool) (sz : Nat) (xs : List AV) : (AV.vs f sz xs).isTup = false := _root_.id rfl
@[simp] theorem cells_vs (f : Bool) (sz : Nat) (xs : List AV) : (AV.vs f sz xs).cells = [.vs f sz xs] := _root_.id rfl
end Go.Abs

/- Contracts: is a number, a string in a list? -/
namespace Go.Abs.Q
attribute [local simp] look_set_ne look_set_eq fin tupled code_loop raw_slices_Index_int raw_slices_Contains_int raw_slices_Index_string raw_slices_Contains_string raw_ref15_find

theorem slc_drop (h : AH) (m : Bool × Bool) (sz : Nat) (hsz : 0 < sz) (xs : List AV) (k : Nat) (hk : k ≤ xs.length) :
    slcA h sz (sl m sz xs) (some (some (k : Int))) (some none) (some none) = some (sl (m.1, m.2 || !xs.isEmpty) sz (xs.drop k), h) := by
  rw [slcA_sl _ _ _ hsz]
  have e : ((xs.length : Int) - (k : Int)).toNat = xs.length - k := by omega
  simp only [Option.getD_some, Option.getD_none, decide_true, Bool.and_true, Int.toNat_natCast, e]
  rw [if_pos ⟨by omega, by omega, by omega⟩, List.take_of_length_le (by simp)]
theorem slc_take (h : AH) (m : Bool × Bool) (sz : Nat) (hsz : 0 < sz) (xs : List AV) (k : Nat) (hk : k ≤ xs.length) :
    slcA h sz (sl m sz xs) (some none) (some (some (k : Int))) (some none) = some (sl (m.1 && decide (k = xs.length), m.2 || !xs.isEmpty) sz (xs.take k), h) := by
  rw [slcA_sl _ _ _ hsz]
  have e : decide ((k : Int) = (xs.length : Int)) = decide (k = xs.length) := by
    rw [Bool.eq_iff_iff]
    simp only [decide_eq_true_eq]
    omega
  simp only [Option.getD_some, Option.getD_none, Int.sub_zero, Int.toNat_natCast, e, Int.toNat_zero, List.drop_zero]
  rw [if_pos ⟨by omega, by omega, by omega⟩]

/-- The place of the first one that is so, or -1. -/
def idxFrom {α : Type} (p : α → Bool) : Nat → List α → Int
  | _, [] => -1
  | i, a :: r => if p a = true then (i : Int) else idxFrom p (i + 1) r
def idx {α : Type} (p : α → Bool) (l : List α) : Int := idxFrom p 0 l

theorem idxFrom_ge {α : Type} (p : α → Bool) : ∀ (l : List α) (i : Nat), (0 ≤ idxFrom p i l) ↔ l.any p = true
  | [], i => by simp [idxFrom]
  | a :: l, i => by
    simp only [idxFrom, List.any_cons, Bool.or_eq_true]
    by_cases h : p a = true
    · simp [h]
    · rw [if_neg h, idxFrom_ge p l (i + 1)]
      simp [h]

theorem loop_Index_int (m : Bool × Bool) (l : List Int) (x : Int) (hlen : l.length ≤ 1099511627776) (fr : Fr) (h : AH) (hl : fr.length = 19)
    (h0 : look fr 0 = sl m 1 (l.map (AV.int .i64))) (h1 : look fr 1 = .int .i64 x) (h7 : look fr 7 = .int .i64 l.length) (h8 : look fr 8 = .int .i64 0) :
    Ends (lp (evalCode (lim Q) (ctxF n_slices_Index_int) x_slices_Index_int_0) (fr, h)) fun e fr' h' => Kp x_slices_Index_int_0.wr fr fr' ∧ (e = .exit 0 ∧ idx (fun a => decide (x = a)) l = -1 ∨ e = .ret ∧ look fr' 4 = .int .i64 (idx (fun a => decide (x = a)) l)) := by
  refine Ends_lpk rfl fr (fun n fr h => ∃ i, i + n = l.length ∧ look fr 8 = .int .i64 (i : Nat) ∧ idxFrom (fun a => decide (x = a)) i (l.drop i) = idx (fun a => decide (x = a)) l) ?_ l.length h ⟨0, by omega, h8, rfl⟩
  rintro n fr1 h1' K ⟨i, hi, k8, hr⟩
  have hl1 : fr1.length = 19 := K.1.trans hl
  have k0 := (K.2 0 (by decide)).trans h0
  have k1 := (K.2 1 (by decide)).trans h1
  have k7 := (K.2 7 (by decide)).trans h7
  by_cases hlt : i < l.length
  · have hx := nth_map (f := AV.int .i64) (List.getElem?_eq_getElem hlt)
    have hw : IntKind.i64.wrap ((i : Int) + 1) = (i : Int) + 1 := wrap_id (by omega) (by omega)
    rw [List.drop_eq_getElem_cons hlt] at hr
    simp only [idxFrom] at hr
    generalize l[i] = a at *
    by_cases hc : x = a
    · rw [if_pos (by simpa using hc)] at hr
      simp [x_slices_Index_int_0, hl1, k0, k1, k7, k8, hlt, hx, hw, hc]
      rw [← hc]; exact hr
    · rw [if_neg (by simpa using hc)] at hr
      simp [x_slices_Index_int_0, hl1, k0, k1, k7, k8, hlt, hx, hw, hc]
      exact ⟨n - 1, by omega, i + 1, by omega, by simp, hr⟩
  · rw [List.drop_eq_nil_of_le (by omega)] at hr
    simp [x_slices_Index_int_0, hl1, k7, k8, hlt]
    exact hr.symm

theorem pc_IndexInt (m : Bool × Bool) (l : List Int) (x : Int) (hlen : l.length ≤ 1099511627776) : pc Q n_slices_Index_int [intsV m l, .int .i64 x] = some (.int .i64 (idx (fun a => decide (x = a)) l)) := by
  refine pcQ res_slices_Index_int rfl (by simp [x_slices_Index_int]) fun fr hl ha => ?_
  have h0 := ha 0
  have h1 := ha 1
  clear ha
  simp [x_slices_Index_int, intsV] at hl h0 h1
  simp [x_slices_Index_int, hl, h0]
  refine (loop_Index_int m l x hlen _ _ (by simp [hl]) (by simp [hl, h0]) (by simp [hl, h1]) (by simp [hl]) (by simp [hl])).mono ?_
  rintro e fr' h' ⟨K, ⟨rfl, he⟩ | ⟨rfl, h4⟩⟩
  · have hl' : fr'.length = 19 := K.1.trans (by simp [hl])
    simp [hl', he]
  · simp [h4]

theorem pc_ContainsInt (m : Bool × Bool) (l : List Int) (x : Int) (hlen : l.length ≤ 1099511627776) : pc Q n_slices_Contains_int [intsV m l, .int .i64 x] = some (.bool (l.contains x)) := by
  have hI := pc_IndexInt m l x hlen
  have he : decide (0 ≤ idx (fun a => decide (x = a)) l) = l.contains x := by
    rw [Bool.eq_iff_iff, decide_eq_true_iff, idx, idxFrom_ge]
    simp
  refine pcQ res_slices_Contains_int rfl (by simp [x_slices_Contains_int]) fun fr hl ha => ?_
  have h0 := ha 0
  have h1 := ha 1
  clear ha
  simp [x_slices_Contains_int, intsV] at hl h0 h1 hI
  simp [x_slices_Contains_int, hl, h0, h1, hI]
  simpa using he
end Go.Abs.Q

/- Contracts: names. -/
namespace Go.Abs.Q
attribute [local simp] look_set_ne look_set_eq fin tupled code_loop raw_term_part raw_ref01_letter raw_ref01_digit raw_term_isName raw_ref01_IsName raw_ref15_hash

theorem dec_t {p : Prop} [Decidable p] (h : p) : decide p = true := by simp [h]
theorem dec_f {p : Prop} [Decidable p] (h : ¬p) : decide p = false := by simp [h]

def letB (c : Nat) : Bool := decide (97 ≤ c ∧ c ≤ 122) || decide (65 ≤ c ∧ c ≤ 90)
def digB (c : Nat) : Bool := decide (48 ≤ c ∧ c ≤ 57)
def parB (c : Nat) : Bool := letB c || digB c || decide (c = 95) || decide (c = 35)

theorem ranges (c : Nat) : c < 35 ∨ c = 35 ∨ (36 ≤ c ∧ c ≤ 47) ∨ (48 ≤ c ∧ c ≤ 57) ∨ (58 ≤ c ∧ c ≤ 64) ∨ (65 ≤ c ∧ c ≤ 90) ∨ (91 ≤ c ∧ c ≤ 94) ∨ c = 95 ∨ c = 96 ∨ (97 ≤ c ∧ c ≤ 122) ∨ 123 ≤ c := by omega

theorem pc_part (c : Nat) : pc Q n_term_part [.int .u8 c] = some (.bool (parB c)) := by
  refine pcQ res_term_part rfl (by simp [x_term_part]) fun fr hl ha => ?_
  have h0 := ha 0
  clear ha
  simp [x_term_part] at hl h0
  rcases ranges c with h | h | h | h | h | h | h | h | h | h | h <;> simp (disch := omega) only [parB, letB, digB, dec_t, dec_f, Bool.true_or, Bool.or_true, Bool.false_or, Bool.or_false] <;> simp (disch := first | omega | (simp only [List.length_set]; omega)) [x_term_part, h0, hl, dec_t, dec_f]

theorem pc_letter (c : Nat) : pc Q n_ref01_letter [.int .u8 c] = some (.bool (letB c)) := by
  refine pcQ res_ref01_letter rfl (by simp [x_ref01_letter]) fun fr hl ha => ?_
  have h0 := ha 0
  clear ha
  simp [x_ref01_letter] at hl h0
  rcases ranges c with h | h | h | h | h | h | h | h | h | h | h <;> simp (disch := omega) only [parB, letB, digB, dec_t, dec_f, Bool.true_or, Bool.or_true, Bool.false_or, Bool.or_false] <;> simp (disch := first | omega | (simp only [List.length_set]; omega)) [x_ref01_letter, h0, hl, dec_t, dec_f]

theorem pc_digit (c : Nat) : pc Q n_ref01_digit [.int .u8 c] = some (.bool (digB c)) := by
  refine pcQ res_ref01_digit rfl (by simp [x_ref01_digit]) fun fr hl ha => ?_
  have h0 := ha 0
  clear ha
  simp [x_ref01_digit] at hl h0
  rcases ranges c with h | h | h | h | h | h | h | h | h | h | h <;> simp (disch := omega) only [parB, letB, digB, dec_t, dec_f, Bool.true_or, Bool.or_true, Bool.false_or, Bool.or_false] <;> simp (disch := first | omega | (simp only [List.length_set]; omega)) [x_ref01_digit, h0, hl, dec_t, dec_f]

/-- The bytes of a string. -/
abbrev bys (s : ByteArray) : List UInt8 := s.data.toList
theorem bys_get (s : ByteArray) (j : Nat) : s[j]? = (bys s)[j]? := by
  obtain ⟨⟨l⟩⟩ := s
  by_cases h : j < l.length
  · have h1 : j < ByteArray.size ⟨⟨l⟩⟩ := h
    rw [getElem?_pos (⟨⟨l⟩⟩ : ByteArray) j h1]
    simp only [bys]
    rw [List.getElem?_eq_getElem h]
    rfl
  · have h1 : ¬j < ByteArray.size ⟨⟨l⟩⟩ := h
    rw [getElem?_neg (⟨⟨l⟩⟩ : ByteArray) j h1]
    simp only [bys]
    rw [List.getElem?_eq_none (by omega)]
theorem bys_len (s : ByteArray) : (bys s).length = s.size := by
  obtain ⟨⟨l⟩⟩ := s
  rfl

/-- Is a string a name? -/
def nameB (s : ByteArray) : Bool := match bys s with | [] => false | c :: r => decide (s.size ≤ 24) && letB c.toNat && (c :: r).all fun c => parB c.toNat
def hashB (s : ByteArray) : Bool := (bys s).contains 35

theorem loop_isName (s : ByteArray) (hs : s.size ≤ 24) (fr : Fr) (h : AH) (hl : fr.length = 48) (h0 : look fr 0 = .str s) (h38 : look fr 38 = .int .i64 s.size) (h39 : look fr 39 = .int .i64 0) :
    Ends (lp (evalCode (lim Q) (ctxF n_term_isName) x_term_isName_0) (fr, h)) fun e fr' h' => Kp x_term_isName_0.wr fr fr' ∧ (e = .exit 0 ∧ ((bys s).all fun c => parB c.toNat) = true ∨ e = .ret ∧ look fr' 2 = .bool false ∧ ((bys s).all fun c => parB c.toNat) = false) := by
  refine Ends_lpw rfl fr (fun n fr h => ∃ i : Nat, i + n = s.size ∧ look fr 39 = .int .i64 (i : Nat) ∧ (((bys s).drop i).all fun c => parB c.toNat) = ((bys s).all fun c => parB c.toNat)) ?_ s.size h ⟨0, by omega, h39, rfl⟩
  rintro J Φ hJ hΦ n fr1 h1' K ⟨i, hi, k39, hr⟩
  have hl1 : fr1.length = 48 := K.1.trans hl
  have k0 := (K.2 0 (by decide)).trans h0
  have k38 := (K.2 38 (by decide)).trans h38
  have hlen := bys_len s
  by_cases hlt : i < s.size
  · have hlt' : i < (bys s).length := by omega
    have hx : s[i]? = some (bys s)[i] := by rw [bys_get, List.getElem?_eq_getElem hlt']
    have hw : IntKind.i64.wrap ((i : Int) + 1) = (i : Int) + 1 := wrap_id (by omega) (by omega)
    rw [List.drop_eq_getElem_cons hlt', List.all_cons] at hr
    generalize (bys s)[i] = c at *
    have hP := pc_part c.toNat
    have hsi : s[i]'hlt = c := by rw [getElem?_pos s i hlt] at hx; exact Option.some.inj hx
    cases hc : parB c.toNat with
    | true =>
      rw [hc] at hP hr
      simp [x_term_isName_0, hl1, k0, k38, k39, hlt, hsi, hw, hP]
      exact ⟨n - 1, by omega, hJ _ _ _ ⟨i + 1, by omega, by simp [hl1], by simpa using hr⟩⟩
    | false =>
      rw [hc] at hP hr
      simp [x_term_isName_0, hl1, k0, k38, k39, hlt, hsi, hw, hP]
      exact hΦ _ _ _ (.inr ⟨rfl, by simp [hl1], by simpa using hr.symm⟩)
  · rw [List.drop_eq_nil_of_le (by omega)] at hr
    simp [x_term_isName_0, hl1, k38, k39, hlt]
    exact hΦ _ _ _ (.inl ⟨rfl, by simpa using hr.symm⟩)

theorem bys_nil {s : ByteArray} (h : bys s = []) : s = bs [] := by
  obtain ⟨⟨l⟩⟩ := s
  simp [bys] at h
  subst h
  rfl

theorem pc_isName (s : ByteArray) : pc Q n_term_isName [.str s] = some (.bool (nameB s)) := by
  have hlen := bys_len s
  refine pcQ res_term_isName rfl (by simp [x_term_isName]) fun fr hl ha => ?_
  have h0 := ha 0
  clear ha
  simp [x_term_isName] at hl h0
  cases hb : bys s with
  | nil =>
    have e := bys_nil hb
    subst e
    simp [x_term_isName, hl, h0, nameB, hb]
  | cons c r =>
    rw [hb] at hlen
    simp only [List.length_cons] at hlen
    have hne : ¬(s.toList = (bs []).toList) := by
      rw [Lib.toList_data, Lib.toList_data, show s.data.toList = c :: r from hb]
      intro e
      cases e
    have hpos : 0 < s.size := by omega
    have hx : s[0]? = some c := by rw [bys_get, hb]; rfl
    have hsi : s[0]'hpos = c := by rw [getElem?_pos s 0 hpos] at hx; exact Option.some.inj hx
    by_cases h24 : 24 < s.size
    · have h24' : (24 : Int) < (s.size : Int) := by omega
      have h24n : ¬s.size ≤ 24 := by omega
      simp [x_term_isName, hl, h0, hne, h24', nameB, hb, h24n]
    · have h24' : ¬(24 : Int) < (s.size : Int) := by omega
      have h24n : s.size ≤ 24 := by omega
      have hP := pc_part c.toNat
      cases hL : letB c.toNat with
      | false =>
        have hv : nameB s = false := by simp [nameB, hb, hL]
        rw [hv]
        cases hp : parB c.toNat with
        | false =>
          rw [hp] at hP
          simp [x_term_isName, hl, h0, hne, h24', hpos, hsi, hP]
        | true =>
          rw [hp] at hP
          have hcc : (48 ≤ c.toNat ∧ c.toNat ≤ 57) ∨ c.toNat = 95 ∨ c.toNat = 35 := by
            simp only [parB, hL, digB, Bool.false_or, Bool.or_eq_true, decide_eq_true_eq] at hp
            omega
          generalize hzv : c.toNat = z at *
          rcases hcc with hz | hz | hz <;> simp (disch := first | omega | (simp only [List.length_set]; omega)) [x_term_isName, hl, h0, hne, h24', hpos, hsi, hzv, hP, dec_t, dec_f]
      | true =>
        have hp : parB c.toNat = true := by simp [parB, hL]
        rw [hp] at hP
        have hcc : (97 ≤ c.toNat ∧ c.toNat ≤ 122) ∨ (65 ≤ c.toNat ∧ c.toNat ≤ 90) := by
          simp only [letB, Bool.or_eq_true, decide_eq_true_eq] at hL
          exact hL
        have hv : nameB s = (bys s).all fun c => parB c.toNat := by simp [nameB, hb, hL, h24n]
        rw [hv]
        have key : ∀ b, ((bys s).all fun c => parB c.toNat) = b → Ends (evalCode (lim Q) (ctxF n_term_isName) x_term_isName.body (fr, ⟨[], []⟩)) (FIN x_term_isName.results (.bool b)) := by
          intro b hbv
          generalize hzv : c.toNat = z at *
          have q1 : ¬(z : Int) = 95 := by omega
          have q2 : ¬(z : Int) = 35 := by omega
          have q3 : ¬((z : Int) ≤ 57) := by omega
          have q4 : (48 : Int) ≤ (z : Int) := by omega
          simp [x_term_isName, hl, h0, hne, h24', hpos, hsi, hzv, hP, q1, q2, q3, q4]
          refine (loop_isName s h24n _ _ (by simp [hl]) (by simp [hl, h0]) (by simp [hl]) (by simp [hl])).mono ?_
          rintro e fr' h' ⟨K, ⟨rfl, he⟩ | ⟨rfl, h2, he⟩⟩
          · have hl' : fr'.length = 48 := K.1.trans (by simp [hl])
            rw [hbv] at he
            simp [hl', he]
          · rw [hbv] at he
            simp [h2, he]
        exact key _ rfl

theorem rloop_IsName (s : ByteArray) (hs : s.size ≤ 24) (fr : Fr) (h : AH) (hl : fr.length = 48) (h0 : look fr 0 = .str s) (h3 : look fr 3 = .int .i64 0) :
    Ends (lp (evalCode (lim Q) (ctxF n_ref01_IsName) x_ref01_IsName_0) (fr, h)) fun e fr' h' => Kp x_ref01_IsName_0.wr fr fr' ∧ (e = .exit 0 ∧ ((bys s).all fun c => parB c.toNat) = true ∨ e = .ret ∧ look fr' 2 = .bool false ∧ ((bys s).all fun c => parB c.toNat) = false) := by
  refine Ends_lpw rfl fr (fun n fr h => ∃ i : Nat, i + n = s.size ∧ look fr 3 = .int .i64 (i : Nat) ∧ (((bys s).drop i).all fun c => parB c.toNat) = ((bys s).all fun c => parB c.toNat)) ?_ s.size h ⟨0, by omega, h3, rfl⟩
  rintro J Φ hJ hΦ n fr1 h1' K ⟨i, hi, k3, hr⟩
  have hl1 : fr1.length = 48 := K.1.trans hl
  have k0 := (K.2 0 (by decide)).trans h0
  have hlen := bys_len s
  by_cases hlt : i < s.size
  · have hlt' : i < (bys s).length := by omega
    have hx : s[i]? = some (bys s)[i] := by rw [bys_get, List.getElem?_eq_getElem hlt']
    have hw : IntKind.i64.wrap ((i : Int) + 1) = (i : Int) + 1 := wrap_id (by omega) (by omega)
    rw [List.drop_eq_getElem_cons hlt', List.all_cons] at hr
    generalize (bys s)[i] = c at *
    have hL := pc_letter c.toNat
    have hD := pc_digit c.toNat
    have hsi : s[i]'hlt = c := by rw [getElem?_pos s i hlt] at hx; exact Option.some.inj hx
    have fwd : parB c.toNat = true → (((bys s).drop (i + 1)).all fun c => parB c.toNat) = ((bys s).all fun c => parB c.toNat) := fun hp => by rw [hp] at hr; simpa using hr
    have bad : parB c.toNat = false → ((bys s).all fun c => parB c.toNat) = false := fun hp => by rw [hp] at hr; simpa using hr.symm
    clear hr
    generalize hz : c.toNat = z at *
    cases hLv : letB z with
    | true =>
      rw [hLv] at hL
      simp [x_ref01_IsName_0, hl1, k0, k3, hlt, hsi, hz, hw, hL]
      exact ⟨n - 1, by omega, hJ _ _ _ ⟨i + 1, by omega, by simp [hl1], fwd (by simp [parB, hLv])⟩⟩
    | false =>
      rw [hLv] at hL
      cases hDv : digB z with
      | true =>
        rw [hDv] at hD
        simp [x_ref01_IsName_0, hl1, k0, k3, hlt, hsi, hz, hw, hL, hD]
        exact ⟨n - 1, by omega, hJ _ _ _ ⟨i + 1, by omega, by simp [hl1], fwd (by simp [parB, hDv])⟩⟩
      | false =>
        rw [hDv] at hD
        by_cases h95 : z = 95
        · subst h95
          simp only [Int.cast_ofNat_Int] at hL hD
          simp [x_ref01_IsName_0, hl1, k0, k3, hlt, hsi, hz, hw, hL, hD]
          exact ⟨n - 1, by omega, hJ _ _ _ ⟨i + 1, by omega, by simp [hl1], fwd (by simp [parB])⟩⟩
        · have h95' : ¬(z : Int) = 95 := by omega
          by_cases h35 : z = 35
          · subst h35
            simp only [Int.cast_ofNat_Int] at hL hD
            simp [x_ref01_IsName_0, hl1, k0, k3, hlt, hsi, hz, hw, hL, hD]
            exact ⟨n - 1, by omega, hJ _ _ _ ⟨i + 1, by omega, by simp [hl1], fwd (by simp [parB])⟩⟩
          · have h35' : ¬(z : Int) = 35 := by omega
            simp [x_ref01_IsName_0, hl1, k0, k3, hlt, hsi, hz, hw, hL, hD, h95', h35']
            exact hΦ _ _ _ (.inr ⟨rfl, by simp [hl1], bad (by simp [parB, hLv, hDv, h95, h35])⟩)
  · rw [List.drop_eq_nil_of_le (by omega)] at hr
    simp [x_ref01_IsName_0, hl1, k0, k3, hlt]
    exact hΦ _ _ _ (.inl ⟨rfl, by simpa using hr.symm⟩)

theorem pc_IsName (s : ByteArray) : pc Q n_ref01_IsName [.str s] = some (.bool (nameB s)) := by
  have hlen := bys_len s
  refine pcQ res_ref01_IsName rfl (by simp [x_ref01_IsName]) fun fr hl ha => ?_
  have h0 := ha 0
  clear ha
  simp [x_ref01_IsName] at hl h0
  cases hb : bys s with
  | nil =>
    have e := bys_nil hb
    subst e
    simp [x_ref01_IsName, hl, h0, nameB, hb, show (bs []).size = 0 from rfl]
  | cons c r =>
    rw [hb] at hlen
    simp only [List.length_cons] at hlen
    have hne : ¬(s.size : Int) = 0 := by omega
    have hne' : ¬s.size = 0 := by omega
    have hpos : 0 < s.size := by omega
    have hx : s[0]? = some c := by rw [bys_get, hb]; rfl
    have hsi : s[0]'hpos = c := by rw [getElem?_pos s 0 hpos] at hx; exact Option.some.inj hx
    by_cases h24 : 24 < s.size
    · have h24' : (24 : Int) < (s.size : Int) := by omega
      have h24n : ¬s.size ≤ 24 := by omega
      simp [x_ref01_IsName, hl, h0, hne, hne', h24', nameB, hb, h24n]
    · have h24' : ¬(24 : Int) < (s.size : Int) := by omega
      have h24n : s.size ≤ 24 := by omega
      have hL := pc_letter c.toNat
      cases hLv : letB c.toNat with
      | false =>
        rw [hLv] at hL
        have hv : nameB s = false := by simp [nameB, hb, hLv]
        rw [hv]
        simp [x_ref01_IsName, hl, h0, hne, hne', h24', hpos, hsi, hL]
      | true =>
        rw [hLv] at hL
        have hv : nameB s = (bys s).all fun c => parB c.toNat := by simp [nameB, hb, hLv, h24n]
        rw [hv]
        have key : ∀ b, ((bys s).all fun c => parB c.toNat) = b → Ends (evalCode (lim Q) (ctxF n_ref01_IsName) x_ref01_IsName.body (fr, ⟨[], []⟩)) (FIN x_ref01_IsName.results (.bool b)) := by
          intro b hbv
          simp [x_ref01_IsName, hl, h0, hne, hne', h24', hpos, hsi, hL]
          refine (rloop_IsName s h24n _ _ (by simp [hl]) (by simp [hl, h0]) (by simp [hl])).mono ?_
          rintro e fr' h' ⟨K, ⟨rfl, he⟩ | ⟨rfl, h2, he⟩⟩
          · have hl' : fr'.length = 48 := K.1.trans (by simp [hl])
            rw [hbv] at he
            simp [hl', he]
          · rw [hbv] at he
            simp [h2, he]
        exact key _ rfl
end Go.Abs.Q

/- Contracts: lists of strings. -/
namespace Go.Abs.Q
attribute [local simp] look_set_ne look_set_eq fin tupled code_loop raw_slices_Index_string raw_slices_Contains_string raw_ref15_find raw_ref15_hash

def strsV (m : Bool × Bool) (l : List ByteArray) : AV := sl m 1 (l.map AV.str)
def eqS (x a : ByteArray) : Bool := decide (x.toList = a.toList)

theorem loop_Index_string (m : Bool × Bool) (l : List ByteArray) (x : ByteArray) (hlen : l.length ≤ 1099511627776) (fr : Fr) (h : AH) (hl : fr.length = 19)
    (h0 : look fr 0 = sl m 1 (l.map AV.str)) (h1 : look fr 1 = .str x) (h7 : look fr 7 = .int .i64 l.length) (h8 : look fr 8 = .int .i64 0) :
    Ends (lp (evalCode (lim Q) (ctxF n_slices_Index_string) x_slices_Index_string_0) (fr, h)) fun e fr' h' => Kp x_slices_Index_string_0.wr fr fr' ∧ (e = .exit 0 ∧ idx (eqS x) l = -1 ∨ e = .ret ∧ look fr' 4 = .int .i64 (idx (eqS x) l)) := by
  refine Ends_lpw rfl fr (fun n fr h => ∃ i, i + n = l.length ∧ look fr 8 = .int .i64 (i : Nat) ∧ idxFrom (eqS x) i (l.drop i) = idx (eqS x) l) ?_ l.length h ⟨0, by omega, h8, rfl⟩
  rintro J Φ hJ hΦ n fr1 h1' K ⟨i, hi, k8, hr⟩
  have hl1 : fr1.length = 19 := K.1.trans hl
  have k0 := (K.2 0 (by decide)).trans h0
  have k1 := (K.2 1 (by decide)).trans h1
  have k7 := (K.2 7 (by decide)).trans h7
  by_cases hlt : i < l.length
  · have hx := nth_map (f := AV.str) (List.getElem?_eq_getElem hlt)
    have hw : IntKind.i64.wrap ((i : Int) + 1) = (i : Int) + 1 := wrap_id (by omega) (by omega)
    rw [List.drop_eq_getElem_cons hlt] at hr
    simp only [idxFrom, eqS, decide_eq_true_eq] at hr
    generalize l[i] = a at *
    by_cases hc : x.toList = a.toList
    · rw [if_pos hc] at hr
      simp [x_slices_Index_string_0, hl1, k0, k1, k7, k8, hlt, hx, hw, hc]
      exact hΦ _ _ _ (.inr ⟨rfl, by simp [hl1]; exact hr⟩)
    · rw [if_neg hc] at hr
      simp [x_slices_Index_string_0, hl1, k0, k1, k7, k8, hlt, hx, hw, hc]
      exact ⟨n - 1, by omega, hJ _ _ _ ⟨i + 1, by omega, by simp [hl1], hr⟩⟩
  · rw [List.drop_eq_nil_of_le (by omega)] at hr
    simp [x_slices_Index_string_0, hl1, k7, k8, hlt]
    exact hΦ _ _ _ (.inl ⟨rfl, hr.symm⟩)

theorem pc_IndexStr (m : Bool × Bool) (l : List ByteArray) (x : ByteArray) (hlen : l.length ≤ 1099511627776) : pc Q n_slices_Index_string [strsV m l, .str x] = some (.int .i64 (idx (eqS x) l)) := by
  refine pcQ res_slices_Index_string rfl (by simp [x_slices_Index_string]) fun fr hl ha => ?_
  have h0 := ha 0
  have h1 := ha 1
  clear ha
  simp [x_slices_Index_string, strsV] at hl h0 h1
  simp [x_slices_Index_string, hl, h0]
  refine (loop_Index_string m l x hlen _ _ (by simp [hl]) (by simp [hl, h0]) (by simp [hl, h1]) (by simp [hl]) (by simp [hl])).mono ?_
  rintro e fr' h' ⟨K, ⟨rfl, he⟩ | ⟨rfl, h4⟩⟩
  · have hl' : fr'.length = 19 := K.1.trans (by simp [hl])
    simp [hl', he]
  · simp [h4]

theorem pc_ContainsStr (m : Bool × Bool) (l : List ByteArray) (x : ByteArray) (hlen : l.length ≤ 1099511627776) : pc Q n_slices_Contains_string [strsV m l, .str x] = some (.bool (l.any (eqS x))) := by
  have hI := pc_IndexStr m l x hlen
  have he : decide (0 ≤ idx (eqS x) l) = l.any (eqS x) := by
    rw [Bool.eq_iff_iff, decide_eq_true_iff, idx, idxFrom_ge]
  refine pcQ res_slices_Contains_string rfl (by simp [x_slices_Contains_string]) fun fr hl ha => ?_
  have h0 := ha 0
  have h1 := ha 1
  clear ha
  simp [x_slices_Contains_string, strsV] at hl h0 h1 hI
  simp [x_slices_Contains_string, hl, h0, h1, hI]
  exact he

theorem rloop_find (m : Bool × Bool) (l : List ByteArray) (x : ByteArray) (hlen : l.length ≤ 1099511627776) (fr : Fr) (h : AH) (hl : fr.length = 19)
    (h0 : look fr 0 = sl m 1 (l.map AV.str)) (h1 : look fr 1 = .str x) (h5 : look fr 5 = .int .i64 0) :
    Ends (lp (evalCode (lim Q) (ctxF n_ref15_find) x_ref15_find_0) (fr, h)) fun e fr' h' => Kp x_ref15_find_0.wr fr fr' ∧ (e = .exit 0 ∧ idx (eqS x) l = -1 ∨ e = .ret ∧ look fr' 4 = .int .i64 (idx (eqS x) l)) := by
  refine Ends_lpw rfl fr (fun n fr h => ∃ i, i + n = l.length ∧ look fr 5 = .int .i64 (i : Nat) ∧ idxFrom (eqS x) i (l.drop i) = idx (eqS x) l) ?_ l.length h ⟨0, by omega, h5, rfl⟩
  rintro J Φ hJ hΦ n fr1 h1' K ⟨i, hi, k5, hr⟩
  have hl1 : fr1.length = 19 := K.1.trans hl
  have k0 := (K.2 0 (by decide)).trans h0
  have k1 := (K.2 1 (by decide)).trans h1
  by_cases hlt : i < l.length
  · have hx := nth_map (f := AV.str) (List.getElem?_eq_getElem hlt)
    have hw : IntKind.i64.wrap ((i : Int) + 1) = (i : Int) + 1 := wrap_id (by omega) (by omega)
    rw [List.drop_eq_getElem_cons hlt] at hr
    simp only [idxFrom, eqS, decide_eq_true_eq] at hr
    generalize l[i] = a at *
    by_cases hc : x.toList = a.toList
    · rw [if_pos hc] at hr
      simp [x_ref15_find_0, hl1, k0, k1, k5, hlt, hx, hw, hc]
      exact hΦ _ _ _ (.inr ⟨rfl, by simp [hl1]; exact hr⟩)
    · have hc' : ¬a.toList = x.toList := fun e => hc e.symm
      rw [if_neg hc] at hr
      simp [x_ref15_find_0, hl1, k0, k1, k5, hlt, hx, hw, hc']
      exact ⟨n - 1, by omega, hJ _ _ _ ⟨i + 1, by omega, by simp [hl1], hr⟩⟩
  · rw [List.drop_eq_nil_of_le (by omega)] at hr
    simp [x_ref15_find_0, hl1, k0, k5, hlt]
    exact hΦ _ _ _ (.inl ⟨rfl, hr.symm⟩)

theorem pc_find (m : Bool × Bool) (l : List ByteArray) (x : ByteArray) (hlen : l.length ≤ 1099511627776) : pc Q n_ref15_find [strsV m l, .str x] = some (.int .i64 (idx (eqS x) l)) := by
  refine pcQ res_ref15_find rfl (by simp [x_ref15_find]) fun fr hl ha => ?_
  have h0 := ha 0
  have h1 := ha 1
  clear ha
  simp [x_ref15_find, strsV] at hl h0 h1
  simp [x_ref15_find, hl]
  refine (rloop_find m l x hlen _ _ (by simp [hl]) (by simp [hl, h0]) (by simp [hl, h1]) (by simp [hl])).mono ?_
  rintro e fr' h' ⟨K, ⟨rfl, he⟩ | ⟨rfl, h4⟩⟩
  · have hl' : fr'.length = 19 := K.1.trans (by simp [hl])
    simp [hl', he]
  · simp [h4]

theorem rloop_hash (s : ByteArray) (hs : s.size ≤ 1099511627776) (fr : Fr) (h : AH) (hl : fr.length = 14) (h0 : look fr 0 = .str s) (h3 : look fr 3 = .int .i64 0) :
    Ends (lp (evalCode (lim Q) (ctxF n_ref15_hash) x_ref15_hash_0) (fr, h)) fun e fr' h' => Kp x_ref15_hash_0.wr fr fr' ∧ (e = .exit 0 ∧ hashB s = false ∨ e = .ret ∧ look fr' 2 = .bool true ∧ hashB s = true) := by
  refine Ends_lpw rfl fr (fun n fr h => ∃ i : Nat, i + n = s.size ∧ look fr 3 = .int .i64 (i : Nat) ∧ ((bys s).drop i).contains 35 = hashB s) ?_ s.size h ⟨0, by omega, h3, rfl⟩
  rintro J Φ hJ hΦ n fr1 h1' K ⟨i, hi, k3, hr⟩
  have hl1 : fr1.length = 14 := K.1.trans hl
  have k0 := (K.2 0 (by decide)).trans h0
  have hlen := bys_len s
  by_cases hlt : i < s.size
  · have hlt' : i < (bys s).length := by omega
    have hx : s[i]? = some (bys s)[i] := by rw [bys_get, List.getElem?_eq_getElem hlt']
    have hw : IntKind.i64.wrap ((i : Int) + 1) = (i : Int) + 1 := wrap_id (by omega) (by omega)
    rw [List.drop_eq_getElem_cons hlt', List.contains_cons] at hr
    generalize (bys s)[i] = c at *
    have hsi : s[i]'hlt = c := by rw [getElem?_pos s i hlt] at hx; exact Option.some.inj hx
    by_cases hc : c = 35
    · subst hc
      simp [x_ref15_hash_0, hl1, k0, k3, hlt, hsi, hw]
      exact hΦ _ _ _ (.inr ⟨rfl, by simp [hl1], by simpa using hr.symm⟩)
    · have hc' : ¬(c.toNat : Int) = 35 := by
        intro e
        apply hc
        have e2 : c.toNat = 35 := by omega
        exact UInt8.toNat_inj.1 e2
      have hb : ((35 : UInt8) == c) = false := by simp; exact fun e => hc e.symm
      rw [hb, Bool.false_or] at hr
      simp [x_ref15_hash_0, hl1, k0, k3, hlt, hsi, hw, hc']
      exact ⟨n - 1, by omega, hJ _ _ _ ⟨i + 1, by omega, by simp [hl1], hr⟩⟩
  · rw [List.drop_eq_nil_of_le (by omega)] at hr
    simp [x_ref15_hash_0, hl1, k0, k3, hlt]
    exact hΦ _ _ _ (.inl ⟨rfl, by simpa using hr.symm⟩)

theorem pc_hash (s : ByteArray) (hs : s.size ≤ 1099511627776) : pc Q n_ref15_hash [.str s] = some (.bool (hashB s)) := by
  refine pcQ res_ref15_hash rfl (by simp [x_ref15_hash]) fun fr hl ha => ?_
  have h0 := ha 0
  clear ha
  simp [x_ref15_hash] at hl h0
  simp [x_ref15_hash, hl]
  refine (rloop_hash s hs _ _ (by simp [hl]) (by simp [hl, h0]) (by simp [hl])).mono ?_
  rintro e fr' h' ⟨K, ⟨rfl, he⟩ | ⟨rfl, h2, he⟩⟩
  · have hl' : fr'.length = 14 := K.1.trans (by simp [hl])
    simp [hl', he]
  · simp [h2, he]
end Go.Abs.Q

namespace Go.Abs.Q
attribute [local simp] look_set_ne look_set_eq fin tupled code_loop raw_cast_agent raw_term_check raw_term_Valid raw_term_isName raw_strings_Contains raw_slices_Contains_string raw_slices_Index_string raw_cast_Valid

/-- An atom of the sort of agents. -/
def agentV (a : ByteArray) : AV := .agg [.int .i64 2, .str a, .int .i64 1, sl (true, false) 4 []]
def agentE (a : ByteArray) : Int := if nameB a = true then 0 else 2

theorem pc_agent (a : ByteArray) : pc Q n_cast_agent [.str a] = some (agentV a) := by
  refine pcQ res_cast_agent rfl (by simp [x_cast_agent]) fun fr hl ha => ?_
  have h0 := ha 0
  clear ha
  simp [x_cast_agent] at hl h0
  have e : sl (true, false) 1 [] = sl (true, false) 4 [] := sl_nil_any _ rfl _ _
  simp [x_cast_agent, hl, h0, buildParts, fillParts, agentV, e]

theorem loop_check (fr : Fr) (h : AH) (hl : fr.length = 73) (h58 : look fr 58 = .int .i64 0) (h59 : look fr 59 = .int .i64 0) :
    Ends (lp (evalCode (lim Q) (ctxF n_term_check) x_term_check_0) (fr, h)) fun e fr' h' => Kp x_term_check_0.wr fr fr' ∧ e = .exit 1 ∧ h' = h := by
  refine Ends_lpw rfl fr (fun n fr h' => look fr 59 = .int .i64 0 ∧ h' = h) ?_ 0 h ⟨h59, rfl⟩
  rintro J Φ hJ hΦ n fr1 h1' K ⟨k59, rfl⟩
  have hl1 : fr1.length = 73 := K.1.trans hl
  have k58 := (K.2 58 (by decide)).trans h58
  simp [x_term_check_0, hl1, k58, k59]
  exact hΦ _ _ _ ⟨rfl, rfl⟩

theorem rc_check_agent (B : List AV) (a : ByteArray) : rc Q n_term_check [agentV a, .int .i64 1, .ptr 1 0, .ptr 2 0] ⟨[B, [.int .i64 0], [.int .i64 0]], []⟩ =
    some (.int .i64 (agentE a), ⟨[B, [.int .i64 1], [.int .i64 1], [.int .i64 2, .str a, .int .i64 1, sl (true, false) 4 []]], []⟩) := by
  obtain ⟨v, h', hrc, rfl, rfl⟩ := rcQ (f := n_term_check) (args := [agentV a, .int .i64 1, .ptr 1 0, .ptr 2 0]) (h := ⟨[B, [.int .i64 0], [.int .i64 0]], []⟩)
    (Φ := fun v h' => v = .int .i64 (agentE a) ∧ h' = ⟨[B, [.int .i64 1], [.int .i64 1], [.int .i64 2, .str a, .int .i64 1, sl (true, false) 4 []]], []⟩) res_term_check (by simp [x_term_check]) fun fr hl ha => by
    have h0 := ha 0
    have h1 := ha 1
    have h2 := ha 2
    have h3 := ha 3
    clear ha
    simp [x_term_check, agentV] at hl h0 h1 h2 h3
    have hN := pc_isName a
    have w1 : IntKind.i64.wrap 1 = 1 := wrap_id (by omega) (by omega)
    cases hn : nameB a with
    | false =>
      rw [hn] at hN
      simp [x_term_check, hl, h0, h1, h2, h3, hN, w1, agentE, hn]
    | true =>
      rw [hn] at hN
      simp [x_term_check, hl, h0, h1, h2, h3, hN, w1, agentE, hn]
      refine (loop_check _ _ (by simp [hl]) (by simp [hl]) (by simp [hl])).mono ?_
      rintro e fr' h' ⟨K, rfl, rfl⟩
      have hl' : fr'.length = 73 := K.1.trans (by simp [hl])
      simp [hl']
  exact hrc

theorem pc_ValidAgent (a : ByteArray) : pc Q n_term_Valid [agentV a] = some (.int .i64 (agentE a)) := by
  refine pcQ res_term_Valid rfl (by simp [x_term_Valid]) fun fr hl ha => ?_
  have h0 := ha 0
  clear ha
  have hC := rc_check_agent [.int .i64 2, .str a, .int .i64 1, sl (true, false) 4 []] a
  simp only [agentV] at hC
  simp [x_term_Valid, agentV] at hl h0
  cases hn : nameB a with
  | false =>
    simp only [agentE, hn] at hC
    simp at hC
    simp [x_term_Valid, hl, h0, hC, agentE, hn]
  | true =>
    simp only [agentE, hn] at hC
    simp at hC
    simp [x_term_Valid, hl, h0, hC, agentE, hn]

theorem pc_hasHash (a : ByteArray) : pc Q n_strings_Contains [.str a, .str (bs [35])] = some (.bool (hashB a)) := pc_has a 35

def agentsFrom (done : List ByteArray) : List ByteArray → Int
  | [] => 0
  | a :: r => if nameB a = true ∧ hashB a = false then (if done.any (eqS a) = true then 5 else agentsFrom (done ++ [a]) r) else 2
def badFrom (ag : List ByteArray) (last : Int) : List ByteArray → Int
  | [] => 0
  | b :: r => if idx (eqS b) ag < 0 then 4 else if idx (eqS b) ag ≤ last then 5 else badFrom ag (idx (eqS b) ag) r
def validC (ag bad : List ByteArray) : Int :=
  if ag = [] then 8 else if (6 : Int) < ag.length then 3 else if agentsFrom [] ag ≠ 0 then agentsFrom [] ag else badFrom ag (-1) bad

def castV (ma mb : Bool × Bool) (ag bad : List ByteArray) : AV := .agg [strsV ma ag, strsV mb bad]

theorem loop_Valid1 (ma mb : Bool × Bool) (ag bad : List ByteArray) (hag : ag.length ≤ 1099511627776) (fr : Fr) (hl : fr.length = 60) (h1 : look fr 1 = .ptr 0 0) (h20 : look fr 20 = sl ma 1 (ag.map AV.str)) (h21 : look fr 21 = .int .i64 ag.length) (h22 : look fr 22 = .int .i64 0) :
    Ends (lp (evalCode (lim Q) (ctxF n_cast_Valid) x_cast_Valid_1) (fr, ⟨[[sl ma 1 (ag.map AV.str), sl mb 1 (bad.map AV.str)]], []⟩)) fun e fr' h' => Kp x_cast_Valid_1.wr fr fr' ∧ h' = ⟨[[sl ma 1 (ag.map AV.str), sl mb 1 (bad.map AV.str)]], []⟩ ∧
      (e = .exit 1 ∧ agentsFrom [] ag = 0 ∨ e = .ret ∧ look fr' 2 = .int .i64 (agentsFrom [] ag) ∧ agentsFrom [] ag ≠ 0) := by
  refine Ends_lpw rfl fr (fun n fr h => ∃ i, i + n = ag.length ∧ h = ⟨[[sl ma 1 (ag.map AV.str), sl mb 1 (bad.map AV.str)]], []⟩ ∧ look fr 22 = .int .i64 (i : Nat) ∧ agentsFrom (ag.take i) (ag.drop i) = agentsFrom [] ag) ?_ ag.length _ ⟨0, by omega, rfl, h22, rfl⟩
  rintro J Φ hJ hΦ n fr1 h1' K ⟨i, hi, rfl, k22, hr⟩
  have hl1 : fr1.length = 60 := K.1.trans hl
  have k1 := (K.2 1 (by decide)).trans h1
  have k20 := (K.2 20 (by decide)).trans h20
  have k21 := (K.2 21 (by decide)).trans h21
  by_cases hlt : i < ag.length
  · have hx := nth_map (f := AV.str) (List.getElem?_eq_getElem hlt)
    have hw : IntKind.i64.wrap ((i : Int) + 1) = (i : Int) + 1 := wrap_id (by omega) (by omega)
    have hs : ∀ h, slcA h 1 (sl ma 1 (ag.map AV.str)) (some none) (some (some (i : Int))) (some none) = _ := fun h => slc_take h ma 1 (by omega) (ag.map AV.str) i (by simp; omega)
    have hC := pc_ContainsStr (ma.1 && decide (i = (ag.map AV.str).length), ma.2 || !(ag.map AV.str).isEmpty) (ag.take i) ag[i] (by simp; omega)
    simp only [strsV, List.map_take] at hC
    generalize (ma.1 && decide (i = (ag.map AV.str).length), ma.2 || !(ag.map AV.str).isEmpty) = m1 at *
    rw [List.drop_eq_getElem_cons hlt] at hr
    simp only [agentsFrom] at hr
    rw [← List.take_succ_eq_append_getElem hlt] at hr
    generalize ag[i] = a at *
    have hA := pc_agent a
    have hV := pc_ValidAgent a
    have hH := pc_hasHash a
    simp only [agentV] at hA hV
    cases hn : nameB a with
    | false =>
      simp only [agentE, hn] at hV
      simp [hn] at hr
      simp [x_cast_Valid_1, hl1, k1, k20, k21, k22, hlt, hx, hw, hA, hV]
      exact hΦ _ _ _ ⟨rfl, .inr ⟨rfl, by simp [hl1]; exact hr, by omega⟩⟩
    | true =>
      simp only [agentE, hn] at hV
      cases hh : hashB a with
      | true =>
        rw [hh] at hH
        simp [hh] at hr
        simp [x_cast_Valid_1, hl1, k1, k20, k21, k22, hlt, hx, hw, hA, hV, hH]
        exact hΦ _ _ _ ⟨rfl, .inr ⟨rfl, by simp [hl1]; exact hr, by omega⟩⟩
      | false =>
        rw [hh] at hH
        rw [if_pos ⟨hn, hh⟩] at hr
        cases hc : (ag.take i).any (eqS a) with
        | true =>
          rw [hc] at hr hC
          simp at hr
          simp [x_cast_Valid_1, hl1, k1, k20, k21, k22, hlt, hx, hw, hA, hV, hH, boundA, hs, hC]
          exact hΦ _ _ _ ⟨rfl, .inr ⟨rfl, by simp [hl1]; exact hr, by omega⟩⟩
        | false =>
          rw [hc] at hr hC
          simp at hr
          simp [x_cast_Valid_1, hl1, k1, k20, k21, k22, hlt, hx, hw, hA, hV, hH, boundA, hs, hC]
          exact ⟨n - 1, by omega, hJ _ _ _ ⟨i + 1, by omega, rfl, by simp [hl1], hr⟩⟩
  · rw [List.drop_eq_nil_of_le (by omega)] at hr
    simp [x_cast_Valid_1, hl1, k21, k22, hlt]
    exact hΦ _ _ _ ⟨rfl, .inl ⟨rfl, hr.symm⟩⟩

theorem loop_Valid0 (ma mb : Bool × Bool) (ag bad : List ByteArray) (hag : ag.length ≤ 1099511627776) (hbad : bad.length ≤ 1099511627776) (fr : Fr) (hl : fr.length = 60) (h1 : look fr 1 = .ptr 0 0) (h43 : look fr 43 = sl mb 1 (bad.map AV.str)) (h44 : look fr 44 = .int .i64 bad.length) (h45 : look fr 45 = .int .i64 0) (h5 : look fr 5 = .int .i64 (-1)) :
    Ends (lp (evalCode (lim Q) (ctxF n_cast_Valid) x_cast_Valid_0) (fr, ⟨[[sl ma 1 (ag.map AV.str), sl mb 1 (bad.map AV.str)]], []⟩)) fun e fr' h' => Kp x_cast_Valid_0.wr fr fr' ∧
      (e = .exit 3 ∧ badFrom ag (-1) bad = 0 ∨ e = .ret ∧ look fr' 2 = .int .i64 (badFrom ag (-1) bad)) := by
  refine Ends_lpw rfl fr (fun n fr h => ∃ (i : Nat) (last : Int), i + n = bad.length ∧ h = ⟨[[sl ma 1 (ag.map AV.str), sl mb 1 (bad.map AV.str)]], []⟩ ∧ look fr 45 = .int .i64 (i : Nat) ∧ look fr 5 = .int .i64 last ∧ badFrom ag last (bad.drop i) = badFrom ag (-1) bad) ?_ bad.length _ ⟨0, -1, by omega, rfl, h45, h5, rfl⟩
  rintro J Φ hJ hΦ n fr1 h1' K ⟨i, last, hi, rfl, k45, k5, hr⟩
  have hl1 : fr1.length = 60 := K.1.trans hl
  have k1 := (K.2 1 (by decide)).trans h1
  have k43 := (K.2 43 (by decide)).trans h43
  have k44 := (K.2 44 (by decide)).trans h44
  by_cases hlt : i < bad.length
  · have hx := nth_map (f := AV.str) (List.getElem?_eq_getElem hlt)
    have hw : IntKind.i64.wrap ((i : Int) + 1) = (i : Int) + 1 := wrap_id (by omega) (by omega)
    rw [List.drop_eq_getElem_cons hlt] at hr
    simp only [badFrom] at hr
    generalize bad[i] = b at *
    have hI := pc_IndexStr ma ag b hag
    simp only [strsV] at hI
    generalize idx (eqS b) ag = k at *
    by_cases hk : k < 0
    · rw [if_pos hk] at hr
      simp [x_cast_Valid_0, hl1, k1, k43, k44, k45, k5, hlt, hx, hw, hI, hk]
      exact hΦ _ _ _ (.inr ⟨rfl, by simp [hl1]; exact hr⟩)
    · rw [if_neg hk] at hr
      by_cases hkl : k ≤ last
      · rw [if_pos hkl] at hr
        simp [x_cast_Valid_0, hl1, k1, k43, k44, k45, k5, hlt, hx, hw, hI, hk, hkl]
        exact hΦ _ _ _ (.inr ⟨rfl, by simp [hl1]; exact hr⟩)
      · rw [if_neg hkl] at hr
        simp [x_cast_Valid_0, hl1, k1, k43, k44, k45, k5, hlt, hx, hw, hI, hk, hkl]
        exact ⟨n - 1, by omega, hJ _ _ _ ⟨i + 1, k, by omega, rfl, by simp [hl1], by simp [hl1], hr⟩⟩
  · rw [List.drop_eq_nil_of_le (by omega)] at hr
    simp [x_cast_Valid_0, hl1, k44, k45, hlt]
    exact hΦ _ _ _ (.inl ⟨rfl, hr.symm⟩)

theorem pc_castValid (ma mb : Bool × Bool) (ag bad : List ByteArray) (hag : ag.length ≤ 1099511627776) (hbad : bad.length ≤ 1099511627776) : pc Q n_cast_Valid [castV ma mb ag bad] = some (.int .i64 (validC ag bad)) := by
  refine pcQ res_cast_Valid rfl (by simp [x_cast_Valid]) fun fr hl ha => ?_
  have h0 := ha 0
  clear ha
  simp [x_cast_Valid, castV, strsV] at hl h0
  by_cases he : ag = []
  · subst he
    simp [x_cast_Valid, hl, h0, validC]
  by_cases h6 : (6 : Int) < ag.length
  · simp [x_cast_Valid, hl, h0, validC, he, h6]
  have key : ∀ v, validC ag bad = v → Ends (evalCode (lim Q) (ctxF n_cast_Valid) x_cast_Valid.body (fr, ⟨[], []⟩)) (FIN x_cast_Valid.results (.int .i64 v)) := by
    intro v hv
    rw [validC, if_neg he, if_neg h6] at hv
    simp [x_cast_Valid, hl, h0, he, h6]
    refine (loop_Valid1 ma mb ag bad hag _ (by simp [hl]) (by simp [hl]) (by simp [hl]) (by simp [hl]) (by simp [hl])).mono ?_
    rintro e fr1 h' ⟨K, rfl, ⟨rfl, h0⟩ | ⟨rfl, h2, h0⟩⟩
    · have hl1 : fr1.length = 60 := K.1.trans (by simp [hl])
      have k1 : look fr1 1 = .ptr 0 0 := (K.2 1 (by decide)).trans (by simp [hl])
      rw [if_neg (by simp [h0])] at hv
      clear K
      simp [hl1, k1]
      refine (loop_Valid0 ma mb ag bad hag hbad _ (by simp [hl1]) (by simp [hl1, k1]) (by simp [hl1]) (by simp [hl1]) (by simp [hl1]) (by simp [hl1])).mono ?_
      rintro e fr2 h' ⟨K, ⟨rfl, h0⟩ | ⟨rfl, h2⟩⟩
      · have hl2 : fr2.length = 60 := K.1.trans (by simp [hl1])
        rw [hv] at h0
        simp [hl2, h0]
      · rw [hv] at h2
        simp [h2]
    · rw [if_pos h0] at hv
      rw [hv] at h2
      simp [h2]
  exact key _ rfl
end Go.Abs.Q
