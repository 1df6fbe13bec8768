/- GoalFewer returns true, for every input of bulk at most 1048576; its arguments read afterwards as they read before. Conditions: none beyond the statement's own. -/
import Derived.Test.YtpkegmgepnhfnaaVL9
import Derived.KernelRfl
import Derived.ProofKit
import Derived.WalkKit
import Derived.Lib.Strings
import Derived.Lib.Slices
import Derived.Lib.Walk
import Derived.Lib.Bytealg
import Derived.Test.YtpkegmgepnhfnaaRows
import Derived.OpenShut
import Derived.JoinedCond
/- Contracts: the search for a Begin. -/
namespace Go.Abs.Q
attribute [local simp] look_set_ne look_set_eq fin tupled code_loop raw_goal_fits raw_ref27_Fits raw_goal_assigner_assign raw_ref27_assign

/-- A heap with the boxes bx and F rows, two of them k and t. -/
structure HP (bx : List (List AV)) (a q F : Nat) (k : List Int) (t : List Bool) (h : AH) : Prop where
  boxes : h.boxes = bx
  num : h.fams.length = F
  hk : h.fams[a]? = some ⟨k.map (AV.int .i64), 1, true⟩
  ht : h.fams[q]? = some ⟨t.map AV.bool, 1, true⟩

/-- How many places are untried. -/
def untried (t : List Bool) : Nat := t.count false
theorem untried_set {t : List Bool} {b : Nat} (h : t[b]? = some false) : untried (t.set b true) + 1 = untried t := by
  unfold untried
  induction t generalizing b with
  | nil => simp at h
  | cons x t ih =>
    cases b with
    | zero => simp at h; subst h; simp
    | succ b =>
      have := ih (b := b) (by simpa using h)
      simp only [List.set_cons_succ, List.count_cons]
      omega
theorem untried_le : ∀ {t t' : List Bool}, t'.length = t.length → (∀ b : Nat, t[b]? = some true → t'[b]? = some true) → untried t' ≤ untried t
  | [], [], _, _ => Nat.le_refl _
  | x :: t, [], h, _ => by simp at h
  | [], y :: t', h, _ => by simp at h
  | x :: t, y :: t', h, k => by
    have h1 := untried_le (t := t) (t' := t') (by simpa using h) fun b hb => by simpa using k (b + 1) (by simpa using hb)
    have h2 := k 0
    simp at h2
    unfold untried at h1 ⊢
    simp only [List.count_cons]
    cases x <;> cases y <;> simp at h2 ⊢ <;> omega

@[simp] theorem reform_bool (b : Bool) (cs : List AV) : (AV.bool b).reform cs = cs.head? := _root_.id rfl
@[simp] theorem reform_int (kd : IntKind) (n : Int) (cs : List AV) : (AV.int kd n).reform cs = cs.head? := _root_.id rfl

/-- Each place is free, or taken by one of the claims. -/
def Below' (mx : Nat) (k : List Int) : Prop := ∀ (b : Nat) (z : Int), k[b]? = some z → z < 0 ∨ ∃ j : Nat, z = (j : Int) ∧ j < mx
theorem Run.belw {F : Nat → Nat → Bool} {n mx i b : Nat} {t t' : List Bool} {k k' : List Int} {r : Bool} (h : Run F n i b t k r t' k') (hi : i < mx) (hk : Below' mx k) : Below' mx k' := by
  have key : ∀ {k : List Int} {b i : Nat}, i < mx → Below' mx k → Below' mx (k.set b (i : Int)) := by
    intro k b i hi h b' z hz
    rw [List.getElem?_set] at hz
    split at hz
    · split at hz
      · cases hz; exact .inr ⟨i, rfl, hi⟩
      · cases hz
    · exact h b' z hz
  induction h with
  | stop => exact hk
  | skip _ _ _ ih => exact ih hi hk
  | free => exact key hi hk
  | move _ _ _ hk' _ ih =>
    rcases hk _ _ hk' with h1 | ⟨j', e, h1⟩
    · omega
    · have := Int.ofNat.inj e
      subst this
      exact key hi (ih h1 hk)
  | fail _ _ _ _ h1 _ _ ih2 =>
    have := h1.same rfl
    subst this
    exact ih2 hi hk

variable (m mc : Bool × Bool) (l : List Mo) (hf : fine l) (hl40 : l.length ≤ 1099511627776) (cs : List Int)

/-- What a search gives. -/
def Found (f : FuncId) (args : Nat → List AV) (bx : List (List AV)) (a q F : Nat) (i : Nat) (t : List Bool) (k : List Int) : Prop :=
  ∀ h, HP bx a q F k t h → ∃ r t' k' h', rc Q f (args i) h = some (.bool r, h') ∧ Run (FF l cs) l.length i 0 t k r t' k' ∧ HP bx a q F k' t' h'

section
variable (p a q F : Nat) (bx : List (List AV)) (haq : a ≠ q) (hbx : bx[p]? = some [sl m 6 (l.map moV), sl mc 1 (cs.map (AV.int .i64)), .sl a l.length 0 l.length])
include hf hl40 haq hbx

theorem loop_assign (N : Nat) (IH : ∀ t, untried t < N → ∀ i k, t.length = l.length → k.length = l.length → i < cs.length → Below' cs.length k → Found l cs n_goal_assigner_assign (fun i => [.ptr p 0, .int .i64 (i : Nat), .sl q l.length 0 l.length]) bx a q F i t k)
    (t0 : List Bool) (hN : untried t0 ≤ N) (i : Nat) (k0 : List Int) (ht0 : t0.length = l.length) (hk0 : k0.length = l.length) (hi : i < cs.length) (hB : Below' cs.length k0)
    (fr : Fr) (h : AH) (hh : HP bx a q F k0 t0 h) (hl : fr.length = 67) (h0 : look fr 0 = .ptr p 0) (h1 : look fr 1 = .int .i64 (i : Nat)) (h2 : look fr 2 = .sl q l.length 0 l.length) (h12 : look fr 12 = .int .i64 l.length) (h13 : look fr 13 = .int .i64 0) :
    Ends (lp (evalCode (lim Q) (ctxF n_goal_assigner_assign) x_goal_assigner_assign_0) (fr, h)) fun e fr' h' => Kp x_goal_assigner_assign_0.wr fr fr' ∧
      ∃ r t' k', Run (FF l cs) l.length i 0 t0 k0 r t' k' ∧ HP bx a q F k' t' h' ∧ (e = .exit 0 ∧ r = false ∨ e = .ret ∧ look fr' 6 = .bool true ∧ r = true) := by
  refine Ends_lpw rfl fr (fun n fr h => ∃ b t k, b + n = l.length ∧ look fr 13 = .int .i64 (b : Nat) ∧ HP bx a q F k t h ∧ t.length = l.length ∧ k.length = l.length ∧ Below' cs.length k ∧ untried t ≤ untried t0 ∧
    ∀ r t' k', Run (FF l cs) l.length i b t k r t' k' → Run (FF l cs) l.length i 0 t0 k0 r t' k') ?_ l.length h ⟨0, t0, k0, by omega, h13, hh, ht0, hk0, hB, Nat.le_refl _, fun _ _ _ h => h⟩
  rintro J Φ hJ hΦ n fr1 ⟨bx1, fm⟩ K ⟨b, t, k, hn, k13, ⟨rfl, hF, hk, ht⟩, hlt, hlk, hBk, hu, hr⟩
  dsimp only at hbx hF hk ht
  have hl1 : fr1.length = 67 := K.1.trans hl
  have k0 := (K.2 0 (by decide)).trans h0
  have k1 := (K.2 1 (by decide)).trans h1
  have k2 := (K.2 2 (by decide)).trans h2
  have k12 := (K.2 12 (by decide)).trans h12
  have hx := nth_map (f := AV.int .i64) (List.getElem?_eq_getElem hi)
  have hcs := List.getElem?_eq_getElem hi
  have hqa : ¬q = a := fun e => haq e.symm
  have haq' : ¬a = q := haq
  by_cases hb : b < l.length
  · have hw : IntKind.i64.wrap ((b : Int) + 1) = (b : Int) + 1 := wrap_id (by omega) (by omega)
    have htb := List.getElem?_eq_getElem (show b < t.length by omega)
    have hkb := List.getElem?_eq_getElem (show b < k.length by omega)
    have hFt := pc_fits m l hf (b : Int) cs[i]
    simp only [mosV] at hFt
    have hFF : FF l cs b i = fitsB l (b : Int) cs[i] := by simp [FF, hcs]
    generalize cs[i] = c at *
    obtain ⟨tb, htv⟩ : ∃ x, t[b]'(by omega) = x := ⟨_, rfl⟩
    obtain ⟨z, hzv⟩ : ∃ x, k[b]'(by omega) = x := ⟨_, rfl⟩
    rw [htv] at htb
    rw [hzv] at hkb
    have hqn : q < fm.length := (List.getElem?_eq_some_iff.1 ht).1
    have han : a < fm.length := (List.getElem?_eq_some_iff.1 hk).1
    have hqv : fm[q] = ⟨t.map AV.bool, 1, true⟩ := (List.getElem?_eq_some_iff.1 ht).2
    have hav : fm[a] = ⟨k.map (AV.int .i64), 1, true⟩ := (List.getElem?_eq_some_iff.1 hk).2
    cases tb with
    | true =>
      simp [x_goal_assigner_assign_0, hl1, k0, k1, k2, k12, k13, hb, hlt, ht, htv, hw]
      exact ⟨n - 1, by omega, hJ _ _ _ ⟨b + 1, t, k, by omega, by simp [hl1], ⟨rfl, hF, hk, ht⟩, hlt, hlk, hBk, hu, fun r t' k' g => hr r t' k' (.skip hb (.inl htb) g)⟩⟩
    | false =>
      cases hfb : fitsB l (b : Int) c with
      | false =>
        rw [hfb] at hFt
        simp [x_goal_assigner_assign_0, hl1, k0, k1, k2, k12, k13, hb, hlt, ht, htv, hw, hbx, hi, hx, hFt]
        exact ⟨n - 1, by omega, hJ _ _ _ ⟨b + 1, t, k, by omega, by simp [hl1], ⟨rfl, hF, hk, ht⟩, hlt, hlk, hBk, hu, fun r t' k' g => hr r t' k' (.skip hb (.inr (by rw [hFF, hfb])) g)⟩⟩
      | true =>
        rw [hfb] at hFt hFF
        by_cases hz : z < 0
        · simp [x_goal_assigner_assign_0, hl1, k0, k1, k2, k12, k13, hb, hlt, hlk, hqv, hav, htv, hzv, hw, hbx, hi, hx, hFt, hqa, haq', hqn, han, hz]
          refine hΦ _ _ _ ⟨true, t.set b true, k.set b (i : Int), hr _ _ _ (.free hb htb hFF hkb hz), ⟨rfl, by simp [hF], ?_, ?_⟩, .inr ⟨rfl, by simp [hl1], rfl⟩⟩
          · simp [han, hqa, haq', List.map_set]
          · simp [hqn, hqa, haq', List.map_set]
        · obtain ⟨j, rfl, hj⟩ : ∃ j : Nat, z = (j : Int) ∧ j < cs.length := by
            rcases hBk b z hkb with h1 | h1
            · omega
            · exact h1
          obtain ⟨r, t', k', ⟨bx2, fm2⟩, hrc, hrun, ⟨rfl, hF2, hk2, ht2⟩⟩ := IH (t.set b true) (by have := untried_set htb; omega) j k (by simp [hlt]) hlk hj hBk ⟨bx1, fm.set q ⟨(t.set b true).map AV.bool, 1, true⟩⟩
            ⟨rfl, by simp [hF], by simp [hk, hqa, haq'], by simp [hqn]⟩
          dsimp only at hF2 hk2 ht2
          simp only [List.map_set] at hrc
          have hlt2 := hrun.lens.1
          have hlk2 := hrun.lens.2
          simp only [List.length_set] at hlt2
          have han2 : a < fm2.length := (List.getElem?_eq_some_iff.1 hk2).1
          have hav2 : fm2[a] = ⟨k'.map (AV.int .i64), 1, true⟩ := (List.getElem?_eq_some_iff.1 hk2).2
          have hkb2 : k'[b]? = some (j : Int) := (hrun.keep b (set_self htb)).trans hkb
          cases r with
          | false =>
            have hkk := hrun.same rfl
            subst hkk
            simp [x_goal_assigner_assign_0, hl1, k0, k1, k2, k12, k13, hb, hlt, hlk, hqv, hav, htv, hzv, hw, hbx, hi, hx, hFt, hqa, haq', hqn, han, hz, hrc]
            exact ⟨n - 1, by omega, hJ _ _ _ ⟨b + 1, t', k', by omega, by simp [hl1], ⟨rfl, hF2, hk2, ht2⟩, by omega, by omega, hBk, Nat.le_trans (untried_le (by omega) fun b' hb' => hrun.grow b' (set_true hb')) hu, fun r t2 k2 g => hr r t2 k2 (.fail hb htb hFF hkb hrun g)⟩⟩
          | true =>
            simp [x_goal_assigner_assign_0, hl1, k0, k1, k2, k12, k13, hb, hlt, hlk, hqv, hav, htv, hzv, hw, hbx, hi, hx, hFt, hqa, haq', hqn, han, hz, hrc, hav2, hlk2, han2]
            refine hΦ _ _ _ ⟨true, t', k'.set b (i : Int), hr _ _ _ (.move hb htb hFF hkb hrun), ⟨rfl, by simp [hF2], ?_, ?_⟩, .inr ⟨rfl, by simp [hl1], rfl⟩⟩
            · simp [han2, List.map_set]
            · simp [ht2, hqa, haq']
  · simp [x_goal_assigner_assign_0, hl1, k12, k13, hb]
    exact hΦ _ _ _ ⟨false, t, k, hr _ _ _ (.stop (by omega)), ⟨rfl, hF, hk, ht⟩, .inl ⟨rfl, rfl⟩⟩

theorem rc_assign : ∀ (N : Nat) (t : List Bool), untried t ≤ N → ∀ i k, t.length = l.length → k.length = l.length → i < cs.length → Below' cs.length k →
    Found l cs n_goal_assigner_assign (fun i => [.ptr p 0, .int .i64 (i : Nat), .sl q l.length 0 l.length]) bx a q F i t k := by
  intro N
  induction N using Nat.strongRecOn with
  | _ N ih =>
    intro t hN i k htl hkl hi hB h hh
    have IH : ∀ t, untried t < N → ∀ i k, t.length = l.length → k.length = l.length → i < cs.length → Below' cs.length k → Found l cs n_goal_assigner_assign (fun i => [.ptr p 0, .int .i64 (i : Nat), .sl q l.length 0 l.length]) bx a q F i t k :=
      fun t ht => ih (untried t) ht t (Nat.le_refl _)
    obtain ⟨v, h', hrc, r, t', k', h1, h2, h3⟩ := rcQ (f := n_goal_assigner_assign) (args := [.ptr p 0, .int .i64 (i : Nat), .sl q l.length 0 l.length]) (h := h)
      (Φ := fun v h' => ∃ r t' k', Run (FF l cs) l.length i 0 t k r t' k' ∧ HP bx a q F k' t' h' ∧ v = .bool r) res_goal_assigner_assign (by simp [x_goal_assigner_assign]) fun fr hl ha => by
      have h0 := ha 0
      have h1 := ha 1
      have h2 := ha 2
      clear ha
      simp [x_goal_assigner_assign] at hl h0 h1 h2
      have hbx' := hbx
      rw [← hh.boxes] at hbx'
      simp [x_goal_assigner_assign, hl, h0, hbx']
      refine (loop_assign m mc l hf hl40 cs p a q F bx haq hbx N IH t hN i k htl hkl hi hB _ _ hh (by simp [hl]) (by simp [hl, h0]) (by simp [hl, h1]) (by simp [hl, h2]) (by simp [hl]) (by simp [hl])).mono ?_
      rintro e fr' h' ⟨K, r, t', k', g1, g2, ⟨rfl, rfl⟩ | ⟨rfl, h6, rfl⟩⟩
      · have hl' : fr'.length = 67 := K.1.trans (by simp [hl])
        simp [hl']
        exact ⟨t', k', g1, g2⟩
      · simp [h6]
        exact ⟨t', k', g1, g2⟩
    exact ⟨r, t', k', h', by rw [hrc, h3], h1, h2⟩
end
end Go.Abs.Q

/- Contracts: the assignment of Begins to claims. -/
namespace Go.Abs.Q
attribute [local simp] look_set_ne look_set_eq fin tupled code_loop raw_goal_kind raw_goal_assigner_assign raw_goal_Inject

variable (m mc : Bool × Bool) (l : List Mo) (hf : fine l) (hl40 : l.length ≤ 1099511627776) (cs : List Int) (hc40 : cs.length ≤ 1099511627776)

/-- The assigner's fields. -/
def asg : List AV := [sl m 6 (l.map moV), sl mc 1 (cs.map (AV.int .i64)), .sl 0 l.length 0 l.length]

include hl40 in
theorem loop_Inject2 (fr : Fr) (hl : fr.length = 77) (h6 : look fr 6 = .ptr 0 0) (h24 : look fr 24 = .int .i64 l.length) (h25 : look fr 25 = .int .i64 0) :
    Ends (lp (evalCode (lim Q) (ctxF n_goal_Inject) x_goal_Inject_2) (fr, ⟨[asg m mc l cs], [⟨List.replicate l.length (.int .i64 0), 1, true⟩]⟩)) fun e fr' h' => Kp x_goal_Inject_2.wr fr fr' ∧ (e = .exit 0 ∧ h' = ⟨[asg m mc l cs], [⟨(List.replicate l.length (-1)).map (AV.int .i64), 1, true⟩]⟩) := by
  refine Ends_lpw rfl fr (fun n fr h => ∃ (b : Nat) (xs : List Int), b + n = l.length ∧ look fr 25 = .int .i64 (b : Nat) ∧ xs.length = l.length ∧ (∀ b', b' < b → xs[b']? = some (-1)) ∧ h = ⟨[asg m mc l cs], [⟨xs.map (AV.int .i64), 1, true⟩]⟩) ?_ l.length _ ⟨0, List.replicate l.length 0, by omega, h25, by simp, fun b' h => by omega, by simp⟩
  rintro J Φ hJ hΦ n fr1 h1' K ⟨b, xs, hn, k25, hxl, hxs, rfl⟩
  have hl1 : fr1.length = 77 := K.1.trans hl
  have k6 := (K.2 6 (by decide)).trans h6
  have k24 := (K.2 24 (by decide)).trans h24
  by_cases hb : b < l.length
  · have hw : IntKind.i64.wrap ((b : Int) + 1) = (b : Int) + 1 := wrap_id (by omega) (by omega)
    simp [x_goal_Inject_2, hl1, k6, k24, k25, hb, hw, asg, hxl]
    refine ⟨n - 1, by omega, hJ _ _ _ ⟨b + 1, xs.set b (-1), by omega, by simp [hl1], by simp [hxl], fun b' hb' => ?_, by simp [List.map_set, asg]⟩⟩
    rw [List.getElem?_set]
    split
    · simp [show b < xs.length by omega]
    · exact hxs b' (by omega)
  · have he : xs = List.replicate l.length (-1) := by
      apply List.ext_getElem? 
      intro j
      by_cases hj : j < l.length
      · rw [hxs j (by omega), List.getElem?_replicate, if_pos hj]
      · rw [List.getElem?_eq_none (by omega), List.getElem?_eq_none (by simp; omega)]
    subst he
    simp [x_goal_Inject_2, hl1, k24, k25, hb]
    exact hΦ _ _ _ ⟨rfl, by simp⟩

include hf hl40 hc40 in
theorem loop_Inject1 (fr : Fr) (h : AH) (hl : fr.length = 77) (hbx : h.boxes = [asg m mc l cs]) (hk : h.fams[0]? = some ⟨(List.replicate l.length (-1)).map (AV.int .i64), 1, true⟩)
    (h0 : look fr 0 = sl m 6 (l.map moV)) (h6 : look fr 6 = .ptr 0 0) (h35 : look fr 35 = sl mc 1 (cs.map (AV.int .i64))) (h36 : look fr 36 = .int .i64 cs.length) (h37 : look fr 37 = .int .i64 0) :
    Ends (lp (evalCode (lim Q) (ctxF n_goal_Inject) x_goal_Inject_1) (fr, h)) fun e fr' h' => Kp x_goal_Inject_1.wr fr fr' ∧
      (e = .exit 2 ∧ (∃ k, h'.boxes = [asg m mc l cs] ∧ h'.fams[0]? = some ⟨k.map (AV.int .i64), 1, true⟩ ∧ Good (FF l cs) l.length cs.length k) ∨ e = .ret ∧ look fr' 4 = .vs true 0 [] ∧ look fr' 5 = .bool false ∧ ¬Poss l cs) := by
  refine Ends_lpw rfl fr (fun n fr h => ∃ (i : Nat) (k : List Int), i + n = cs.length ∧ look fr 37 = .int .i64 (i : Nat) ∧ h.boxes = [asg m mc l cs] ∧ h.fams[0]? = some ⟨k.map (AV.int .i64), 1, true⟩ ∧ Good (FF l cs) l.length i k) ?_ cs.length h ⟨0, _, by omega, h37, hbx, hk, Good.start⟩
  clear hbx hk
  rintro J Φ hJ hΦ n fr1 ⟨bx, fm⟩ K ⟨i, k, hn, k37, hbx, hk, hg⟩
  dsimp only at hbx hk
  subst hbx
  have hl1 : fr1.length = 77 := K.1.trans hl
  have k0 := (K.2 0 (by decide)).trans h0
  have k6 := (K.2 6 (by decide)).trans h6
  have k35 := (K.2 35 (by decide)).trans h35
  have k36 := (K.2 36 (by decide)).trans h36
  by_cases hi : i < cs.length
  · have hw : IntKind.i64.wrap ((i : Int) + 1) = (i : Int) + 1 := wrap_id (by omega) (by omega)
    have hci := List.getElem?_eq_getElem hi
    have hx := nth_map (f := AV.int .i64) hci
    have hK := pc_kind m l cs[i] 5
    simp only [mosV] at hK
    cases hkd : kindB l cs[i] 5 with
    | false =>
      rw [hkd] at hK
      have hno : ¬Poss l cs := by
        rintro ⟨bs, hbs⟩
        obtain ⟨g1, g2, _⟩ := rightB_iff.1 hbs
        have := (fitsB_bnd (g2 i _ _ hci (List.getElem?_eq_getElem (by omega)))).2.2.2.2
        rw [hkd] at this
        cases this
      generalize cs[i] = c at *
      simp [x_goal_Inject_1, hl1, k0, k6, k35, k36, k37, hi, hw, hx, hK]
      exact hΦ _ _ _ (.inr ⟨rfl, by simp [hl1], by simp [hl1], hno⟩)
    | true =>
      rw [hkd] at hK
      have h0q : 0 ≠ fm.length := by
        have := (List.getElem?_eq_some_iff.1 hk).1
        omega
      have hroom : l.length ≤ roomA ∧ l.length ≤ maxLen := by simp only [roomA, maxLen]; omega
      obtain ⟨r, t', k', ⟨bx2, fm2⟩, hrc, hrun, ⟨hb2, hF2, hk2, ht2⟩⟩ := rc_assign m mc l hf hl40 cs 0 0 fm.length (fm.length + 1) [asg m mc l cs] h0q rfl _ (List.replicate l.length false) (Nat.le_refl _) i k (by simp) hg.len hi
        (fun b z hz => by
          rcases hg.fit b z hz with h1 | ⟨j, e, h1, _⟩
          · exact .inl h1
          · exact .inr ⟨j, e, by omega⟩)
        ⟨[asg m mc l cs], fm ++ [⟨List.replicate l.length (.bool false), 1, true⟩]⟩ ⟨rfl, by simp, by rw [← hk]; exact List.getElem?_append_left (by omega), by simp⟩
      dsimp only at hb2 hF2 hk2 ht2
      subst hb2
      generalize cs[i] = c at *
      cases r with
      | false =>
        have hno : ¬Poss l cs := by
          rintro ⟨bs, hbs⟩
          exact hg.fail hrun _ ((matched_of hbs).le (by omega))
        simp [x_goal_Inject_1, hl1, k0, k6, k35, k36, k37, hi, hw, hx, hK, hroom, hrc]
        exact hΦ _ _ _ (.inr ⟨rfl, by simp [hl1], by simp [hl1], hno⟩)
      | true =>
        simp [x_goal_Inject_1, hl1, k0, k6, k35, k36, k37, hi, hw, hx, hK, hroom, hrc]
        exact ⟨n - 1, by omega, hJ _ _ _ ⟨i + 1, k', by omega, by simp [hl1], rfl, hk2, hg.step hrun⟩⟩
  · have : i = cs.length := by omega
    subst this
    simp [x_goal_Inject_1, hl1, k36, k37]
    exact hΦ _ _ _ (.inl ⟨rfl, k, rfl, hk, hg⟩)

include hl40 in
theorem loop_Inject0 (k : List Int) (hg : Good (FF l cs) l.length cs.length k) (q : Nat) (hq : q ≠ 0) (fr : Fr) (h : AH) (hl : fr.length = 77) (hk : h.fams[0]? = some ⟨k.map (AV.int .i64), 1, true⟩) (hqf : h.fams[q]? = some ⟨List.replicate cs.length (.int .i64 0), 1, true⟩)
    (h10 : look fr 10 = .sl q cs.length 0 cs.length) (h62 : look fr 62 = .sl 0 l.length 0 l.length) (h63 : look fr 63 = .int .i64 l.length) (h64 : look fr 64 = .int .i64 0) :
    Ends (lp (evalCode (lim Q) (ctxF n_goal_Inject) x_goal_Inject_0) (fr, h)) fun e fr' h' => Kp x_goal_Inject_0.wr fr fr' ∧ e = .exit 4 ∧ ∃ out : List Int, h'.fams[q]? = some ⟨out.map (AV.int .i64), 1, true⟩ ∧ rightB l cs out = true ∧ out.length = cs.length := by
  refine Ends_lpw rfl fr (fun n fr h => ∃ (b : Nat) (out : List Int), b + n = l.length ∧ look fr 64 = .int .i64 (b : Nat) ∧ h.fams[0]? = some ⟨k.map (AV.int .i64), 1, true⟩ ∧ h.fams[q]? = some ⟨out.map (AV.int .i64), 1, true⟩ ∧ out.length = cs.length ∧ ∀ (b' i : Nat), b' < b → k[b']? = some (i : Int) → out[i]? = some (b' : Int)) ?_ l.length h
    ⟨0, List.replicate cs.length 0, by omega, h64, hk, by simpa using hqf, by simp, fun b' i hb => by omega⟩
  clear hk hqf
  rintro J Φ hJ hΦ n fr1 ⟨bx, fm⟩ K ⟨b, out, hn, k64, hk, hqf, hol, ho⟩
  dsimp only at hk hqf
  have hl1 : fr1.length = 77 := K.1.trans hl
  have k10 := (K.2 10 (by decide)).trans h10
  have k62 := (K.2 62 (by decide)).trans h62
  have k63 := (K.2 63 (by decide)).trans h63
  have hkl := hg.len
  have hq' : ¬q = 0 := hq
  have hqn : q < fm.length := (List.getElem?_eq_some_iff.1 hqf).1
  by_cases hb : b < l.length
  · have hw : IntKind.i64.wrap ((b : Int) + 1) = (b : Int) + 1 := wrap_id (by omega) (by omega)
    have hkb := List.getElem?_eq_getElem (show b < k.length by omega)
    obtain ⟨z, hzv⟩ : ∃ x, k[b]'(by omega) = x := ⟨_, rfl⟩
    rw [hzv] at hkb
    rcases hg.fit b z hkb with hz | ⟨i, rfl, hi, hF⟩
    · have hz' : ¬(0 ≤ z) := by omega
      simp [x_goal_Inject_0, hl1, k10, k62, k63, k64, hb, hw, hk, hkl, hzv, hz']
      refine ⟨n - 1, by omega, hJ _ _ _ ⟨b + 1, out, by omega, by simp [hl1], hk, hqf, hol, fun b' i hb' e => ?_⟩⟩
      by_cases he : b' = b
      · subst he
        rw [hkb] at e
        cases e
        omega
      · exact ho b' i (by omega) e
    · simp [x_goal_Inject_0, hl1, k10, k62, k63, k64, hb, hw, hk, hkl, hzv, hqf, hi, hol]
      refine ⟨n - 1, by omega, hJ _ _ _ ⟨b + 1, out.set i (b : Int), by omega, by simp [hl1], ?_, ?_, by simp [hol], fun b' i' hb' e => ?_⟩⟩
      · simp [hq', hk]
      · simp [hqn, List.map_set]
      · rw [List.getElem?_set]
        by_cases he : b' = b
        · subst he
          rw [hkb] at e
          have e3 : (i : Int) = (i' : Int) := by simpa using e
          have : i = i' := by omega
          subst this
          simp [hol, hi]
        · have hne : i ≠ i' := by
            intro hii
            subst hii
            exact he (count_one (hg.one i hi) e hkb)
          rw [if_neg hne]
          exact ho b' i' (by omega) e
  · simp [x_goal_Inject_0, hl1, k63, k64, hb]
    exact hΦ _ _ _ ⟨rfl, out, hqf, right_of_good hg hol fun b' i e => ho b' i (by have := (List.getElem?_eq_some_iff.1 e).1; omega) e, hol⟩

def injV (m : Bool × Bool) (out : List Int) (ok : Bool) : AV := .tup [intsV m out, .bool ok]

include hf hl40 hc40 in
theorem pc_Inject : (pc Q n_goal_Inject [mosV m l, intsV mc cs] = some (injV (true, false) [] false) ∧ ¬Poss l cs) ∨ ∃ out, pc Q n_goal_Inject [mosV m l, intsV mc cs] = some (injV (false, true) out true) ∧ rightB l cs out = true := by
  suffices h : ∃ r, pc Q n_goal_Inject [mosV m l, intsV mc cs] = some r ∧ ((r = injV (true, false) [] false ∧ ¬Poss l cs) ∨ ∃ out, r = injV (false, true) out true ∧ rightB l cs out = true) by
    obtain ⟨r, h1, ⟨rfl, h2⟩ | ⟨out, rfl, h2⟩⟩ := h
    · exact .inl ⟨h1, h2⟩
    · exact .inr ⟨out, h1, h2⟩
  refine pc_ends_ex (C := Q) rfl res_goal_Inject (by simp [x_goal_Inject]) fun Ψ hΨ fr hl ha => ?_
  have h0 := ha 0
  have h1 := ha 1
  clear ha
  have hroom : l.length * 8 ≤ roomA ∧ l.length ≤ maxLen := by simp only [roomA, maxLen]; omega
  have hroomc : cs.length * 8 ≤ roomA ∧ cs.length ≤ maxLen := by simp only [roomA, maxLen]; omega
  have hroom' : (l.length : Int) * 8 ≤ roomA := by omega
  have hroomc' : (cs.length : Int) * 8 ≤ roomA := by omega
  simp [x_goal_Inject, mosV, intsV] at hl h0 h1
  simp [x_goal_Inject, hl, h0, h1, hroom, hroom', buildParts, fillParts]
  refine (loop_Inject2 m mc l hl40 cs _ (by simp [hl]) (by simp [hl]) (by simp [hl]) (by simp [hl])).mono ?_
  rintro e fr1 h' ⟨K, rfl, rfl⟩
  have hl1 : fr1.length = 77 := K.1.trans (by simp [hl])
  have k0 : look fr1 0 = sl m 6 (l.map moV) := (K.2 0 (by decide)).trans (by simp [hl, h0])
  have k1 : look fr1 1 = sl mc 1 (cs.map (AV.int .i64)) := (K.2 1 (by decide)).trans (by simp [hl, h1])
  have k6 : look fr1 6 = .ptr 0 0 := (K.2 6 (by decide)).trans (by simp [hl])
  clear K h0 h1
  simp [hl1, k1]
  refine (loop_Inject1 m mc l hf hl40 cs hc40 _ _ (by simp [hl1]) rfl (by simp) (by simp [hl1, k0]) (by simp [hl1, k6]) (by simp [hl1]) (by simp [hl1]) (by simp [hl1])).mono ?_
  rintro e fr2 ⟨bx, fm⟩ ⟨K, ⟨rfl, k, hbx, hk, hg⟩ | ⟨rfl, h4, h5, hno⟩⟩
  · dsimp only at hbx hk
    subst hbx
    have hl2 : fr2.length = 77 := K.1.trans (by simp [hl1])
    have q1 : look fr2 1 = sl mc 1 (cs.map (AV.int .i64)) := (K.2 1 (by decide)).trans (by simp [hl1, k1])
    have q6 : look fr2 6 = .ptr 0 0 := (K.2 6 (by decide)).trans (by simp [hl1, k6])
    clear K
    have hne : fm.length ≠ 0 := by
      have := (List.getElem?_eq_some_iff.1 hk).1
      omega
    simp [hl2, q1, q6, hroomc, hroomc', asg]
    refine (loop_Inject0 l hl40 cs k hg fm.length hne _ _ (by simp [hl2]) (by rw [← hk]; exact List.getElem?_append_left (by omega)) (by simp) (by simp [hl2]) (by simp [hl2]) (by simp [hl2]) (by simp [hl2])).mono ?_
    rintro e fr3 h3 ⟨K, rfl, out, ho, hr, hol⟩
    have hl3 : fr3.length = 77 := K.1.trans (by simp [hl2])
    have p10 : look fr3 10 = .sl fm.length cs.length 0 cs.length := (K.2 10 (by decide)).trans (by simp [hl2])
    simp [hl3, p10, ho, hol]
    have htk : List.take cs.length (out.map (AV.int .i64)) = out.map (AV.int .i64) := List.take_of_length_le (by simp; omega)
    rw [htk]
    exact hΨ _ (.inr ⟨out, rfl, hr⟩)
  · simp [h4, h5]
    exact hΨ _ (.inl ⟨rfl, hno⟩)
end Go.Abs.Q

/- Contracts: the reference's search for a Begin. -/
namespace Go.Abs.Q
attribute [local simp] look_set_ne look_set_eq fin tupled code_loop raw_ref27_Fits raw_ref27_assign

variable (m mc : Bool × Bool) (l : List Mo) (hf : fine l) (hl40 : l.length ≤ 1099511627776) (cs : List Int)

section
variable (a q F : Nat) (bx : List (List AV)) (haq : a ≠ q)
include hf hl40 haq

theorem rloop_assign (N : Nat) (IH : ∀ t, untried t < N → ∀ i k, t.length = l.length → k.length = l.length → i < cs.length → Below' cs.length k → Found l cs n_ref27_assign (fun i => [sl m 6 (l.map moV), sl mc 1 (cs.map (AV.int .i64)), .int .i64 (i : Nat), .sl a l.length 0 l.length, .sl q l.length 0 l.length]) bx a q F i t k)
    (t0 : List Bool) (hN : untried t0 ≤ N) (i : Nat) (k0 : List Int) (ht0 : t0.length = l.length) (hk0 : k0.length = l.length) (hi : i < cs.length) (hB : Below' cs.length k0)
    (fr : Fr) (h : AH) (hh : HP bx a q F k0 t0 h) (hl : fr.length = 55) (h0 : look fr 0 = sl m 6 (l.map moV)) (h1 : look fr 1 = sl mc 1 (cs.map (AV.int .i64))) (h2 : look fr 2 = .int .i64 (i : Nat)) (h3 : look fr 3 = .sl a l.length 0 l.length) (h4 : look fr 4 = .sl q l.length 0 l.length) (h11 : look fr 11 = .int .i64 0) :
    Ends (lp (evalCode (lim Q) (ctxF n_ref27_assign) x_ref27_assign_0) (fr, h)) fun e fr' h' => Kp x_ref27_assign_0.wr fr fr' ∧
      ∃ r t' k', Run (FF l cs) l.length i 0 t0 k0 r t' k' ∧ HP bx a q F k' t' h' ∧ (e = .exit 0 ∧ r = false ∨ e = .ret ∧ look fr' 10 = .bool true ∧ r = true) := by
  refine Ends_lpw rfl fr (fun n fr h => ∃ b t k, b + n = l.length ∧ look fr 11 = .int .i64 (b : Nat) ∧ HP bx a q F k t h ∧ t.length = l.length ∧ k.length = l.length ∧ Below' cs.length k ∧ untried t ≤ untried t0 ∧
    ∀ r t' k', Run (FF l cs) l.length i b t k r t' k' → Run (FF l cs) l.length i 0 t0 k0 r t' k') ?_ l.length h ⟨0, t0, k0, by omega, h11, hh, ht0, hk0, hB, Nat.le_refl _, fun _ _ _ h => h⟩
  rintro J Φ hJ hΦ n fr1 ⟨bx1, fm⟩ K ⟨b, t, k, hn, k11, ⟨rfl, hF, hk, ht⟩, hlt, hlk, hBk, hu, hr⟩
  dsimp only at hF hk ht
  have hl1 : fr1.length = 55 := K.1.trans hl
  have k0 := (K.2 0 (by decide)).trans h0
  have k1 := (K.2 1 (by decide)).trans h1
  have k2 := (K.2 2 (by decide)).trans h2
  have k3 := (K.2 3 (by decide)).trans h3
  have k4 := (K.2 4 (by decide)).trans h4
  have hx := nth_map (f := AV.int .i64) (List.getElem?_eq_getElem hi)
  have hcs := List.getElem?_eq_getElem hi
  have hqa : ¬q = a := fun e => haq e.symm
  have haq' : ¬a = q := haq
  by_cases hb : b < l.length
  · have hw : IntKind.i64.wrap ((b : Int) + 1) = (b : Int) + 1 := wrap_id (by omega) (by omega)
    have htb := List.getElem?_eq_getElem (show b < t.length by omega)
    have hkb := List.getElem?_eq_getElem (show b < k.length by omega)
    have hFt := pc_refFits m l hf (b : Int) cs[i]
    simp only [mosV] at hFt
    have hFF : FF l cs b i = fitsB l (b : Int) cs[i] := by simp [FF, hcs]
    generalize cs[i] = c at *
    obtain ⟨tb, htv⟩ : ∃ x, t[b]'(by omega) = x := ⟨_, rfl⟩
    obtain ⟨z, hzv⟩ : ∃ x, k[b]'(by omega) = x := ⟨_, rfl⟩
    rw [htv] at htb
    rw [hzv] at hkb
    have hqn : q < fm.length := (List.getElem?_eq_some_iff.1 ht).1
    have han : a < fm.length := (List.getElem?_eq_some_iff.1 hk).1
    have hqv : fm[q] = ⟨t.map AV.bool, 1, true⟩ := (List.getElem?_eq_some_iff.1 ht).2
    have hav : fm[a] = ⟨k.map (AV.int .i64), 1, true⟩ := (List.getElem?_eq_some_iff.1 hk).2
    cases tb with
    | true =>
      simp [x_ref27_assign_0, hl1, k0, k1, k2, k3, k4, k11, hb, hlt, ht, htv, hw]
      exact ⟨n - 1, by omega, hJ _ _ _ ⟨b + 1, t, k, by omega, by simp [hl1], ⟨rfl, hF, hk, ht⟩, hlt, hlk, hBk, hu, fun r t' k' g => hr r t' k' (.skip hb (.inl htb) g)⟩⟩
    | false =>
      cases hfb : fitsB l (b : Int) c with
      | false =>
        rw [hfb] at hFt
        simp [x_ref27_assign_0, hl1, k0, k1, k2, k3, k4, k11, hb, hlt, ht, htv, hw, hi, hx, hFt]
        exact ⟨n - 1, by omega, hJ _ _ _ ⟨b + 1, t, k, by omega, by simp [hl1], ⟨rfl, hF, hk, ht⟩, hlt, hlk, hBk, hu, fun r t' k' g => hr r t' k' (.skip hb (.inr (by rw [hFF, hfb])) g)⟩⟩
      | true =>
        rw [hfb] at hFt hFF
        by_cases hz : z < 0
        · simp [x_ref27_assign_0, hl1, k0, k1, k2, k3, k4, k11, hb, hlt, hlk, hqv, hav, htv, hzv, hw, hi, hx, hFt, hqa, haq', hqn, han, hz]
          refine hΦ _ _ _ ⟨true, t.set b true, k.set b (i : Int), hr _ _ _ (.free hb htb hFF hkb hz), ⟨rfl, by simp [hF], ?_, ?_⟩, .inr ⟨rfl, by simp [hl1], rfl⟩⟩
          · simp [han, hqa, haq', List.map_set]
          · simp [hqn, hqa, haq', List.map_set]
        · obtain ⟨j, rfl, hj⟩ : ∃ j : Nat, z = (j : Int) ∧ j < cs.length := by
            rcases hBk b z hkb with h1 | h1
            · omega
            · exact h1
          obtain ⟨r, t', k', ⟨bx2, fm2⟩, hrc, hrun, ⟨rfl, hF2, hk2, ht2⟩⟩ := IH (t.set b true) (by have := untried_set htb; omega) j k (by simp [hlt]) hlk hj hBk ⟨bx1, fm.set q ⟨(t.set b true).map AV.bool, 1, true⟩⟩
            ⟨rfl, by simp [hF], by simp [hk, hqa, haq'], by simp [hqn]⟩
          dsimp only at hF2 hk2 ht2
          simp only [List.map_set] at hrc
          have hlt2 := hrun.lens.1
          have hlk2 := hrun.lens.2
          simp only [List.length_set] at hlt2
          have han2 : a < fm2.length := (List.getElem?_eq_some_iff.1 hk2).1
          have hav2 : fm2[a] = ⟨k'.map (AV.int .i64), 1, true⟩ := (List.getElem?_eq_some_iff.1 hk2).2
          have hkb2 : k'[b]? = some (j : Int) := (hrun.keep b (set_self htb)).trans hkb
          cases r with
          | false =>
            have hkk := hrun.same rfl
            subst hkk
            simp [x_ref27_assign_0, hl1, k0, k1, k2, k3, k4, k11, hb, hlt, hlk, hqv, hav, htv, hzv, hw, hi, hx, hFt, hqa, haq', hqn, han, hz, hrc]
            exact ⟨n - 1, by omega, hJ _ _ _ ⟨b + 1, t', k', by omega, by simp [hl1], ⟨rfl, hF2, hk2, ht2⟩, by omega, by omega, hBk, Nat.le_trans (untried_le (by omega) fun b' hb' => hrun.grow b' (set_true hb')) hu, fun r t2 k2 g => hr r t2 k2 (.fail hb htb hFF hkb hrun g)⟩⟩
          | true =>
            simp [x_ref27_assign_0, hl1, k0, k1, k2, k3, k4, k11, hb, hlt, hlk, hqv, hav, htv, hzv, hw, hi, hx, hFt, hqa, haq', hqn, han, hz, hrc, hav2, hlk2, han2]
            refine hΦ _ _ _ ⟨true, t', k'.set b (i : Int), hr _ _ _ (.move hb htb hFF hkb hrun), ⟨rfl, by simp [hF2], ?_, ?_⟩, .inr ⟨rfl, by simp [hl1], rfl⟩⟩
            · simp [han2, List.map_set]
            · simp [ht2, hqa, haq']
  · simp [x_ref27_assign_0, hl1, k0, k11, hb]
    exact hΦ _ _ _ ⟨false, t, k, hr _ _ _ (.stop (by omega)), ⟨rfl, hF, hk, ht⟩, .inl ⟨rfl, rfl⟩⟩

theorem rc_rassign : ∀ (N : Nat) (t : List Bool), untried t ≤ N → ∀ i k, t.length = l.length → k.length = l.length → i < cs.length → Below' cs.length k →
    Found l cs n_ref27_assign (fun i => [sl m 6 (l.map moV), sl mc 1 (cs.map (AV.int .i64)), .int .i64 (i : Nat), .sl a l.length 0 l.length, .sl q l.length 0 l.length]) bx a q F i t k := by
  intro N
  induction N using Nat.strongRecOn with
  | _ N ih =>
    intro t hN i k htl hkl hi hB h hh
    have IH : ∀ t, untried t < N → ∀ i k, t.length = l.length → k.length = l.length → i < cs.length → Below' cs.length k → Found l cs n_ref27_assign (fun i => [sl m 6 (l.map moV), sl mc 1 (cs.map (AV.int .i64)), .int .i64 (i : Nat), .sl a l.length 0 l.length, .sl q l.length 0 l.length]) bx a q F i t k :=
      fun t ht => ih (untried t) ht t (Nat.le_refl _)
    obtain ⟨v, h', hrc, r, t', k', h1, h2, h3⟩ := rcQ (f := n_ref27_assign) (args := [sl m 6 (l.map moV), sl mc 1 (cs.map (AV.int .i64)), .int .i64 (i : Nat), .sl a l.length 0 l.length, .sl q l.length 0 l.length]) (h := h)
      (Φ := fun v h' => ∃ r t' k', Run (FF l cs) l.length i 0 t k r t' k' ∧ HP bx a q F k' t' h' ∧ v = .bool r) res_ref27_assign (by simp [x_ref27_assign]) fun fr hl ha => by
      have h0 := ha 0
      have h1 := ha 1
      have h2 := ha 2
      have h3 := ha 3
      have h4 := ha 4
      clear ha
      simp [x_ref27_assign] at hl h0 h1 h2 h3 h4
      simp [x_ref27_assign, hl]
      refine (rloop_assign m mc l hf hl40 cs a q F bx haq N IH t hN i k htl hkl hi hB _ _ hh (by simp [hl]) (by simp [hl, h0]) (by simp [hl, h1]) (by simp [hl, h2]) (by simp [hl, h3]) (by simp [hl, h4]) (by simp [hl])).mono ?_
      rintro e fr' h' ⟨K, r, t', k', g1, g2, ⟨rfl, rfl⟩ | ⟨rfl, h6, rfl⟩⟩
      · have hl' : fr'.length = 55 := K.1.trans (by simp [hl])
        simp [hl']
        exact ⟨t', k', g1, g2⟩
      · simp [h6]
        exact ⟨t', k', g1, g2⟩
    exact ⟨r, t', k', h', by rw [hrc, h3], h1, h2⟩
end
end Go.Abs.Q

/- Contracts: is there an assignment, by the reference? -/
namespace Go.Abs.Q
attribute [local simp] look_set_ne look_set_eq fin tupled code_loop raw_ref27_kind raw_ref27_assign raw_ref27_Possible

variable (m mc : Bool × Bool) (l : List Mo) (hf : fine l) (hl40 : l.length ≤ 1099511627776) (cs : List Int) (hc40 : cs.length ≤ 1099511627776)

include hl40 in
theorem loop_Possible1 (fr : Fr) (hl : fr.length = 44) (h5 : look fr 5 = .sl 0 l.length 0 l.length) (h6 : look fr 6 = .int .i64 0) :
    Ends (lp (evalCode (lim Q) (ctxF n_ref27_Possible) x_ref27_Possible_1) (fr, ⟨[], [⟨List.replicate l.length (.int .i64 0), 1, true⟩]⟩)) fun e fr' h' => Kp x_ref27_Possible_1.wr fr fr' ∧ (e = .exit 0 ∧ h' = ⟨[], [⟨(List.replicate l.length (-1)).map (AV.int .i64), 1, true⟩]⟩) := by
  refine Ends_lpw rfl fr (fun n fr h => ∃ (b : Nat) (xs : List Int), b + n = l.length ∧ look fr 6 = .int .i64 (b : Nat) ∧ xs.length = l.length ∧ (∀ b', b' < b → xs[b']? = some (-1)) ∧ h = ⟨[], [⟨xs.map (AV.int .i64), 1, true⟩]⟩) ?_ l.length _ ⟨0, List.replicate l.length 0, by omega, h6, by simp, fun b' h => by omega, by simp⟩
  rintro J Φ hJ hΦ n fr1 h1' K ⟨b, xs, hn, k6, hxl, hxs, rfl⟩
  have hl1 : fr1.length = 44 := K.1.trans hl
  have k5 := (K.2 5 (by decide)).trans h5
  by_cases hb : b < l.length
  · have hw : IntKind.i64.wrap ((b : Int) + 1) = (b : Int) + 1 := wrap_id (by omega) (by omega)
    simp [x_ref27_Possible_1, hl1, k5, k6, hb, hw, hxl]
    refine ⟨n - 1, by omega, hJ _ _ _ ⟨b + 1, xs.set b (-1), by omega, by simp [hl1], by simp [hxl], fun b' hb' => ?_, by simp [List.map_set]⟩⟩
    rw [List.getElem?_set]
    split
    · simp [show b < xs.length by omega]
    · exact hxs b' (by omega)
  · have he : xs = List.replicate l.length (-1) := by
      apply List.ext_getElem?
      intro j
      by_cases hj : j < l.length
      · rw [hxs j (by omega), List.getElem?_replicate, if_pos hj]
      · rw [List.getElem?_eq_none (by omega), List.getElem?_eq_none (by simp; omega)]
    subst he
    simp [x_ref27_Possible_1, hl1, k5, k6, hb]
    exact hΦ _ _ _ ⟨rfl, by simp⟩

include hf hl40 hc40 in
theorem loop_Possible0 (fr : Fr) (h : AH) (hl : fr.length = 44) (hbx : h.boxes = []) (hk : h.fams[0]? = some ⟨(List.replicate l.length (-1)).map (AV.int .i64), 1, true⟩)
    (h0 : look fr 0 = sl m 6 (l.map moV)) (h1 : look fr 1 = sl mc 1 (cs.map (AV.int .i64))) (h5 : look fr 5 = .sl 0 l.length 0 l.length) (h7 : look fr 7 = .int .i64 0) :
    Ends (lp (evalCode (lim Q) (ctxF n_ref27_Possible) x_ref27_Possible_0) (fr, h)) fun e fr' h' => Kp x_ref27_Possible_0.wr fr fr' ∧
      (e = .exit 2 ∧ (∃ k, Good (FF l cs) l.length cs.length k) ∨ e = .ret ∧ look fr' 4 = .bool false ∧ ¬Poss l cs) := by
  refine Ends_lpw rfl fr (fun n fr h => ∃ (i : Nat) (k : List Int), i + n = cs.length ∧ look fr 7 = .int .i64 (i : Nat) ∧ h.boxes = [] ∧ h.fams[0]? = some ⟨k.map (AV.int .i64), 1, true⟩ ∧ Good (FF l cs) l.length i k) ?_ cs.length h ⟨0, _, by omega, h7, hbx, hk, Good.start⟩
  clear hbx hk
  rintro J Φ hJ hΦ n fr1 ⟨bx, fm⟩ K ⟨i, k, hn, k7, hbx, hk, hg⟩
  dsimp only at hbx hk
  subst hbx
  have hl1 : fr1.length = 44 := K.1.trans hl
  have k0 := (K.2 0 (by decide)).trans h0
  have k1 := (K.2 1 (by decide)).trans h1
  have k5 := (K.2 5 (by decide)).trans h5
  by_cases hi : i < cs.length
  · have hw : IntKind.i64.wrap ((i : Int) + 1) = (i : Int) + 1 := wrap_id (by omega) (by omega)
    have hci := List.getElem?_eq_getElem hi
    have hx := nth_map (f := AV.int .i64) hci
    have hK := pc_refkind m l cs[i] 5
    simp only [mosV] at hK
    cases hkd : kindB l cs[i] 5 with
    | false =>
      rw [hkd] at hK
      have hno : ¬Poss l cs := by
        rintro ⟨bs, hbs⟩
        obtain ⟨g1, g2, _⟩ := rightB_iff.1 hbs
        have := (fitsB_bnd (g2 i _ _ hci (List.getElem?_eq_getElem (by omega)))).2.2.2.2
        rw [hkd] at this
        cases this
      generalize cs[i] = c at *
      simp [x_ref27_Possible_0, hl1, k0, k1, k5, k7, hi, hw, hx, hK]
      exact hΦ _ _ _ (.inr ⟨rfl, by simp [hl1], hno⟩)
    | true =>
      rw [hkd] at hK
      have h0q : 0 ≠ fm.length := by
        have := (List.getElem?_eq_some_iff.1 hk).1
        omega
      have hroom : l.length ≤ roomA ∧ l.length ≤ maxLen := by simp only [roomA, maxLen]; omega
      obtain ⟨r, t', k', ⟨bx2, fm2⟩, hrc, hrun, ⟨hb2, hF2, hk2, ht2⟩⟩ := rc_rassign m mc l hf hl40 cs 0 fm.length (fm.length + 1) [] h0q _ (List.replicate l.length false) (Nat.le_refl _) i k (by simp) hg.len hi
        (fun b z hz => by
          rcases hg.fit b z hz with h1 | ⟨j, e, h1, _⟩
          · exact .inl h1
          · exact .inr ⟨j, e, by omega⟩)
        ⟨[], fm ++ [⟨List.replicate l.length (.bool false), 1, true⟩]⟩ ⟨rfl, by simp, by rw [← hk]; exact List.getElem?_append_left (by omega), by simp⟩
      dsimp only at hb2 hF2 hk2 ht2
      subst hb2
      generalize cs[i] = c at *
      cases r with
      | false =>
        have hno : ¬Poss l cs := by
          rintro ⟨bs, hbs⟩
          exact hg.fail hrun _ ((matched_of hbs).le (by omega))
        simp [x_ref27_Possible_0, hl1, k0, k1, k5, k7, hi, hw, hx, hK, hroom, hrc]
        exact hΦ _ _ _ (.inr ⟨rfl, by simp [hl1], hno⟩)
      | true =>
        simp [x_ref27_Possible_0, hl1, k0, k1, k5, k7, hi, hw, hx, hK, hroom, hrc]
        exact ⟨n - 1, by omega, hJ _ _ _ ⟨i + 1, k', by omega, by simp [hl1], rfl, hk2, hg.step hrun⟩⟩
  · have : i = cs.length := by omega
    subst this
    simp [x_ref27_Possible_0, hl1, k1, k7]
    exact hΦ _ _ _ (.inl ⟨rfl, k, hg⟩)

theorem poss_of_good {l : List Mo} {cs : List Int} {k : List Int} (g : Good (FF l cs) l.length cs.length k) : Poss l cs := by
  have : ∀ n, n ≤ cs.length → ∃ out : List Int, out.length = n ∧ ∀ j, j < n → ∃ b : Nat, out[j]? = some (b : Int) ∧ k[b]? = some (j : Int) := by
    intro n
    induction n with
    | zero => exact fun _ => ⟨[], rfl, fun j hj => by omega⟩
    | succ n ih =>
      intro hn
      obtain ⟨out, h1, h2⟩ := ih (by omega)
      obtain ⟨b, hb, _⟩ := g.place (j := n) (by omega)
      refine ⟨out ++ [(b : Int)], by simp [h1], fun j hj => ?_⟩
      by_cases e : j = n
      · subst e
        exact ⟨b, by rw [List.getElem?_append_right (by omega)]; simp [h1], hb⟩
      · obtain ⟨b', h3, h4⟩ := h2 j (by omega)
        exact ⟨b', by rw [List.getElem?_append_left (by omega)]; exact h3, h4⟩
  obtain ⟨out, h1, h2⟩ := this cs.length (Nat.le_refl _)
  refine ⟨out, right_of_good g h1 fun b i hb => ?_⟩
  have hi : i < cs.length := by
    rcases g.fit b _ hb with h | ⟨j, e, h, _⟩
    · omega
    · omega
  obtain ⟨b', h3, h4⟩ := h2 i hi
  rw [count_one (g.one i hi) hb h4]
  exact h3

include hf hl40 hc40 in
theorem pc_Possible : ∃ ok, pc Q n_ref27_Possible [mosV m l, intsV mc cs] = some (.bool ok) ∧ (ok = true ↔ Poss l cs) := by
  suffices h : ∃ r, pc Q n_ref27_Possible [mosV m l, intsV mc cs] = some r ∧ ∃ ok, r = .bool ok ∧ (ok = true ↔ Poss l cs) by
    obtain ⟨r, h1, ok, rfl, h2⟩ := h
    exact ⟨ok, h1, h2⟩
  refine pc_ends_ex (C := Q) rfl res_ref27_Possible (by simp [x_ref27_Possible]) fun Ψ hΨ fr hl ha => ?_
  have h0 := ha 0
  have h1 := ha 1
  clear ha
  have hroom : l.length * 8 ≤ roomA ∧ l.length ≤ maxLen := by simp only [roomA, maxLen]; omega
  have hroom' : (l.length : Int) * 8 ≤ roomA := by omega
  simp [x_ref27_Possible, mosV, intsV] at hl h0 h1
  simp [x_ref27_Possible, hl, h0, hroom, hroom']
  refine (loop_Possible1 l hl40 _ (by simp [hl]) (by simp [hl]) (by simp [hl])).mono ?_
  rintro e fr1 h' ⟨K, rfl, rfl⟩
  have hl1 : fr1.length = 44 := K.1.trans (by simp [hl])
  have k0 : look fr1 0 = sl m 6 (l.map moV) := (K.2 0 (by decide)).trans (by simp [hl, h0])
  have k1 : look fr1 1 = sl mc 1 (cs.map (AV.int .i64)) := (K.2 1 (by decide)).trans (by simp [hl, h1])
  have k5 : look fr1 5 = .sl 0 l.length 0 l.length := (K.2 5 (by decide)).trans (by simp [hl])
  clear K h0 h1
  simp [hl1]
  refine (loop_Possible0 m mc l hf hl40 cs hc40 _ _ (by simp [hl1]) rfl (by simp) (by simp [hl1, k0]) (by simp [hl1, k1]) (by simp [hl1, k5]) (by simp [hl1])).mono ?_
  rintro e fr2 h2 ⟨K, ⟨rfl, k, hg⟩ | ⟨rfl, h4, hno⟩⟩
  · have hl2 : fr2.length = 44 := K.1.trans (by simp [hl1])
    simp [hl2]
    exact hΨ _ ⟨true, rfl, by simp [poss_of_good hg]⟩
  · simp [h4]
    exact hΨ _ ⟨false, rfl, by simp [hno]⟩
end Go.Abs.Q

/- Contracts: the examples of the chapter. -/
namespace Go.Abs.Q
open Go.Proofs
theorem awake_orc : (orc Q 20).pure n_law27_awake [] = some (.bool true) := by kernel_rfl
theorem pc_awake : pc Q n_law27_awake [] = some (.bool true) := orc_pc Q awake_orc
end Go.Abs.Q

/- Contract: the law GoalAgree returns true. -/
namespace Go.Abs.Q
attribute [local simp] look_set_ne look_set_eq fin tupled code_loop raw_law27_awake raw_ref27_Few raw_goal_Agree raw_ref27_Agree

theorem agreeFrom_tup (l : List Mo) (c : Int) : ∀ n i, ∃ (a : Int) (b : Bool), agreeFrom l c n i = .tup [.int .i64 a, .bool b]
  | 0, _ => ⟨0, false, rfl⟩
  | n + 1, i => by
    simp only [agreeFrom]
    split
    · exact ⟨_, _, rfl⟩
    · exact agreeFrom_tup l c n (i + 1)

@[simp] theorem scalar_tup2 (a b : AV) : (AV.tup [a, b]).scalar = (a.scalar0 && b.scalar0) := by simp [AV.scalar]
@[simp] theorem scalar0_int (k : IntKind) (n : Int) : (AV.int k n).scalar0 = true := _root_.id rfl
@[simp] theorem scalar0_bool (b : Bool) : (AV.bool b).scalar0 = true := _root_.id rfl

theorem pc_GoalAgree (m : Bool × Bool) (l : List Mo) (hb : totM l ≤ 1099511627776) (hlen : l.length ≤ 1099511627776) (c : Int) : pc Q n_law27_GoalAgree [mosV m l, .int .i64 c] = some (.bool true) := by
  have hF := pc_FewM m l hb
  have hA := pc_Agree m l (totM_fine hb) hlen c
  have hR := pc_refAgree m l (totM_fine hb) hlen c
  obtain ⟨a, b, hv⟩ := agreeFrom_tup l c l.length 0
  rw [agreeV, hv] at hA hR
  refine pcQ res_law27_GoalAgree rfl (by simp [x_law27_GoalAgree]) fun fr hl ha => ?_
  have h0 := ha 0
  have h1 := ha 1
  clear ha
  simp [x_law27_GoalAgree, mosV] at hl h0 h1 hF hA hR
  cases hf : fewM l with
  | false =>
    rw [hf] at hF
    simp [x_law27_GoalAgree, hl, h0, pc_awake, hF]
  | true =>
    rw [hf] at hF
    simp [x_law27_GoalAgree, hl, h0, h1, pc_awake, hF, hA, hR]
end Go.Abs.Q

/- Contracts: the laws GoalInject and GoalAssigned return true. -/
namespace Go.Abs.Q
attribute [local simp] look_set_ne look_set_eq fin tupled code_loop raw_law27_awake raw_ref27_Few raw_goal_Agree raw_goal_Inject raw_ref27_Possible raw_ref27_CheckInject raw_goal_CheckInject

theorem agree_of_fit {l : List Mo} {b c : Int} (h : fitsB l b c = true) : ∃ a, agreeV l c = .tup [.int .i64 a, .bool true] := by
  have hb := fitsB_bnd h
  have key : ∀ n i, i + n = l.length → (i : Int) ≤ b → ∃ a, agreeFrom l c n i = .tup [.int .i64 a, .bool true] := by
    intro n
    induction n with
    | zero => intro i hi hle; omega
    | succ n ih =>
      intro i hi hle
      simp only [agreeFrom]
      split
      · exact ⟨_, rfl⟩
      · rename_i hn
        have : (i : Int) ≠ b := fun e => hn (by rw [e]; exact h)
        exact ih (i + 1) (by omega) (by omega)
  exact key l.length 0 (by omega) hb.1

theorem loop_GoalInject (m mc : Bool × Bool) (l : List Mo) (hf : fine l) (hl40 : l.length ≤ 1099511627776) (cs : List Int) (hc40 : cs.length ≤ 1099511627776) (hp : Poss l cs) (fr : Fr) (h : AH) (hl : fr.length = 77)
    (h0 : look fr 0 = sl m 6 (l.map moV)) (h52 : look fr 52 = sl mc 1 (cs.map (AV.int .i64))) (h53 : look fr 53 = .int .i64 cs.length) (h54 : look fr 54 = .int .i64 0) :
    Ends (lp (evalCode (lim Q) (ctxF n_law27_GoalInject) x_law27_GoalInject_0) (fr, h)) fun e fr' h' => Kp x_law27_GoalInject_0.wr fr fr' ∧ e = .exit 0 := by
  refine Ends_lpk rfl fr (fun n fr h => ∃ (i : Nat), i + n = cs.length ∧ look fr 54 = .int .i64 (i : Nat)) ?_ cs.length h ⟨0, by omega, h54⟩
  rintro n fr1 h1' K ⟨i, hn, k54⟩
  have hl1 : fr1.length = 77 := K.1.trans hl
  have k0 := (K.2 0 (by decide)).trans h0
  have k52 := (K.2 52 (by decide)).trans h52
  have k53 := (K.2 53 (by decide)).trans h53
  by_cases hi : i < cs.length
  · have hw : IntKind.i64.wrap ((i : Int) + 1) = (i : Int) + 1 := wrap_id (by omega) (by omega)
    have hx := nth_map (f := AV.int .i64) (List.getElem?_eq_getElem hi)
    obtain ⟨bs, hbs⟩ := hp
    obtain ⟨g1, g2, _⟩ := rightB_iff.1 hbs
    obtain ⟨a, ha⟩ := agree_of_fit (g2 i _ _ (List.getElem?_eq_getElem hi) (List.getElem?_eq_getElem (by omega)))
    have hA := pc_Agree m l hf hl40 cs[i]
    rw [ha] at hA
    simp only [mosV] at hA
    generalize cs[i] = c at *
    simp [x_law27_GoalInject_0, hl1, k0, k52, k53, k54, hi, hw, hx, hA]
    exact ⟨n - 1, by omega, i + 1, by omega, by simp⟩
  · simp [x_law27_GoalInject_0, hl1, k53, k54, hi]

theorem pc_GoalInject (m mc : Bool × Bool) (l : List Mo) (hb : totM l ≤ 1099511627776) (hl40 : l.length ≤ 1099511627776) (cs : List Int) (hc40 : cs.length ≤ 1099511627776) : pc Q n_law27_GoalInject [mosV m l, intsV mc cs] = some (.bool true) := by
  have hF := pc_FewM m l hb
  have hfine := totM_fine hb
  obtain ⟨ok, hP, hok⟩ := pc_Possible m mc l hfine hl40 cs hc40
  refine pcQ res_law27_GoalInject rfl (by simp [x_law27_GoalInject]) fun fr hl ha => ?_
  have h0 := ha 0
  have h1 := ha 1
  clear ha
  simp [x_law27_GoalInject, mosV, intsV] at hl h0 h1 hF
  cases hf : fewM l with
  | false =>
    rw [hf] at hF
    simp [x_law27_GoalInject, hl, h0, pc_awake, hF]
  | true =>
    rw [hf] at hF
    by_cases h30 : (30 : Int) < cs.length
    · simp [x_law27_GoalInject, hl, h0, h1, pc_awake, hF, h30]
    · rcases pc_Inject m mc l hfine hl40 cs hc40 with ⟨hI, hno⟩ | ⟨out, hI, hr⟩
      · have : ok = false := by
          cases ok with
          | false => rfl
          | true => exact absurd (hok.1 rfl) hno
        subst this
        simp only [mosV, intsV, injV] at hI hP
        simp [x_law27_GoalInject, hl, h0, h1, pc_awake, hF, h30, hI, hP]
      · have : ok = true := hok.2 ⟨out, hr⟩
        subst this
        have hlen := (rightB_iff.1 hr).1
        have hC := pc_CheckInject m mc (false, true) l hfine cs out hc40
        have hC' := pc_refCheckInject m mc (false, true) l hfine cs out hc40
        rw [hr] at hC hC'
        simp only [mosV, intsV, injV] at hI hP hC hC'
        simp [x_law27_GoalInject, hl, h0, h1, pc_awake, hF, h30, hI, hP]
        refine (loop_GoalInject m mc l hfine hl40 cs hc40 ⟨out, hr⟩ _ _ (by simp [hl]) (by simp [hl, h0]) (by simp [hl]) (by simp [hl]) (by simp [hl])).mono ?_
        rintro e fr' h' ⟨K, rfl⟩
        have hl' : fr'.length = 77 := K.1.trans (by simp [hl])
        have k0 : look fr' 0 = sl m 6 (l.map moV) := (K.2 0 (by decide)).trans (by simp [hl, h0])
        have k1 : look fr' 1 = sl mc 1 (cs.map (AV.int .i64)) := (K.2 1 (by decide)).trans (by simp [hl, h1])
        have k5 : look fr' 5 = sl (false, true) 1 (out.map (AV.int .i64)) := (K.2 5 (by decide)).trans (by simp [hl])
        simp [hl', k0, k1, k5, hC, hC']

theorem pc_GoalAssigned (m mc mb : Bool × Bool) (l : List Mo) (hb : totM l ≤ 1099511627776) (hl40 : l.length ≤ 1099511627776) (cs bs : List Int) (hc40 : cs.length ≤ 1099511627776) :
    pc Q n_law27_GoalAssigned [mosV m l, .agg [intsV mc cs, intsV mb bs]] = some (.bool true) := by
  have hF := pc_FewM m l hb
  have hfine := totM_fine hb
  refine pcQ res_law27_GoalAssigned rfl (by simp [x_law27_GoalAssigned]) fun fr hl ha => ?_
  have h0 := ha 0
  have h1 := ha 1
  clear ha
  simp [x_law27_GoalAssigned, mosV, intsV] at hl h0 h1 hF
  cases hf : fewM l with
  | false =>
    rw [hf] at hF
    simp [x_law27_GoalAssigned, hl, h0, h1, pc_awake, hF]
  | true =>
    rw [hf] at hF
    by_cases h30 : (30 : Int) < cs.length
    · simp [x_law27_GoalAssigned, hl, h0, h1, pc_awake, hF, h30]
    · by_cases h40 : (40 : Int) < bs.length
      · simp [x_law27_GoalAssigned, hl, h0, h1, pc_awake, hF, h30, h40]
      · have hC := pc_CheckInject m mc mb l hfine cs bs hc40
        have hC' := pc_refCheckInject m mc mb l hfine cs bs hc40
        rcases pc_Inject m mc l hfine hl40 cs hc40 with ⟨hI, hno⟩ | ⟨out, hI, hr⟩
        · have hr : rightB l cs bs = false := by
            cases hq : rightB l cs bs with
            | false => rfl
            | true => exact absurd ⟨bs, hq⟩ hno
          rw [hr] at hC hC'
          simp only [mosV, intsV, injV] at hI hC hC'
          simp [x_law27_GoalAssigned, hl, h0, h1, pc_awake, hF, h30, h40, hI, hC, hC']
        · simp only [mosV, intsV, injV] at hI hC hC'
          cases hq : rightB l cs bs with
          | false =>
            rw [hq] at hC hC'
            simp [x_law27_GoalAssigned, hl, h0, h1, pc_awake, hF, h30, h40, hI, hC, hC']
          | true =>
            rw [hq] at hC hC'
            simp [x_law27_GoalAssigned, hl, h0, h1, pc_awake, hF, h30, h40, hI, hC, hC']
end Go.Abs.Q

/- Contract: the law GoalFewer returns true. -/
namespace Go.Abs.Q
attribute [local simp] look_set_ne look_set_eq fin tupled code_loop raw_law27_awake raw_ref27_Few raw_goal_Inject

theorem Poss.tail {l : List Mo} {c : Int} {cs : List Int} (h : Poss l (c :: cs)) : Poss l cs := by
  obtain ⟨bs, hb⟩ := h
  obtain ⟨h1, h2, h3⟩ := rightB_iff.1 hb
  cases bs with
  | nil => simp at h1
  | cons b bs =>
    rw [List.nodup_cons] at h3
    exact ⟨bs, rightB_iff.2 ⟨by simpa using h1, fun i c' b' hc hb => h2 (i + 1) c' b' (by simpa using hc) (by simpa using hb), h3.2⟩⟩

theorem Poss.init {l : List Mo} {cs : List Int} (h : Poss l cs) (n : Nat) : Poss l (cs.take n) := by
  obtain ⟨bs, hb⟩ := h
  obtain ⟨h1, h2, h3⟩ := rightB_iff.1 hb
  refine ⟨bs.take n, rightB_iff.2 ⟨by simp [h1], fun i c' b' hc hb => ?_, List.Pairwise.sublist (List.take_sublist _ _) h3⟩⟩
  rw [List.getElem?_take] at hc hb
  by_cases hi : i < n
  · rw [if_pos hi] at hc hb
    exact h2 i c' b' hc hb
  · rw [if_neg hi] at hc
    cases hc

theorem atI_cons {l : List Mo} {x : Mo} {i : Int} (h : 0 ≤ i) : atI (x :: l) (i + 1) = atI l i := by
  unfold atI
  rw [if_pos h, if_pos (by omega)]
  have : (i + 1).toNat = i.toNat + 1 := by omega
  rw [this, List.getElem?_cons_succ]

theorem Poss.front {l : List Mo} {cs : List Int} (h : Poss l cs) (x : Mo) : Poss (x :: l) (cs.map (· + 1)) := by
  obtain ⟨bs, hb⟩ := h
  obtain ⟨h1, h2, h3⟩ := rightB_iff.1 hb
  refine ⟨bs.map (· + 1), rightB_iff.2 ⟨by simp [h1], fun i c' b' hc hb => ?_, nodup_map h3 fun x _ y _ e => by omega⟩⟩
  simp only [List.getElem?_map, Option.map_eq_some_iff] at hc hb
  obtain ⟨c, hc, rfl⟩ := hc
  obtain ⟨b, hb, rfl⟩ := hb
  have hf := h2 i c b hc hb
  have hbd := fitsB_bnd hf
  unfold fitsB at hf ⊢
  rw [atI_cons hbd.1, atI_cons hbd.2.2.1]
  have : decide (b + 1 < c + 1) = decide (b < c) := by
    rw [Bool.eq_iff_iff]; simp
  rw [this]
  exact hf

/-- A list of numbers that grows. -/
def GroI (bx : List (List AV)) (acc : List Int) (v : AV) (h : AH) : Prop := (acc = [] ∧ v = .vs true 0 [] ∧ h = ⟨bx, []⟩) ∨ (acc ≠ [] ∧ v = .sl 0 acc.length 0 acc.length ∧ h = ⟨bx, [⟨acc.map (AV.int .i64), 1, false⟩]⟩)
theorem GroI_app {bx : List (List AV)} {acc : List Int} {v : AV} {h : AH} (hg : GroI bx acc v h) (x : Int) (hb : acc.length + 1 ≤ 1099511627776) :
    ∃ v' h', appendA (ctxF n_law27_GoalFewer) h 1 8 v (sl (true, true) 1 [.int .i64 x]) = some (v', h') ∧ GroI bx (acc ++ [x]) v' h' := by
  rcases hg with ⟨rfl, rfl, rfl⟩ | ⟨hne, rfl, rfl⟩
  · have hr : (1 : Nat) * 8 ≤ roomA ∧ (1 : Nat) ≤ maxLen := by simp only [roomA, maxLen]; omega
    refine ⟨_, _, ?_, .inr ⟨by simp, rfl, rfl⟩⟩
    rw [app_nil, sl_elems, Option.bind_some, if_neg (by simp), if_pos (by simpa using hr)]
    simp [mutF]
  · have hr : (acc.length + 1) * 8 ≤ roomA ∧ acc.length + 1 ≤ maxLen := by
      simp only [roomA, maxLen]
      omega
    refine ⟨_, _, ?_, .inr ⟨by simp [hne], rfl, rfl⟩⟩
    rw [app_view, sl_elems]
    simp [hr]

theorem loop_GoalFewer (mc : Bool × Bool) (bx : List (List AV)) (cs : List Int) (hc40 : cs.length ≤ 1099511627776) (hin : ∀ c ∈ cs, 0 ≤ c ∧ c ≤ 1099511627776) (fr : Fr) (hl : fr.length = 96)
    (h9 : look fr 9 = .vs true 0 []) (h51 : look fr 51 = sl mc 1 (cs.map (AV.int .i64))) (h52 : look fr 52 = .int .i64 cs.length) (h53 : look fr 53 = .int .i64 0) :
    Ends (lp (evalCode (lim Q) (ctxF n_law27_GoalFewer) x_law27_GoalFewer_0) (fr, ⟨bx, []⟩)) fun e fr' h' => Kp x_law27_GoalFewer_0.wr fr fr' ∧ e = .exit 0 ∧ GroI bx (cs.map (· + 1)) (look fr' 9) h' := by
  refine Ends_lpw rfl fr (fun n fr h => ∃ (i : Nat), i + n = cs.length ∧ look fr 53 = .int .i64 (i : Nat) ∧ GroI bx ((cs.take i).map (· + 1)) (look fr 9) h) ?_ cs.length _ ⟨0, by omega, h53, .inl ⟨by simp, h9, rfl⟩⟩
  rintro J Φ hJ hΦ n fr1 h1' K ⟨i, hn, k53, hg⟩
  have hl1 : fr1.length = 96 := K.1.trans hl
  have k51 := (K.2 51 (by decide)).trans h51
  have k52 := (K.2 52 (by decide)).trans h52
  by_cases hi : i < cs.length
  · have hw : IntKind.i64.wrap ((i : Int) + 1) = (i : Int) + 1 := wrap_id (by omega) (by omega)
    have hx := nth_map (f := AV.int .i64) (List.getElem?_eq_getElem hi)
    have hc := hin _ (List.getElem_mem hi)
    obtain ⟨v', h', happ, hg'⟩ := GroI_app hg (cs[i] + 1) (by simp; omega)
    have hnext : (cs.take i).map (· + 1) ++ [cs[i] + 1] = (cs.take (i + 1)).map (· + 1) := by rw [List.take_succ_eq_append_getElem hi, List.map_append]; rfl
    rw [hnext] at hg'
    generalize cs[i] = c at *
    have hw' : IntKind.i64.wrap (c + 1) = c + 1 := wrap_id (by omega) (by omega)
    simp [x_law27_GoalFewer_0, hl1, k51, k52, k53, hi, hw, hw', hx, sliceParts, happ]
    exact ⟨n - 1, by omega, hJ _ _ _ ⟨i + 1, by omega, by simp [hl1], by simpa [hl1] using hg'⟩⟩
  · rw [List.take_of_length_le (by omega)] at hg
    simp [x_law27_GoalFewer_0, hl1, k52, k53, hi]
    exact hΦ _ _ _ ⟨rfl, by simpa [hl1] using hg⟩

theorem pc_GoalFewer (m mc : Bool × Bool) (l : List Mo) (hb : totM l ≤ 1099511627776) (hl40 : l.length + 1 ≤ 1099511627776) (cs : List Int) (hc40 : cs.length ≤ 1099511627776) (x : Mo) (hx40 : Tm.sizes x.terms ≤ 1099511627776) :
    pc Q n_law27_GoalFewer [mosV m l, intsV mc cs, moV x] = some (.bool true) := by
  have hF := pc_FewM m l hb
  have hfine := totM_fine hb
  have hFx := pc_FewM (true, true) [x] (by simp [totM]; omega)
  refine pcQ res_law27_GoalFewer rfl (by simp [x_law27_GoalFewer]) fun fr hl ha => ?_
  have h0 := ha 0
  have h1 := ha 1
  have h2 := ha 2
  clear ha
  simp only [mosV, List.map_cons, List.map_nil] at hF hFx
  simp [x_law27_GoalFewer, mosV, intsV, moV] at hl h0 h1 h2
  simp only [moV] at hFx
  cases hf : fewM l with
  | false =>
    rw [hf] at hF
    simp [x_law27_GoalFewer, hl, h0, h1, h2, pc_awake, hF]
  | true =>
  rw [hf] at hF
  cases hf2 : fewM [x] with
  | false =>
    rw [hf2] at hFx
    simp [x_law27_GoalFewer, hl, h0, h1, h2, pc_awake, hF, sliceParts, hFx]
  | true =>
  rw [hf2] at hFx
  cases cs with
  | nil => simp [x_law27_GoalFewer, hl, h0, h1, h2, pc_awake, hF, sliceParts, hFx]
  | cons c0 cs' =>
  generalize hcs : c0 :: cs' = cs at *
  have hne : ¬cs = [] := by subst hcs; simp
  have hpos : 0 < cs.length := by subst hcs; simp
  by_cases h30 : (30 : Int) < cs.length
  · simp [x_law27_GoalFewer, hl, h0, h1, h2, pc_awake, hF, sliceParts, hFx, hne, h30]
  rcases pc_Inject m mc l hfine (by omega) cs hc40 with ⟨hI, hno⟩ | ⟨out, hI, hr⟩
  · simp only [mosV, intsV, injV] at hI
    simp [x_law27_GoalFewer, hl, h0, h1, h2, pc_awake, hF, sliceParts, hFx, hne, h30, hI]
  have hp : Poss l cs := ⟨out, hr⟩
  have hin : ∀ c ∈ cs, 0 ≤ c ∧ c ≤ 1099511627776 := by
    intro c hc
    obtain ⟨i, hi⟩ := List.mem_iff_getElem?.1 hc
    obtain ⟨g1, g2, _⟩ := rightB_iff.1 hr
    have hi' := (List.getElem?_eq_some_iff.1 hi).1
    have := fitsB_bnd (g2 i _ _ hi (List.getElem?_eq_getElem (by omega)))
    omega
  have hlpos : l ≠ [] := by
    intro e
    obtain ⟨g1, g2, _⟩ := rightB_iff.1 hr
    have := fitsB_bnd (g2 0 c0 _ (by subst hcs; rfl) (List.getElem?_eq_getElem (show 0 < out.length by omega)))
    subst e
    simp at this
    omega
  have hT : Poss l (cs.drop 1) := by subst hcs; exact hp.tail
  have hT' : Poss l (cs.take (cs.length - 1)) := hp.init _
  have hT3 : Poss ({ x with kind := 4 } :: l) (cs.map (· + 1)) := hp.front _
  have inj : ∀ (m mc : Bool × Bool) (l : List Mo), fine l → l.length ≤ 1099511627776 → ∀ cs : List Int, cs.length ≤ 1099511627776 → Poss l cs → ∃ out, pc Q n_goal_Inject [mosV m l, intsV mc cs] = some (injV (false, true) out true) := by
    intro m mc l h1 h2 cs h3 h4
    rcases pc_Inject m mc l h1 h2 cs h3 with ⟨_, hno⟩ | ⟨out, hI, _⟩
    · exact absurd h4 hno
    · exact ⟨out, hI⟩
  have hfx : fine ({ x with kind := 4 } :: l) := by
    intro y hy
    rcases List.mem_cons.1 hy with rfl | hy
    · exact hx40
    · exact hfine y hy
  obtain ⟨o3, hI3⟩ := inj (false, true) (false, true) _ hfx (by simp; omega) _ (by simp; omega) hT3
  obtain ⟨m1, hs1⟩ : ∃ m1, ∀ h, slcA h 1 (sl mc 1 (cs.map (AV.int .i64))) (some (some 1)) (some none) (some none) = some (sl m1 1 ((cs.drop 1).map (AV.int .i64)), h) :=
    ⟨(mc.1, mc.2 || !(cs.map (AV.int .i64)).isEmpty), fun h => by rw [List.map_drop]; exact slc_drop h mc 1 (by omega) _ 1 (by simp; omega)⟩
  obtain ⟨m2, hs2⟩ : ∃ m2, ∀ h, slcA h 1 (sl mc 1 (cs.map (AV.int .i64))) (some none) (some (some ((cs.length : Int) - 1))) (some none) = some (sl m2 1 ((cs.take (cs.length - 1)).map (AV.int .i64)), h) := by
    refine ⟨(mc.1 && decide (cs.length - 1 = (cs.map (AV.int .i64)).length), mc.2 || !(cs.map (AV.int .i64)).isEmpty), fun h => ?_⟩
    rw [List.map_take, show (cs.length : Int) - 1 = ((cs.length - 1 : Nat) : Int) by omega]
    exact slc_take h mc 1 (by omega) _ _ (by simp)
  obtain ⟨o1, hI1⟩ := inj m m1 l hfine (by omega) _ (by simp; omega) hT
  obtain ⟨o2, hI2⟩ := inj m m2 l hfine (by omega) _ (by simp; omega) hT'
  have hwl : IntKind.i64.wrap ((cs.length : Int) - 1) = (cs.length : Int) - 1 := wrap_id (by omega) (by omega)
  have hroom : (1 + l.length) * 80 ≤ roomA ∧ 1 + l.length ≤ maxLen := by simp only [roomA, maxLen]; omega
  simp only [mosV, intsV, injV, List.map_cons, List.map_take, List.map_drop, List.map_map, List.drop_one, List.map_tail] at hI hI1 hI2 hI3
  simp only [moV] at hI3
  simp [x_law27_GoalFewer, hl, h0, h1, h2, pc_awake, hF, sliceParts, hFx, hne, h30, hI]
  refine (loop_GoalFewer mc _ cs hc40 hin _ (by simp [hl]) (by simp [hl]) (by simp [hl]) (by simp [hl]) (by simp [hl])).mono ?_
  rintro e fr1 h' ⟨K, rfl, ⟨he, _, _⟩ | ⟨_, k9, rfl⟩⟩
  · subst hcs; simp at he
  have hl1 : fr1.length = 96 := K.1.trans (by simp [hl])
  have k0 : look fr1 0 = sl m 6 (l.map moV) := (K.2 0 (by decide)).trans (by simp [hl, h0])
  have k1 : look fr1 1 = sl mc 1 (cs.map (AV.int .i64)) := (K.2 1 (by decide)).trans (by simp [hl, h1])
  have k5 : look fr1 5 = .ptr 0 0 := (K.2 5 (by decide)).trans (by simp [hl])
  have htk : List.take cs.length (cs.map (AV.int .i64 ∘ (· + 1))) = cs.map (AV.int .i64 ∘ (· + 1)) := List.take_of_length_le (by simp)
  simp [hl1, k0, k1, k5, k9, boundA, hs1, hs2, hwl, hI1, hI2, sliceParts, app_sl, hroom, hlpos]
  have e1 : l.length + 1 = 1 + l.length := by omega
  have e2 : ∀ a : AV, List.take (1 + l.length) (a :: l.map moV) = a :: l.map moV := fun a => List.take_of_length_le (by simp; omega)
  simp [hl1, e1, e2, htk, tame, tame1, mutF, hI3]
end Go.Abs.Q

/- The settings are the program's: the contract that is taken of the string comparison holds. -/
namespace Go.Proofs

set_option maxHeartbeats 1000000 in
set_option maxRecDepth 100000 in
theorem Try.cmpString (a b : ByteArray) (w : World) :
    Calls Try.prog 60 #[.string a, .string b] w fun e w' => e = .returned (.int .i64 (Lib.compareBytes a.data.toList b.data.toList)) ∧ w' = w := by
  go_enter Try.func60, Try.ntmps60
  go_wp2
  rw [run_callFunc_extern Try.func66 (by kernel_rfl) (by kernel_rfl) (by kernel_rfl) (e := Extern.BytealgCompare.compare) (by kernel_rfl), Lib.run_compareString]
  simp only [Result.andThen]
  rw [Oper.upon_value]
  go_wp2
  go_ret
  exact ⟨rfl, rfl⟩

set_option maxHeartbeats 1000000 in
set_option maxRecDepth 100000 in
theorem Try.sliteIndexByte (s : ByteArray) (c : Int) (w : World) :
    Calls Try.prog 72 #[.string s, .int .u8 c] w fun e w' => e = .returned (.int .i64 (Lib.indexByte s.data.toList c.toNat.toUInt8)) ∧ w' = w := by
  go_enter Try.func72, Try.ntmps72
  go_wp2
  rw [run_callFunc_extern Try.func76 (by kernel_rfl) (by kernel_rfl) (by kernel_rfl) (e := Extern.BytealgIndexByte.indexByte) (by kernel_rfl), Lib.run_indexByteString]
  simp only [Result.andThen]
  rw [Oper.upon_value]
  go_wp2
  go_ret
  exact ⟨rfl, rfl⟩

set_option maxHeartbeats 2000000 in
set_option maxRecDepth 100000 in
theorem Try.sliteIndexOne (s : ByteArray) (c : UInt8) (w : World) :
    Calls Try.prog 70 #[.string s, .string ⟨#[c]⟩] w fun e w' => e = .returned (.int .i64 (Lib.indexByte s.data.toList c)) ∧ w' = w := by
  go_enter Try.func70, Try.ntmps70
  go_wp2_with (go_at_call 72; refine (Try.sliteIndexByte _ _ _).mono ?_; rintro e w' ⟨rfl, rfl⟩)
  · have h : ([c] == s.toList) = true := by assumption
    go_ret
    refine ⟨?_, rfl⟩
    have e : s.data.toList = [c] := by rw [← Lib.toList_data]; exact (beq_iff_eq.1 h).symm
    rw [e]
    simp [Lib.indexByte]
  · go_ret
    exact ⟨rfl, rfl⟩

set_option maxHeartbeats 1000000 in
theorem Try.stringsIndexOne (s : ByteArray) (c : UInt8) (w : World) :
    Calls Try.prog 63 #[.string s, .string ⟨#[c]⟩] w fun e w' => e = .returned (.int .i64 (Lib.indexByte s.data.toList c)) ∧ w' = w := by
  go_enter Try.func63, Try.ntmps63
  go_wp2_with (go_at_call 70; refine (Try.sliteIndexOne _ _ _).mono ?_; rintro e w' ⟨rfl, rfl⟩)
  go_ret
  exact ⟨rfl, rfl⟩

set_option maxHeartbeats 1000000 in
theorem Try.stringsContainsOne (s : ByteArray) (c : UInt8) (w : World) :
    Calls Try.prog 56 #[.string s, .string ⟨#[c]⟩] w fun e w' => e = .returned (.bool (decide (0 ≤ Lib.indexByte s.data.toList c))) ∧ w' = w := by
  go_enter Try.func56, Try.ntmps56
  go_wp2_with (go_at_call 63; refine (Try.stringsIndexOne _ _ _).mono ?_; rintro e w' ⟨rfl, rfl⟩)
  go_ret
  exact ⟨rfl, rfl⟩
end Go.Proofs

namespace Go.Abs.Q
open Go.Proofs
open Go.RowKit (Below)

theorem compare_eq : ∀ (a b : List UInt8), Lib.compareBytes a b = if Op.bytesLess a b then -1 else if a = b then 0 else 1
  | [], [] => by simp [Lib.compareBytes, Op.bytesLess]
  | [], _ :: _ => by simp [Lib.compareBytes, Op.bytesLess]
  | _ :: _, [] => by simp [Lib.compareBytes, Op.bytesLess]
  | x :: a, y :: b => by
    simp only [Lib.compareBytes, Op.bytesLess, compare_eq a b]
    by_cases h : x < y
    · simp [h]
    · by_cases h' : y < x
      · have hne : x ≠ y := fun e => h (e ▸ h')
        simp [h, h', hne]
      · have he : x = y := by
          apply UInt8.le_antisymm
          · exact UInt8.not_lt.1 h'
          · exact UInt8.not_lt.1 h
        subst he
        simp [h]

theorem cmpBytes_eq (a b : ByteArray) : cmpBytes a b = Lib.compareBytes a.data.toList b.data.toList := by
  rw [compare_eq, cmpBytes, Lib.toList_data, Lib.toList_data]

theorem indexByte_iff (c : UInt8) : ∀ l : List UInt8, 0 ≤ Lib.indexByte l c ↔ c ∈ l
  | [] => by simp [Lib.indexByte]
  | b :: l => by
    have ih := indexByte_iff c l
    have hge := Lib.indexByte_ge l c
    by_cases h : b = c
    · subst h
      simp [Lib.indexByte]
    · have h1 : Lib.indexByte (b :: l) c = if Lib.indexByte l c = -1 then -1 else Lib.indexByte l c + 1 := by
        simp [Lib.indexByte, h]
      have h2 : ¬c = b := fun e => h e.symm
      rw [h1, List.mem_cons]
      by_cases h3 : Lib.indexByte l c = -1
      · rw [if_pos h3]
        constructor
        · intro k; omega
        · rintro (k | k)
          · exact absurd k h2
          · have := ih.2 k; omega
      · rw [if_neg h3]
        constructor
        · intro k; exact .inr (ih.1 (by omega))
        · intro k
          omega
theorem indexByte_has (l : List UInt8) (c : UInt8) : decide (0 ≤ Lib.indexByte l c) = l.contains c := by
  rw [Bool.eq_iff_iff, decide_eq_true_iff, indexByte_iff]
  simp

theorem mixed : Try.prog.follows .mixedOrders = true := by kernel_rfl

theorem QS : CfgS Try.prog Q := by
  refine ⟨fun f rf h => h, fun f s hs args r hr => ?_, mixed⟩
  have hs' : specF f = some s := hs
  unfold specF at hs'
  split at hs'
  · rename_i hf
    subst hf
    cases hs'
    unfold specCmp at hr
    split at hr
    · rename_i a b
      cases hr
      refine ⟨by kernel_rfl, fun w ok0 vs _ hv => ?_⟩
      have hvs : vs = #[.string a, .string b] := by
        simp only [PVs, PV] at hv
        obtain ⟨u, us, h1, rfl, u', us', rfl, rfl, rfl⟩ := hv
        cases vs
        simp_all
      subst hvs
      refine (Try.cmpString a b w).mono fun e w' ⟨he, hw⟩ => ?_
      subst hw
      exact ⟨_, he, Below.refl _ _, by simp [PV, cmpBytes_eq]⟩
    · cases hr
  · split at hs'
    · rename_i hf
      subst hf
      cases hs'
      unfold specHas at hr
      split at hr
      · rename_i a b
        split at hr
        · rename_i c hb
          cases hr
          refine ⟨by kernel_rfl, fun w ok0 vs _ hv => ?_⟩
          have hb' : b = ⟨#[c]⟩ := by
            obtain ⟨⟨l⟩⟩ := b
            simp at hb
            rw [hb]
          subst hb'
          have hvs : vs = #[.string a, .string ⟨#[c]⟩] := by
            simp only [PVs, PV] at hv
            obtain ⟨u, us, h1, rfl, u', us', rfl, rfl, rfl⟩ := hv
            cases vs
            simp_all
          subst hvs
          refine (Try.stringsContainsOne a c w).mono fun e w' ⟨he, hw⟩ => ?_
          subst hw
          exact ⟨_, he, Below.refl _ _, by simp [PV, indexByte_has]⟩
        · cases hr
      · cases hr
    · cases hs'
end Go.Abs.Q

namespace Go.Proofs.Ytpkegmgepnhfnaa.goalFewer
open Go.ChangeShapes Go.WideShapes Go.ChangeAt Go.RowKit Go.Abs Go.Abs.Q
set_option linter.unusedVariables false

theorem CV_head {w : World} {y : AV} {c : Value} (h : CV w [y] [c]) : PV w (okW w) y c := by
  obtain ⟨h1, _⟩ := h
  simp only [PVs] at h1
  obtain ⟨u, us, he, h2, _⟩ := h1
  cases he
  exact h2
theorem CV_agg {w : World} {cs : List AV} {us : Array Value} (h : CV w cs us.toList) : PV w (okW w) (.agg cs) (.agg us) := by
  simp only [PV]
  exact ⟨us, rfl, h.2, h.1⟩

theorem own : ownKnob Try.prog.godebug = none := by kernel_rfl
theorem laidOut : laidOutB Try.prog = true := by kernel_rfl

theorem contract (H : Type) (enc : TypeId × Value → H) (W : World) (base : Nat) (args : Array Value) (ds gs : List (DataW H)) (before : List MemPlace)
    (hval : ∀ (j : Nat) t v, Try.f6.params[j]? = some t → args[j]? = some v → Value.okWide Try.prog W .any base t v)
    (hW : DataW.Whole enc Try.prog Try.f6.params.toList Rows.goalFewerSpec.vars false W args.toList ds gs before) (hk : Rows.uptoSmall H (ds ++ gs) = true) :
    Calls Try.prog 6 args W fun e W' => ∃ v, e = .returned v ∧ Rows.goalFewerSpec.post enc Try.prog Try.f6 false true false false W args v W' := by
  have hW' := hW
  obtain ⟨p, q, hA0, hV, rfl, hfz, hnd⟩ := hW
  have hA : DataW.TrodAll enc Try.prog W 0 (fun _ => true) true Try.f6.params.toList args.toList ds p := hA0
  rw [Try.params6] at hA hval
  obtain ⟨v0, vs0, d0, ds0, p0, q0, hargs, rfl, rfl, h0, r0⟩ := trodAll_cons hA
  obtain ⟨v1, vs1, d1, ds1, p1, q1, rfl, rfl, rfl, h1, r1⟩ := trodAll_cons r0
  obtain ⟨v2, vs2, d2, ds2, p2, q2, rfl, rfl, rfl, h2, r2⟩ := trodAll_cons r1
  obtain ⟨rfl, rfl, rfl⟩ := trodAll_nil r2
  obtain rfl : args = #[v0, v1, v2] := by cases args; simp_all
  obtain ⟨rfl, rfl⟩ := trodVars_none hV
  have hb : Rows.uptoBulkAll [d0, d1, d2] ≤ 1048576 := by simpa [Rows.uptoSmall] using hk
  obtain ⟨a0, ln, cp, rfl⟩ := okWide_slice Try.underlying22 (hval 0 22 v0 rfl rfl)
  obtain ⟨a1, ln1, cp1, rfl⟩ := okWide_slice Try.underlying28 (hval 1 28 v1 rfl rfl)
  obtain ⟨us, rfl, -⟩ := okWide_struct Try.underlying39 (hval 2 39 v2 rfl rfl)
  obtain ⟨f2, h2⟩ := h2
  obtain ⟨f0, h0⟩ := h0
  obtain ⟨f1, h1⟩ := h1
  obtain ⟨⟨bl, l⟩, -, b0, cv0⟩ := opens_mos (w := W) f0 enc _ _ h0
  cases f1 with
  | zero => simp [DataW.trod] at h1
  | succ f1 =>
  obtain ⟨⟨bc, cs⟩, -, b1, cv1⟩ := opens_slice (w := W) (enc := AV.int .i64) Try.underlying28 c3 (by omega) (opens_int (w := W) Try.underlying3 f1) enc _ _ h1
  obtain ⟨x, -, b2, cv2⟩ := opens_mo (w := W) f2 enc _ _ h2
  dsimp only at b0 b1 b2
  have b2' : x.agents.length + Tm.sizes x.terms + 1 ≤ Rows.uptoBulk d2 := b2
  simp only [Rows.uptoBulkAll] at hb
  have ht := totM_le l
  have hcs := sum_ge (f := fun _ : Int => 1) (fun _ => by omega) cs
  have hlen := sum_ge (f := moW) (fun x => by simp [moW]) l
  refine true_post QS laidOut Try.underlying4 rfl (fun t ht => ?_) rfl ⟨rfl, rfl, rfl⟩ hW' (by simp only [PVs]; exact ⟨_, _, rfl, CV_head cv0, _, _, rfl, CV_head cv1, _, _, rfl, CV_agg cv2, rfl⟩) (pc_GoalFewer (false, bl) (false, bc) l (by omega) (by omega) cs (by omega) x (by omega))
  rw [Try.params6] at ht
  rcases List.mem_cons.1 ht with rfl | ht
  · exact ⟨by kernel_rfl, of_decide_eq_true (by kernel_rfl)⟩
  · rcases List.mem_cons.1 ht with rfl | ht
    · exact ⟨by kernel_rfl, of_decide_eq_true (by kernel_rfl)⟩
    · rcases List.mem_cons.1 ht with rfl | ht
      · exact ⟨by kernel_rfl, of_decide_eq_true (by kernel_rfl)⟩
      · cases ht

set_option maxRecDepth 100000 in
theorem lifted (os : Os) (started : os.Started) (H : Type) (enc : TypeId × Value → H) (F : Stop.Interp) :
    ReturnsInHanded {} Try.checked os 6 .any ((Rows.OpenSpec.upto Rows.goalFewerSpec).pre6 enc Try.prog Try.f6 Rows.goalFewerUptoRow.domain false) (((Rows.OpenSpec.upto Rows.goalFewerSpec).at F).post enc Try.prog Try.f6 false true false false) := by
  refine returnsInHanded_of_cond (C := Try.checked) (s := Rows.OpenSpec.upto Rows.goalFewerSpec) (k := Rows.uptoSmall) rfl own started (by kernel_rfl) Try.func6
    (OpenSpec.witness (enc := enc) (C := Try.checked) (s := Rows.OpenSpec.upto Rows.goalFewerSpec) (k := Rows.uptoSmall) rfl false ⟨#[], #[.slice none 0 0, .slice none 0 0, .agg #[.int .i64 0, .int .i64 0, .int .i64 0, .slice none 0 0, .int .i64 0, .slice none 0 0]], []⟩ 8 (by kernel_rfl) (by kernel_rfl) (by kernel_rfl)
      (x := ([.nil, .nil, .agg [.lit (.int .i64 0), .lit (.int .i64 0), .lit (.int .i64 0), .nil, .lit (.int .i64 0), .nil]], [], [])) (by kernel_rfl) rfl (by kernel_rfl)) ?_
  intro W base args ds gs before hval hW _ hk _
  exact contract H enc W base args ds gs before hval hW hk

theorem over : Rows.goalFewerUptoRow.holds Try.pinned (Rows.OpenSpec.upto Rows.goalFewerSpec) :=
  OpenClaim.holds_of_cond 6 Try.f6 rfl rfl rfl rfl rfl rfl rfl ⟨rfl, rfl, rfl, rfl, rfl⟩ rfl rfl rfl rfl rfl (by kernel_rfl) Try.func6 (by kernel_rfl)
    (of_decide_eq_true (by kernel_rfl)) (by unfold Func.isWrapper; first | (rw [if_pos (by decide +kernel)]; kernel_rfl) | (rw [if_neg (by decide +kernel)]; exact ⟨rfl, rfl⟩))
    (fun os started H enc _ F => lifted os started H enc F)

theorem proved : Rows.GoalFewerUptoSaid :=
  over
#print axioms proved
end Go.Proofs.Ytpkegmgepnhfnaa.goalFewer
