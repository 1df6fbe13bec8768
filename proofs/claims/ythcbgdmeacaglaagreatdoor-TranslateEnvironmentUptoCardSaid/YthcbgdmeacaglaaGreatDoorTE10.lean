/- A part of the proof. -/
import Derived.Test.YthcbgdmeacaglaaGreatDoorTE9
set_option linter.all false
namespace Go.Abs
open Go.RowKit (Below)
def Rd (r : Option (List (Option Nat))) (x : Option Nat) : Prop := match r with | none => True | some L => x ∈ L
theorem eqBox_iff : ∀ {a b : Option (List AV)}, eqBox a b = true → a = b
  | none, none, _ => rfl
  | some a, some b, h => by rw [eqAVs_eq h]
  | none, some _, h => by cases h
  | some _, none, h => by cases h
theorem eqFam_iff : ∀ {a b : Option Fam}, eqFam a b = true → a = b
  | none, none, _ => rfl
  | some a, some b, h => by
    simp only [eqFam, Bool.and_eq_true, decide_eq_true_eq] at h
    obtain ⟨⟨h1, h2⟩, h3⟩ := h
    obtain ⟨x, s, w⟩ := a
    obtain ⟨x', s', w'⟩ := b
    simp only at h1 h2 h3
    rw [eqAVs_eq h1, h2, h3]
  | none, some _, h => by cases h
  | some _, none, h => by cases h
theorem difB_mem {h h1 : AH} {x : Option Nat} (hx : cB h1 x ≠ cB h x) : x ∈ difB h.boxes h1.boxes := by
  unfold difB
  cases x with
  | none =>
    have : h.boxes.length ≠ h1.boxes.length := fun e => hx (by simp [cB, e])
    rw [if_neg this]; simp
  | some i =>
    refine List.mem_append_right _ (List.mem_map.2 ⟨i, List.mem_filter.2 ⟨List.mem_range.2 ?_, ?_⟩, rfl⟩)
    · refine Nat.lt_of_not_le fun hle => hx ?_
      have l1 : h.boxes.length ≤ i := Nat.le_trans (Nat.le_max_left _ _) hle
      have l2 : h1.boxes.length ≤ i := Nat.le_trans (Nat.le_max_right _ _) hle
      simp [cB, List.getElem?_eq_none l1, List.getElem?_eq_none l2]
    · cases hc : eqBox h.boxes[i]? h1.boxes[i]? with
      | false => rfl
      | true => exact absurd (by simp [cB, eqBox_iff hc]) hx
theorem difF_mem {h h1 : AH} {x : Option Nat} (hx : cF h1 x ≠ cF h x) : x ∈ difF h.fams h1.fams := by
  unfold difF
  cases x with
  | none =>
    have : h.fams.length ≠ h1.fams.length := fun e => hx (by simp [cF, e])
    rw [if_neg this]; simp
  | some i =>
    refine List.mem_append_right _ (List.mem_map.2 ⟨i, List.mem_filter.2 ⟨List.mem_range.2 ?_, ?_⟩, rfl⟩)
    · refine Nat.lt_of_not_le fun hle => hx ?_
      have l1 : h.fams.length ≤ i := Nat.le_trans (Nat.le_max_left _ _) hle
      have l2 : h1.fams.length ≤ i := Nat.le_trans (Nat.le_max_right _ _) hle
      simp [cF, List.getElem?_eq_none l1, List.getElem?_eq_none l2]
    · cases hc : eqFam h.fams[i]? h1.fams[i]? with
      | false => rfl
      | true => exact absurd (by simp [cF, eqFam_iff hc]) hx
theorem apartL_spec {r : Option (List (Option Nat))} {w : List (Option Nat)} (h : apartL r w = true) {x : Option Nat} (hr : Rd r x) : x ∉ w := by
  cases r with
  | none => intro hx; simp only [apartL, List.isEmpty_iff] at h; rw [h] at hx; cases hx
  | some L =>
    intro hx
    have := (List.all_eq_true.1 h) x hx
    have hr' : x ∈ L := hr
    simp [hr'] at this
section
variable {P : Program} {O : Orc} {c : Ctx}
theorem evalOpsD_cons (o : RO) (rest : List RO) (fr : Fr) (h : AH) : evalOpsD O c (o :: rest) fr h = (stepA O c o fr h).bind fun x => (evalOpsD O c rest (put fr o.dst x.1) x.2).map fun p => (footOf c o fr h x.2 :: p.1, p.2) := by
  unfold stepA
  simp only [evalOpsD]
  cases wantedA fr o.guard with
  | none => rfl
  | some b =>
    cases b with
    | false => rfl
    | true =>
      simp only
      cases evalOp O c o.op fr h with
      | none => rfl
      | some p => rfl
theorem evalOpsD_ops : ∀ {ros : List RO} {fr : Fr} {h : AH} {fs : List Foot} {s : Fr × AH}, evalOpsD O c ros fr h = some (fs, s) → evalOps O c ros fr h = some s
  | [], fr, h, fs, s, he => by simp only [evalOpsD, Option.some.injEq, Prod.mk.injEq] at he; rw [← he.2]; rfl
  | o :: ros, fr, h, fs, s, he => by
    rw [evalOpsD_cons, Option.bind_eq_some_iff] at he
    obtain ⟨p, hp, he⟩ := he
    rw [Option.map_eq_some_iff] at he
    obtain ⟨q, hq, e⟩ := he
    cases e
    rw [evalOps_cons, hp]
    exact evalOpsD_ops hq
theorem traceD_of : ∀ {ros : List RO} {fr fr' : Fr} {h h' : AH} {fs : List Foot}, evalOpsD O c ros fr h = some (fs, fr', h') →
    ∃ (F : Nat → Fr) (H : Nat → AH) (V : Nat → AV), F 0 = fr ∧ H 0 = h ∧ F ros.length = fr' ∧ H ros.length = h' ∧
      (∀ (i : Nat) (ro : RO), ros[i]? = some ro → stepA O c ro (F i) (H i) = some (V i, H (i + 1)) ∧ F (i + 1) = put (F i) ro.dst (V i)) ∧
      (∀ (i : Nat) (ro : RO), ros[i]? = some ro → fs[i]? = some (footOf c ro (F i) (H i) (H (i + 1))))
  | [], fr, fr', h, h', fs, he => by
    simp only [evalOpsD, Option.some.injEq, Prod.mk.injEq] at he
    obtain ⟨_, rfl, rfl⟩ := he
    exact ⟨fun _ => fr, fun _ => h, fun _ => .junk, rfl, rfl, rfl, rfl, fun i ro hr => by simp at hr, fun i ro hr => by simp at hr⟩
  | o :: ros, fr, fr', h, h', fs, he => by
    rw [evalOpsD_cons, Option.bind_eq_some_iff] at he
    obtain ⟨⟨v, h1⟩, hst, hrest⟩ := he
    rw [Option.map_eq_some_iff] at hrest
    obtain ⟨⟨fs', s⟩, hq, e⟩ := hrest
    cases e
    obtain ⟨F, H, V, f0, f1, f2, f3, f4, f5⟩ := traceD_of hq
    refine ⟨fun i => if i = 0 then fr else F (i - 1), fun i => if i = 0 then h else H (i - 1), fun i => if i = 0 then v else V (i - 1), by simp, by simp, by simpa using f2, by simpa using f3, fun i ro hr => ?_, fun i ro hr => ?_⟩
    · cases i with
      | zero =>
        simp at hr; subst hr
        simp [f0, f1, hst]
      | succ i =>
        have := f4 i ro (by simpa using hr)
        simpa using this
    · cases i with
      | zero =>
        simp at hr; subst hr
        simp [f1]
      | succ i =>
        have := f5 i ro (by simpa using hr)
        simpa using this
theorem stepD_congr {ro : RO} {fr fr' : Fr} {h h' h1 : AH} {v : AV} (hs : ∀ t ∈ ro.slots, fr'.getD t undefA = fr.getD t undefA)
    (hb : ∀ x, Rd (footOf c ro fr h h1).rb x → cB h' x = cB h x) (hf : ∀ x, Rd (footOf c ro fr h h1).rf x → cF h' x = cF h x) (he : stepA O c ro fr h = some (v, h1)) :
    ∃ h1', stepA O c ro fr' h' = some (v, h1') ∧ DoB h h1 h' h1' ∧ DoF h h1 h' h1' := by
  have hw : wantedA fr' ro.guard = wantedA fr ro.guard := by
    cases hg : ro.guard with
    | none => rfl
    | some g =>
      obtain ⟨s, want⟩ := g
      have := hs s (by simp [RO.slots, hg])
      simp only [wantedA, this]
  unfold stepA at he ⊢
  unfold footOf footG at hb hf
  rw [hw]
  split at he
  · rename_i hg
    rw [hg] at hb hf
    simp only at hb hf ⊢
    refine op_foot (fun t ht => hs t (by simp only [RO.slots, List.mem_append]; exact .inl ht)) ?_ ?_ he
    · cases hq : opRB c h.boxes.length (get fr) ro.op with
      | none => exact fun x => hb x (by rw [hq]; trivial)
      | some L => exact fun x hx => hb x (by rw [hq]; exact hx)
    · cases hq : opRF c (get fr) ro.op with
      | none => exact fun x => hf x (by rw [hq]; trivial)
      | some L => exact fun x hx => hf x (by rw [hq]; exact hx)
  · cases he
    exact ⟨h', rfl, DoB_keep rfl rfl, DoF_keep rfl rfl⟩
  · cases he
structure TrD (O : Orc) (c : Ctx) (ops : Array Oper) (ros : List RO) (fs : List Foot) (F : Nat → Fr) (H : Nat → AH) (V : Nat → AV) : Prop where
  len : ros.length = ops.size
  rel : ∀ (i : Nat) (o : Oper) (ro : RO), ops[i]? = some o → ros[i]? = some ro → RORel P ops.toList o ro
  edges : edgesOk ops.toList 0 = true
  pairs : pairsOkD (before ops.toList []) ros fs = true
  step : ∀ (i : Nat) (ro : RO), ros[i]? = some ro → stepA O c ro (F i) (H i) = some (V i, H (i + 1)) ∧ F (i + 1) = put (F i) ro.dst (V i)
  foot : ∀ (i : Nat) (ro : RO), ros[i]? = some ro → fs[i]? = some (footOf c ro (F i) (H i) (H (i + 1)))
section
variable {ops : Array Oper} {ros : List RO} {fs : List Foot} {F : Nat → Fr} {H : Nat → AH} {V : Nat → AV}
def RB (c : Ctx) (ros : List RO) (F : Nat → Fr) (H : Nat → AH) (i : Nat) (x : Option Nat) : Prop := ∃ ro, ros[i]? = some ro ∧ Rd (footOf c ro (F i) (H i) (H (i + 1))).rb x
def RF (c : Ctx) (ros : List RO) (F : Nat → Fr) (H : Nat → AH) (i : Nat) (x : Option Nat) : Prop := ∃ ro, ros[i]? = some ro ∧ Rd (footOf c ro (F i) (H i) (H (i + 1))).rf x
def WB (H : Nat → AH) (i : Nat) (x : Option Nat) : Prop := cB (H (i + 1)) x ≠ cB (H i) x
def WF (H : Nat → AH) (i : Nat) (x : Option Nat) : Prop := cF (H (i + 1)) x ≠ cF (H i) x
theorem TrD.wb (T : TrD (P := P) O c ops ros fs F H V) {i : Nat} {ro : RO} (hi : ros[i]? = some ro) {x : Option Nat} (hx : WB H i x) : x ∈ (footOf c ro (F i) (H i) (H (i + 1))).wb := by
  have hst := (T.step i ro hi).1
  unfold stepA at hst
  unfold footOf footG
  split at hst
  · rename_i hw
    rw [hw]
    exact difB_mem hx
  · simp only [Option.some.injEq, Prod.mk.injEq] at hst
    exact absurd (by rw [hst.2]) hx
  · cases hst
theorem TrD.wf (T : TrD (P := P) O c ops ros fs F H V) {i : Nat} {ro : RO} (hi : ros[i]? = some ro) {x : Option Nat} (hx : WF H i x) : x ∈ (footOf c ro (F i) (H i) (H (i + 1))).wf := by
  have hst := (T.step i ro hi).1
  unfold stepA at hst
  unfold footOf footG
  split at hst
  · rename_i hw
    rw [hw]
    exact difF_mem hx
  · simp only [Option.some.injEq, Prod.mk.injEq] at hst
    exact absurd (by rw [hst.2]) hx
  · cases hst
theorem TrD.pair (T : TrD (P := P) O c ops ros fs F H V) {i j : Nat} {oi oj : RO} (hij : i < j) (hi : ros[i]? = some oi) (hj : ros[j]? = some oj) :
    pairOkD ((before ops.toList []).getD j 0) i oi oj (footOf c oi (F i) (H i) (H (i + 1))) (footOf c oj (F j) (H j) (H (j + 1))) = true ∧ (∀ d, oi.dst = some d → oj.dst ≠ some d) := by
  have h := T.pairs
  unfold pairsOkD at h
  have hjl := (List.getElem?_eq_some_iff.1 hj).1
  have h1 := (List.all_eq_true.1 h) j (List.mem_range.2 hjl)
  have h2 := (List.all_eq_true.1 h1) i (List.mem_range.2 hij)
  simp only [hi, hj, T.foot i oi hi, T.foot j oj hj, Bool.and_eq_true] at h2
  refine ⟨h2.1, fun d hd hd' => ?_⟩
  have := h2.2
  rw [hd, hd'] at this
  simp at this
structure Apt (c : Ctx) (ros : List RO) (F : Nat → Fr) (H : Nat → AH) (i j : Nat) (oi oj : RO) : Prop where
  si : ∀ d, oi.dst = some d → d ∉ oj.slots
  sj : ∀ d, oj.dst = some d → d ∉ oi.slots
  b1 : ∀ x, RB c ros F H i x → ¬ WB H j x
  b2 : ∀ x, RB c ros F H j x → ¬ WB H i x
  b3 : ∀ x, WB H i x → ¬ WB H j x
  f1 : ∀ x, RF c ros F H i x → ¬ WF H j x
  f2 : ∀ x, RF c ros F H j x → ¬ WF H i x
  f3 : ∀ x, WF H i x → ¬ WF H j x
theorem TrD.apart (T : TrD (P := P) O c ops ros fs F H V) {i j : Nat} {oi oj : RO} (hij : i < j) (hi : ros[i]? = some oi) (hj : ros[j]? = some oj) (hd : ¬ Dep ops.toList i j) : Apt c ros F H i j oi oj := by
  obtain ⟨h1, _⟩ := T.pair hij hi hj
  unfold pairOkD at h1
  have hd' : ((before ops.toList []).getD j 0).testBit i = false := by simpa [Dep] using hd
  rw [hd', Bool.false_or] at h1
  unfold footsApart at h1
  simp only [Bool.and_eq_true] at h1
  obtain ⟨⟨a1, a2⟩, ⟨⟨⟨⟨p1, p2⟩, p3⟩, p4⟩, p5⟩, p6⟩ := h1
  have get : ∀ {m : Nat} {om ro : RO}, ros[m]? = some om → ros[m]? = some ro → ro = om := fun e1 e2 => by rw [e1] at e2; simpa using e2.symm
  refine ⟨fun d hd => ?_, fun d hd => ?_, fun x ⟨ro, hr, hx⟩ hw => ?_, fun x ⟨ro, hr, hx⟩ hw => ?_, fun x h1 h2 => ?_, fun x ⟨ro, hr, hx⟩ hw => ?_, fun x ⟨ro, hr, hx⟩ hw => ?_, fun x h1 h2 => ?_⟩
  · rw [hd] at a1; simp at a1; exact a1.1
  · rw [hd] at a2; simpa using a2
  · obtain rfl := get hi hr; exact apartL_spec p1 hx (T.wb hj hw)
  · obtain rfl := get hj hr; exact apartL_spec p2 hx (T.wb hi hw)
  · exact apartL_spec p3 (x := x) (T.wb hi h1) (T.wb hj h2)
  · obtain rfl := get hi hr; exact apartL_spec p4 hx (T.wf hj hw)
  · obtain rfl := get hj hr; exact apartL_spec p5 hx (T.wf hi hw)
  · exact apartL_spec p6 (x := x) (T.wf hi h1) (T.wf hj h2)
theorem TrD.flen (T : TrD (P := P) O c ops ros fs F H V) : ∀ i, i ≤ ros.length → (F i).length = (F 0).length
  | 0, _ => rfl
  | i + 1, h => by
    rw [(T.step i _ (List.getElem?_eq_getElem (by omega))).2, put_len]
    exact T.flen i (by omega)
theorem TrD.ghost (T : TrD (P := P) O c ops ros fs F H V) {t : Nat} : ∀ j, j ≤ ros.length → (∀ (i : Nat) (ro : RO), i < j → ros[i]? = some ro → ro.dst ≠ some t) → (F j).getD t undefA = (F 0).getD t undefA
  | 0, _, _ => rfl
  | j + 1, h, hn => by
    have hj : ros[j]? = some ros[j] := List.getElem?_eq_getElem (by omega)
    rw [(T.step j _ hj).2, put_getD_other (hn j _ (by omega) hj)]
    exact T.ghost j (by omega) fun i ro hi => hn i ro (by omega)
theorem TrD.written (T : TrD (P := P) O c ops ros fs F H V) {t i : Nat} {ri : RO} (hi : ros[i]? = some ri) (hd : ri.dst = some t) (ht : t < (F 0).length) : ∀ j, j ≤ ros.length → i < j → (F j).getD t undefA = V i
  | 0, _, h => by omega
  | j + 1, h, hij => by
    have hj : ros[j]? = some ros[j] := List.getElem?_eq_getElem (by omega)
    rw [(T.step j _ hj).2]
    by_cases he : i = j
    · subst he
      rw [hi] at hj
      have : ros[i] = ri := by simpa using hj.symm
      rw [this, hd]
      exact put_getD_same (by rw [T.flen i (by omega)]; exact ht)
    · rw [put_getD_other ((T.pair (show i < j by omega) hi hj).2 t hd)]
      exact T.written hi hd ht j (by omega) (by omega)
theorem cellB_run {x : Option Nat} {i : Nat} : ∀ k, i ≤ k → (∀ m, i ≤ m → m < k → ¬ WB H m x) → cB (H k) x = cB (H i) x
  | 0, h, _ => by have : i = 0 := by omega
                  subst this; rfl
  | k + 1, h, hn => by
    by_cases he : i = k + 1
    · subst he; rfl
    · have h1 : cB (H (k + 1)) x = cB (H k) x := Classical.byContradiction fun hc => hn k (by omega) (by omega) hc
      rw [h1]
      exact cellB_run k (by omega) fun m h1 h2 => hn m h1 (by omega)
theorem cellF_run {x : Option Nat} {i : Nat} : ∀ k, i ≤ k → (∀ m, i ≤ m → m < k → ¬ WF H m x) → cF (H k) x = cF (H i) x
  | 0, h, _ => by have : i = 0 := by omega
                  subst this; rfl
  | k + 1, h, hn => by
    by_cases he : i = k + 1
    · subst he; rfl
    · have h1 : cF (H (k + 1)) x = cF (H k) x := Classical.byContradiction fun hc => hn k (by omega) (by omega) hc
      rw [h1]
      exact cellF_run k (by omega) fun m h1 h2 => hn m h1 (by omega)
structure InvD (ops : Array Oper) (ros : List RO) (F : Nat → Fr) (H : Nat → AH) (V : Nat → AV) (c : Ctx) (listed : Array Bool) (E : Env) (frS : Fr) : Prop where
  size : listed.size = ops.size
  closed : ∀ j, Lst listed j → ∀ i, Dep ops.toList i j → Lst listed i
  flen : frS.length = (F 0).length
  wrote : ∀ (i t : Nat) (ro : RO), ros[i]? = some ro → Lst listed i → ro.dst = some t → t < (F 0).length → frS.getD t undefA = V i
  kept : ∀ t : Nat, (∀ (i : Nat) (ro : RO), ros[i]? = some ro → Lst listed i → ro.dst ≠ some t) → frS.getD t undefA = (F 0).getD t undefA
  boxes : ∀ (x : Option Nat) (k : Nat), k ≤ ros.length → (∀ m, m < ros.length → WB H m x → (Lst listed m ↔ m < k)) → cB E.h x = cB (H k) x
  fams : ∀ (x : Option Nat) (k : Nat), k ≤ ros.length → (∀ m, m < ros.length → WF H m x → (Lst listed m ↔ m < k)) → cF E.h x = cF (H k) x
theorem InvD.view (T : TrD (P := P) O c ops ros fs F H V) {listed : Array Bool} {E : Env} {frS : Fr} (I : InvD ops ros F H V c listed E frS) {j : Nat} {rj : RO} (hj : ros[j]? = some rj) (hnl : ¬ Lst listed j) (hdeps : ∀ i, Dep ops.toList i j → Lst listed i) :
    (∀ t ∈ rj.slots, frS.getD t undefA = (F j).getD t undefA) ∧ (∀ x, RB c ros F H j x → cB E.h x = cB (H j) x) ∧ (∀ x, RF c ros F H j x → cF E.h x = cF (H j) x) := by
  have hjl := (List.getElem?_eq_some_iff.1 hj).1
  have side : ∀ (m : Nat), m ≠ j → ((m < j → Dep ops.toList m j) ∧ (j < m → Dep ops.toList j m)) → (Lst listed m ↔ m < j) := by
    intro m hne hd
    constructor
    · intro hl
      rcases Nat.lt_or_gt_of_ne hne with h | h
      · exact h
      · exact absurd (I.closed m hl j (hd.2 h)) hnl
    · intro h
      exact hdeps m (hd.1 h)
  refine ⟨fun t ht => ?_, fun x hx => ?_, fun x hx => ?_⟩
  · by_cases hw : ∃ (m : Nat) (rm : RO), ros[m]? = some rm ∧ rm.dst = some t
    · obtain ⟨m, rm, hm, hd⟩ := hw
      have hml := (List.getElem?_eq_some_iff.1 hm).1
      by_cases hmj : m = j
      · subst hmj
        have h1 : frS.getD t undefA = (F 0).getD t undefA := I.kept t fun i ro hi hl hdi => by
          rcases Nat.lt_trichotomy i m with h | h | h
          · exact (T.pair h hi hm).2 t hdi hd
          · subst h; exact hnl hl
          · exact (T.pair h hm hi).2 t hd hdi
        have h2 : (F m).getD t undefA = (F 0).getD t undefA := T.ghost m (by omega) fun i ro h hi hdi => (T.pair h hi hm).2 t hdi hd
        rw [h1, h2]
      · have hs : Lst listed m ↔ m < j := by
          refine side m hmj ⟨fun h => ?_, fun h => ?_⟩
          · exact Classical.byContradiction fun hn => (T.apart h hm hj hn).si t hd ht
          · exact Classical.byContradiction fun hn => (T.apart h hj hm hn).sj t hd ht
        by_cases htl : t < (F 0).length
        · by_cases hlt : m < j
          · rw [I.wrote m t rm hm (hs.2 hlt) hd htl, T.written hm hd htl j (by omega) hlt]
          · have h1 : frS.getD t undefA = (F 0).getD t undefA := I.kept t fun i ro hi hl hdi => by
              rcases Nat.lt_trichotomy i m with h | h | h
              · exact (T.pair h hi hm).2 t hdi hd
              · subst h; exact hlt (hs.1 hl)
              · exact (T.pair h hm hi).2 t hd hdi
            have h2 : (F j).getD t undefA = (F 0).getD t undefA := T.ghost j (by omega) fun i ro h hi hdi => by
              rcases Nat.lt_trichotomy i m with h' | h' | h'
              · exact (T.pair h' hi hm).2 t hdi hd
              · omega
              · exact (T.pair h' hm hi).2 t hd hdi
            rw [h1, h2]
        · have h1 : frS.getD t undefA = undefA := by simp [List.getD, List.getElem?_eq_none (show frS.length ≤ t by rw [I.flen]; omega)]
          have h2 : (F j).getD t undefA = undefA := by simp [List.getD, List.getElem?_eq_none (show (F j).length ≤ t by rw [T.flen j (by omega)]; omega)]
          rw [h1, h2]
    · have hw' : ∀ (i : Nat) (ro : RO), ros[i]? = some ro → ro.dst ≠ some t := fun i ro hi hd => hw ⟨i, ro, hi, hd⟩
      rw [I.kept t fun i ro hi _ => hw' i ro hi, T.ghost j (by omega) fun i ro _ hi => hw' i ro hi]
  · refine I.boxes x j (by omega) fun m hm hwm => ?_
    have hmr : ros[m]? = some ros[m] := List.getElem?_eq_getElem hm
    by_cases hmj : m = j
    · subst hmj; exact ⟨fun h => absurd h hnl, fun h => by omega⟩
    · refine side m hmj ⟨fun h => ?_, fun h => ?_⟩
      · exact Classical.byContradiction fun hn => (T.apart h hmr hj hn).b2 x hx hwm
      · exact Classical.byContradiction fun hn => (T.apart h hj hmr hn).b1 x hx hwm
  · refine I.fams x j (by omega) fun m hm hwm => ?_
    have hmr : ros[m]? = some ros[m] := List.getElem?_eq_getElem hm
    by_cases hmj : m = j
    · subst hmj; exact ⟨fun h => absurd h hnl, fun h => by omega⟩
    · refine side m hmj ⟨fun h => ?_, fun h => ?_⟩
      · exact Classical.byContradiction fun hn => (T.apart h hmr hj hn).f2 x hx hwm
      · exact Classical.byContradiction fun hn => (T.apart h hj hmr hn).f1 x hx hwm
theorem InvD.next (T : TrD (P := P) O c ops ros fs F H V) {listed : Array Bool} {E E' : Env} {frS : Fr} (I : InvD ops ros F H V c listed E frS) {j : Nat} {rj : RO} (hj : ros[j]? = some rj) (hnl : ¬ Lst listed j) (hdeps : ∀ i, Dep ops.toList i j → Lst listed i)
    {h1 : AH} (hE : E'.h = h1) (dB : DoB (H j) (H (j + 1)) E.h h1) (dF : DoF (H j) (H (j + 1)) E.h h1) : InvD ops ros F H V c (listed.setIfInBounds j true) E' (put frS rj.dst (V j)) := by
  have hjl := (List.getElem?_eq_some_iff.1 hj).1
  have hjs : j < listed.size := by rw [I.size, ← T.len]; exact hjl
  subst hE
  refine ⟨by simpa using I.size, fun i hi k hk => ?_, by rw [put_len]; exact I.flen, fun i t ro hi hl hd ht => ?_, fun t hn => ?_, fun x k hk hm => ?_, fun x k hk hm => ?_⟩
  · rw [Lst_set hjs] at hi ⊢
    rcases hi with rfl | hi
    · exact .inr (hdeps k hk)
    · exact .inr (I.closed i hi k hk)
  · rw [Lst_set hjs] at hl
    by_cases hij : i = j
    · subst hij
      rw [hi] at hj
      have : ro = rj := by simpa using hj
      subst this
      rw [hd]
      exact put_getD_same (by rw [I.flen]; exact ht)
    · have hl' : Lst listed i := hl.resolve_left hij
      have hne : rj.dst ≠ some t := by
        rcases Nat.lt_or_gt_of_ne hij with h | h
        · exact (T.pair h hi hj).2 t hd
        · exact fun hd' => (T.pair h hj hi).2 t hd' hd
      rw [put_getD_other hne]
      exact I.wrote i t ro hi hl' hd ht
  · have h1 : rj.dst ≠ some t := hn j rj hj ((Lst_set hjs).2 (.inl rfl))
    rw [put_getD_other h1]
    exact I.kept t fun i ro hi hl => hn i ro hi ((Lst_set hjs).2 (.inr hl))
  · by_cases hw : WB H j x
    · rw [(dB x).2 hw]
      have hjk : j < k := (hm j hjl hw).1 ((Lst_set hjs).2 (.inl rfl))
      refine (cellB_run k (by omega) fun m h1 h2 hwm => ?_).symm
      have hl := (hm m (by omega) hwm).2 h2
      rw [Lst_set hjs] at hl
      have hl := hl.resolve_left (by omega)
      have hd : Dep ops.toList j m := Classical.byContradiction fun hn => (T.apart (show j < m by omega) hj (List.getElem?_eq_getElem (show m < ros.length by omega)) hn).b3 x hw hwm
      exact hnl (I.closed m hl j hd)
    · rw [(dB x).1 (Classical.not_not.1 hw)]
      refine I.boxes x k hk fun m hml hwm => ?_
      rw [← hm m hml hwm, Lst_set hjs]
      exact ⟨.inr, fun h => h.resolve_left fun e => hw (e ▸ hwm)⟩
  · by_cases hw : WF H j x
    · rw [(dF x).2 hw]
      have hjk : j < k := (hm j hjl hw).1 ((Lst_set hjs).2 (.inl rfl))
      refine (cellF_run k (by omega) fun m h1 h2 hwm => ?_).symm
      have hl := (hm m (by omega) hwm).2 h2
      rw [Lst_set hjs] at hl
      have hl := hl.resolve_left (by omega)
      have hd : Dep ops.toList j m := Classical.byContradiction fun hn => (T.apart (show j < m by omega) hj (List.getElem?_eq_getElem (show m < ros.length by omega)) hn).f3 x hw hwm
      exact hnl (I.closed m hl j hd)
    · rw [(dF x).1 (Classical.not_not.1 hw)]
      refine I.fams x k hk fun m hml hwm => ?_
      rw [← hm m hml hwm, Lst_set hjs]
      exact ⟨.inr, fun h => h.resolve_left fun e => hw (e ▸ hwm)⟩
theorem all_listedD (T : TrD (P := P) O c ops ros fs F H V) {listed : Array Bool} (hs : listed.size = ops.size) (hr : Region.ready .any ops listed = []) : ∀ i, i < ops.size → Lst listed i := by
  intro i
  induction i using Nat.strongRecOn with
  | _ i ih =>
    intro hi
    refine Classical.byContradiction fun hn => ?_
    have ho : ops[i]? = some ops[i] := Array.getElem?_eq_getElem hi
    have : i ∈ Region.ready .any ops listed := (ready_iff hs).2 ⟨ops[i], ho, hn, fun e he hb => by
      have := edges_lt T.edges (j := i) (o := ops[i]) (by simp) he hb
      exact ih e.on (by omega) (by omega)⟩
    rw [hr] at this
    cases this
theorem exploreD (hP : PureS P O) (hR : RawS P O) (T : TrD (P := P) O c ops ros fs F H V) {Q : Exit → Act → World → Prop} {E0 : Env} {a0 : Act}
    (hQ : ∀ a' E', Ext E0 E' → SR E' → E'.h = H ros.length → FR E' (F ros.length) a'.tmps → a'.defers = a0.defers → Q .normal a' E'.w) :
    ∀ (fuel : Nat) (listed : Array Bool) (a : Act) (E : Env) (frS : Fr), InvD ops ros F H V c listed E frS → Ext E0 E → SR E → FR E frS a.tmps → a.defers = a0.defers → left ops.size listed ≤ fuel → wpAny P .any ops Q fuel listed a E.w := by
  intro fuel
  have done : ∀ (listed : Array Bool) (a : Act) (E : Env) (frS : Fr), InvD ops ros F H V c listed E frS → Ext E0 E → SR E → FR E frS a.tmps → a.defers = a0.defers → (∀ i, i < ops.size → Lst listed i) → Q .normal a E.w := by
    intro listed a E frS I hx hS hf hd hall
    have hlen := T.len
    have hb := boxes_ext fun x => I.boxes x ros.length (Nat.le_refl _) fun m hm _ => ⟨fun _ => hm, fun _ => hall m (by omega)⟩
    have hfm := fams_ext fun x => I.fams x ros.length (Nat.le_refl _) fun m hm _ => ⟨fun _ => hm, fun _ => hall m (by omega)⟩
    refine hQ a E hx hS (AH_eq hb hfm) ⟨?_, fun t => ?_, hf.glob⟩ hd
    · rw [T.flen _ (Nat.le_refl _), ← I.flen]; exact hf.len
    · have hv := hf.val t
      have : (F ros.length).getD t undefA = frS.getD t undefA := by
        by_cases hw : ∃ (m : Nat) (rm : RO), ros[m]? = some rm ∧ rm.dst = some t
        · obtain ⟨m, rm, hm, hdm⟩ := hw
          have hml := (List.getElem?_eq_some_iff.1 hm).1
          by_cases htl : t < (F 0).length
          · rw [T.written hm hdm htl _ (Nat.le_refl _) hml, I.wrote m t rm hm (hall m (by omega)) hdm htl]
          · rw [show (F ros.length).getD t undefA = undefA from by simp [List.getD, List.getElem?_eq_none (show (F ros.length).length ≤ t by rw [T.flen _ (Nat.le_refl _)]; omega)],
              show frS.getD t undefA = undefA from by simp [List.getD, List.getElem?_eq_none (show frS.length ≤ t by rw [I.flen]; omega)]]
        · have hw' : ∀ (i : Nat) (ro : RO), ros[i]? = some ro → ro.dst ≠ some t := fun i ro hi hd => hw ⟨i, ro, hi, hd⟩
          rw [I.kept t fun i ro hi _ => hw' i ro hi, T.ghost _ (Nat.le_refl _) fun i ro _ hi => hw' i ro hi]
      rw [this]; exact hv
  induction fuel with
  | zero =>
    intro listed a E frS I hx hS hf hd hl
    have hall : ∀ i, i < ops.size → Lst listed i := fun i hi => left_zero (by omega) hi
    refine ⟨?_, done listed a E frS I hx hS hf hd hall⟩
    apply List.eq_nil_iff_forall_not_mem.2
    intro j hj
    obtain ⟨o, ho, hn, _⟩ := (ready_iff I.size).1 hj
    exact hn (hall j (Array.getElem?_eq_some_iff.1 ho).1)
  | succ fuel ih =>
    intro listed a E frS I hx hS hf hd hl
    refine ⟨fun hr => done listed a E frS I hx hS hf hd (all_listedD T I.size hr), fun j hj => ?_⟩
    obtain ⟨o, ho, hnl, hedges⟩ := (ready_iff I.size).1 hj
    have hjl := (Array.getElem?_eq_some_iff.1 ho).1
    obtain ⟨rj, hjr⟩ : ∃ rj, ros[j]? = some rj := ⟨_, List.getElem?_eq_getElem (show j < ros.length by rw [T.len]; exact hjl)⟩
    have hdeps : ∀ i, Dep ops.toList i j → Lst listed i := by
      intro i hi
      obtain ⟨o', e, ho', he, hb, h1⟩ := dep_edge hi
      have : o' = o := by rw [Array.getElem?_toList, ho] at ho'; simpa using ho'.symm
      subst this
      have hle := hedges e he hb
      rcases h1 with h1 | h1
      · rw [← h1]; exact hle
      · exact I.closed _ hle i h1
    obtain ⟨v1, v2, v3⟩ := I.view T hjr hnl hdeps
    obtain ⟨hst, hput⟩ := T.step j _ hjr
    obtain ⟨h1, e1, e2, e3⟩ := stepD_congr v1 (fun x hx => v2 x ⟨rj, hjr, hx⟩) (fun x hx => v3 x ⟨rj, hjr, hx⟩) hst
    have hrel := T.rel j o _ ho hjr
    have hw := step_wp (Q := Q) hP hR hS hf hrel e1 (K := wpAny P .any ops Q fuel (listed.setIfInBounds j true)) (fun u E' hx' hS' he hv => by
      refine ih _ _ E' (put frS rj.dst (V j)) (I.next T hjr hnl hdeps he e2 e3) (hx.trans hx') hS' ?_ ?_ ?_
      · rw [hrel.dst]; exact FR.put (FR.ext hx' hf) o.dst hv
      · rw [← hd]; cases o.dst <;> rfl
      · have := left_set hjl I.size hnl
        omega)
    unfold wpOp
    simp only [ho]
    split
    · rename_i h; rw [if_pos h] at hw; exact .inl hw
    · rename_i h; rw [if_neg h] at hw; exact hw
theorem regd_sound (hP : PureS P O) (hR : RawS P O) (hm : P.follows .mixedOrders = true) {id : Nat} {draw : Bool} {bs : List Nat} {ros : List RO} (hr : resCode P c (.region id ops draw) = some (.regd bs ros)) {Q : Exit → Act → World → Prop} {E : Env} {fr fr' : Fr} {h' : AH} {a : Act} {fs : List Foot}
    (hS : SR E) (hf : FR E fr a.tmps) (hev : evalOpsD O c ros fr (E.h.holes (nAt ros)) = some (fs, fr', h')) (hpr : pairsOkD bs ros fs = true)
    (hQ : ∀ a' E', Ext E E' → SR E' → E'.h = h' → FR E' fr' a'.tmps → a'.defers = a.defers → Q .normal a' E'.w) : (Code.region id ops draw).wp P Q a E.w := by
  simp only [resCode] at hr
  split at hr
  · rename_i ros1 hq
    rw [Option.map_eq_some_iff] at hq
    obtain ⟨rosP, h0, hb1⟩ := hq
    obtain ⟨hlP, hg0⟩ := mapO_spec h0
    have relR : ∀ (i : Nat) (o : Oper) (ro : RO), ops.toList[i]? = some o → (numS ros1)[i]? = some ro → RORel P ops.toList o ro := fun i o ro ho hro => by
      obtain ⟨ro1, q1, q2⟩ := numS_get hro
      rw [← hb1] at q1
      obtain ⟨ro0, g1, g2⟩ := bxS_get q1
      obtain ⟨y, hy, hy'⟩ := hg0 i o ho
      rw [g1] at hy'
      have : ro0 = y := by simpa using hy'
      subst this
      exact RORel.num hy g2 q2
    have hl0 : (numS ros1).length = ops.size := by rw [numS_len, ← hb1, bxS_len]; simpa using hlP
    have hdraw : draw = true ∧ edgesOk ops.toList 0 = true ∧ before ops.toList [] = bs ∧ numS ros1 = ros := by
      cases draw with
      | false => simp at hr
      | true =>
        repeat' (split at hr)
        all_goals first | (cases hr; done) | skip
        rename_i he
        simp only [Option.some.injEq, RCode.regd.injEq] at hr
        exact ⟨rfl, he, hr.1, hr.2⟩
    obtain ⟨rfl, hed, rfl, rfl⟩ := hdraw
    obtain ⟨F, H, V, f0, f1, f2, f3, f4, f5⟩ := traceD_of hev
    have T : TrD (P := P) O c ops (numS ros1) fs F H V := ⟨hl0, fun i o ro h1 h2 => relR i o ro (by simpa using h1) h2, hed, hpr, f4, f5⟩
    refine wp_region_any hm ?_
    have hb : Bl E.w.heap.size E.w E.w.drew := drew_below _
    have hx := grow_ext hS hb
    refine exploreD hP hR T (Q := Q) (E0 := Env.lay { E with w := E.w.drew } (nAt (numS ros1))) (a0 := a) (fun a' E' h1 h2 h3 h4 h5 => ?_) ops.size (Array.replicate ops.size false) a (Env.lay { E with w := E.w.drew } (nAt (numS ros1))) fr ?_ (Ext.refl _) (lay_SR (grow_SR hS hb) _) (FR.ext (hx.trans (lay_ext _)) hf) rfl ?_
    · exact hQ a' E' ((hx.trans (lay_ext _)).trans h1) h2 (by rw [h3, f3]) (by rw [← f2]; exact h4) h5
    · have hno : ∀ i, ¬ Lst (Array.replicate ops.size false) i := by
        intro i h
        unfold Lst at h
        rw [Array.getD_eq_getD_getElem?, Array.getElem?_replicate] at h
        split at h <;> simp at h
      refine ⟨by simp, fun j hj => absurd hj (hno j), by rw [f0], fun i t ro _ hl => absurd hl (hno i), fun t _ => by rw [f0], fun x k hk hm => ?_, fun x k hk hm => ?_⟩
      · rw [cellB_run (i := 0) k (Nat.zero_le _) fun m _ h2 hw => absurd ((hm m (by omega) hw).2 h2) (hno m), f1]; rfl
      · rw [cellF_run (i := 0) k (Nat.zero_le _) fun m _ h2 hw => absurd ((hm m (by omega) hw).2 h2) (hno m), f1]; rfl
    · unfold left
      refine Nat.le_trans (List.length_filter_le _ _) ?_
      simp
  · cases hr
end
end
def exOf : Ex → Exit
  | .normal => .normal
  | .exit id => .exit id
  | .ret => .ret
def LoopS (O : Orc) : Prop := ∀ (step : St → Option (Ex × St)) (s : St) (x : Ex × St), O.loop step s = some x → ∃ n, iter step n s = some x
section
variable {P : Program} {O : Orc} {c : Ctx}
theorem code_sound (hP : PureS P O) (hR : RawS P O) (hL : LoopS O) (hm : P.follows .mixedOrders = true) :
    ∀ (code : Code) (rc : RCode), resCode P c code = some rc → ∀ (E : Env) (fr : Fr) (a : Act), SR E → FR E fr a.tmps → ∀ (ex : Ex) (fr' : Fr) (h' : AH), evalCode O c rc (fr, E.h) = some (ex, (fr', h')) →
      ∀ Q : Exit → Act → World → Prop, (∀ a' E', Ext E E' → SR E' → E'.h = h' → FR E' fr' a'.tmps → a'.defers = a.defers → Q (exOf ex) a' E'.w) → code.wp P Q a E.w := by
  intro code
  induction code with
  | skip =>
    intro rc hr E fr a hS hf ex fr' h' hev Q hQ
    simp only [resCode] at hr; cases hr
    simp only [evalCode] at hev; cases hev
    exact wp_skip (hQ a E (Ext.refl E) hS rfl hf rfl)
  | region id ops draw =>
    intro rc hr E fr a hS hf ex fr' h' hev Q hQ
    have hr' := hr
    simp only [resCode] at hr'
    have hbad : rc ≠ .bad := fun e => by rw [e] at hev; simp [evalCode] at hev
    have hform : (∃ d ros, rc = .region d ros) ∨ ∃ bs ros, rc = .regd bs ros := by
      repeat' (split at hr')
      all_goals (cases hr'; first | exact .inl ⟨_, _, rfl⟩ | exact .inr ⟨_, _, rfl⟩ | exact absurd rfl hbad)
    rcases hform with ⟨d, ros, rfl⟩ | ⟨bs, ros, rfl⟩
    · simp only [evalCode] at hev
      split at hev
      · rename_i s hs
        cases hev
        exact region_sound hP hR hm hr hS hf hs hQ
      · cases hev
    · simp only [evalCode] at hev
      split at hev
      · rename_i fs s hs
        split at hev
        · rename_i hp
          cases hev
          exact regd_sound hP hR hm hr hS hf hs hp hQ
        · cases hev
      · cases hev
  | seq x y ihx ihy =>
    intro rc hr E fr a hS hf ex fr' h' hev Q hQ
    simp only [resCode] at hr
    split at hr
    · rename_i x' y' hx hy
      cases hr
      simp only [evalCode] at hev
      refine wp_seq ?_
      split at hev
      · rename_i s hs
        obtain ⟨fr1, h1⟩ := s
        refine ihx x' hx E fr a hS hf .normal fr1 h1 hs _ fun a' E' k1 k2 k3 k4 k5 => ?_
        show y.wp P Q a' E'.w
        refine ihy y' hy E' fr1 a' k2 k4 ex fr' h' (by rw [k3]; exact hev) Q fun a'' E'' m1 m2 m3 m4 m5 => ?_
        exact hQ a'' E'' (k1.trans m1) m2 m3 m4 (m5.trans k5)
      · rename_i hne
        refine ihx x' hx E fr a hS hf ex fr' h' hev _ fun a' E' k1 k2 k3 k4 k5 => ?_
        have := hQ a' E' k1 k2 k3 k4 k5
        cases ex with
        | normal => exact absurd hev (hne _)
        | exit id => exact this
        | ret => exact this
    · cases hr
  | cond q x y ihx ihy =>
    intro rc hr E fr a hS hf ex fr' h' hev Q hQ
    simp only [resCode] at hr
    split at hr
    · rename_i q' x' y' hq hx hy
      cases hr
      simp only [evalCode] at hev
      have hv := opd_sound hf hq
      split at hev
      · rename_i hg
        rw [hg] at hv
        simp only [VR] at hv
        exact wp_cond_true hv (ihx x' hx E fr a hS hf ex fr' h' hev Q hQ)
      · rename_i hg
        rw [hg] at hv
        simp only [VR] at hv
        exact wp_cond_false hv (ihy y' hy E fr a hS hf ex fr' h' hev Q hQ)
      · cases hev
    · cases hr
  | block id x ih =>
    intro rc hr E fr a hS hf ex fr' h' hev Q hQ
    simp only [resCode, Option.map_eq_some_iff] at hr
    obtain ⟨x', hx, rfl⟩ := hr
    simp only [evalCode] at hev
    refine wp_block ?_
    split at hev
    · rename_i id' s hs
      obtain ⟨fr1, h1⟩ := s
      refine ih x' hx E fr a hS hf (.exit id') fr1 h1 hs _ fun a' E' k1 k2 k3 k4 k5 => ?_
      show if id' = id then Q .normal a' E'.w else Q (.exit id') a' E'.w
      split at hev
      · rename_i he
        cases hev
        rw [if_pos he]
        exact hQ a' E' k1 k2 k3 k4 k5
      · rename_i he
        cases hev
        rw [if_neg he]
        exact hQ a' E' k1 k2 k3 k4 k5
    · rename_i hne
      refine ih x' hx E fr a hS hf ex fr' h' hev _ fun a' E' k1 k2 k3 k4 k5 => ?_
      have := hQ a' E' k1 k2 k3 k4 k5
      cases ex with
      | normal => exact this
      | exit id' => exact absurd hev (hne _ _)
      | ret => exact this
  | loop x ih =>
    intro rc hr E fr a hS hf ex fr' h' hev Q hQ
    simp only [resCode, Option.map_eq_some_iff] at hr
    obtain ⟨x', hx, rfl⟩ := hr
    simp only [evalCode] at hev
    obtain ⟨n, hn⟩ := hL _ _ _ hev
    refine wp_loop_rounds n ?_
    clear hev
    induction n generalizing E fr a with
    | zero => simp only [iter] at hn; cases hn
    | succ n ihn =>
      simp only [iter] at hn
      rw [rounds_succ]
      split at hn
      · rename_i s hs
        obtain ⟨fr1, h1⟩ := s
        refine ih x' hx E fr a hS hf .normal fr1 h1 hs _ fun a' E' k1 k2 k3 k4 k5 => ?_
        show Code.rounds P x Q n a' E'.w
        exact ihn E' fr1 a' k2 k4 (fun a'' E'' m1 m2 m3 m4 m5 => hQ a'' E'' (k1.trans m1) m2 m3 m4 (m5.trans k5)) (by rw [k3]; exact hn)
      · rename_i hne
        refine ih x' hx E fr a hS hf ex fr' h' hn _ fun a' E' k1 k2 k3 k4 k5 => ?_
        have := hQ a' E' k1 k2 k3 k4 k5
        cases ex with
        | normal => exact absurd hn (hne _)
        | exit id => exact this
        | ret => exact this
  | exit id =>
    intro rc hr E fr a hS hf ex fr' h' hev Q hQ
    simp only [resCode] at hr; cases hr
    simp only [evalCode] at hev; cases hev
    exact wp_exit (hQ a E (Ext.refl E) hS rfl hf rfl)
  | ret =>
    intro rc hr E fr a hS hf ex fr' h' hev Q hQ
    simp only [resCode] at hr; cases hr
    simp only [evalCode] at hev; cases hev
    exact wp_ret (hQ a E (Ext.refl E) hS rfl hf rfl)
  | rangeFunc _ _ _ _ _ _ =>
    intro rc hr E fr a _ _ ex fr' h' hev
    simp only [resCode, Option.some.injEq] at hr
    subst hr
    simp [evalCode] at hev
  | scope _ _ =>
    intro rc hr E fr a _ _ ex fr' h' hev
    simp only [resCode, Option.some.injEq] at hr
    subst hr
    simp [evalCode] at hev
  | label _ =>
    intro rc hr E fr a _ _ ex fr' h' hev
    simp only [resCode, Option.some.injEq] at hr
    subst hr
    simp [evalCode] at hev
  | goto _ =>
    intro rc hr E fr a _ _ ex fr' h' hev
    simp only [resCode, Option.some.injEq] at hr
    subst hr
    simp [evalCode] at hev
  | refuse _ =>
    intro rc hr E fr a _ _ ex fr' h' hev
    simp only [resCode, Option.some.injEq] at hr
    subst hr
    simp [evalCode] at hev
theorem start_FR {E : Env} {args : List AV} {vs : Array Value} (hG : GlobP E.w E.ok) (hv : VRs E args vs.toList) (rf : RFunc) : FR E (startFr rf args) (vs ++ Array.replicate (rf.ntmps - vs.size) undef) := by
  obtain ⟨hl, hg⟩ := VRs_get hv
  have hl' : vs.size = args.length := by simpa using hl
  refine ⟨by simp [startFr, hl'], fun t => ?_, hG⟩
  unfold startFr
  by_cases ht : t < args.length
  · obtain ⟨u, h1, h2⟩ := hg (List.getElem?_eq_getElem ht)
    have e1 : (args ++ List.replicate (rf.ntmps - args.length) undefA).getD t undefA = args[t] := by simp [List.getD, List.getElem?_append_left ht, ht]
    have e2 : (vs ++ Array.replicate (rf.ntmps - vs.size) undef).getD t undef = u := by
      rw [Array.getD_eq_getD_getElem?, Array.getElem?_append_left (by omega)]
      rw [Array.getElem?_toList] at h1
      rw [h1]; rfl
    rw [e1, e2]; exact h2
  · have e1 : (args ++ List.replicate (rf.ntmps - args.length) undefA).getD t undefA = undefA := by
      rw [List.getD, List.getElem?_append_right (by omega), List.getElem?_replicate]
      split <;> rfl
    have e2 : (vs ++ Array.replicate (rf.ntmps - vs.size) undef).getD t undef = undef := by
      rw [Array.getD_eq_getD_getElem?, Array.getElem?_append_right (by omega), Array.getElem?_replicate]
      split <;> rfl
    rw [e1, e2]; exact VR_undef E
theorem results_sound {E : Env} {fr : Fr} {tmps : Array Value} (hS : SR E) (hf : FR E fr tmps) (g : ResultVar → Sem Value) (g1 : ∀ t, g (.tmp t) = pure (tmps.getD t undef)) (g2 : ∀ a t, g (.cell a t) = (do loadVar t (← asAddr (tmps.getD a undef)))) : ∀ {rs : List ResultVar} {rrs : List RRes} {vs : List AV}, mapO (resRes P) rs = some rrs → resA fr E.h rrs = some vs →
    ∃ us : List Value, (rs.mapM g).run P E.w = .ok us E.w ∧ VRs E vs us
  | [], rrs, vs, hr, he => by
    simp [mapO] at hr; subst hr
    simp [resA] at he; subst he
    exact ⟨[], by simp, by simp [VRs]⟩
  | r :: rs, rrs, vs, hr, he => by
    simp only [mapO] at hr
    split at hr
    · rename_i rr rrs' h1 h2
      cases hr
      cases r with
      | tmp t =>
        simp only [resRes] at h1; cases h1
        simp only [resA, Option.map_eq_some_iff] at he
        obtain ⟨vs', hvs', rfl⟩ := he
        obtain ⟨us, u1, u2⟩ := results_sound hS hf g g1 g2 h2 hvs'
        refine ⟨tmps.getD t undef :: us, ?_, by simp only [VRs]; exact ⟨_, _, rfl, hf.val t, u2⟩⟩
        rw [List.mapM_cons, g1]
        simp only [Sem.run_bind, Sem.run_pure, Result.andThen_ok]
        rw [u1]
        simp
      | cell a t =>
        simp only [resRes] at h1
        split at h1
        · rename_i b n hb hn
          cases h1
          simp only [resA, Option.bind_eq_some_iff, Option.map_eq_some_iff] at he
          obtain ⟨v, hv, vs', hvs', rfl⟩ := he
          obtain ⟨us, u1, u2⟩ := results_sound hS hf g g1 g2 h2 hvs'
          obtain ⟨bl, of, cs, e1, e2, e3⟩ := loadA_cells hS (hf.val a) hv
          obtain ⟨u, h3, h4⟩ := run_load_cells (P := P) e2 e3 hb hn
          refine ⟨u :: us, ?_, by simp only [VRs]; exact ⟨_, _, rfl, h4, u2⟩⟩
          rw [List.mapM_cons, g2]
          have hadr : (asAddr (tmps.getD a undef)).run P E.w = .ok ⟨bl, of, none⟩ E.w := by rw [e1]; rfl
          simp only [Sem.run_bind, hadr, Sem.run_pure, Result.andThen_ok, h3]
          rw [u1]
          simp
        · cases h1
    · cases hr
theorem tupled_VR {E : Env} {vs : List AV} {us : List Value} (h : VRs E vs us) : VR E (tupled vs) (if h : us.toArray.size = 1 then us.toArray[0] else .tuple us.toArray) := by
  cases vs with
  | nil =>
    simp only [VRs] at h; subst h
    simp [tupled, VR, VRs]
  | cons v vs =>
    simp only [VRs] at h
    obtain ⟨u, us', rfl, h1, h2⟩ := h
    cases vs with
    | nil =>
      simp only [VRs] at h2; subst h2
      simpa [tupled] using h1
    | cons v' vs =>
      simp only [VRs] at h2
      obtain ⟨u', us'', rfl, h3, h4⟩ := h2
      simp only [tupled]
      rw [dif_neg (by simp)]
      simp only [VR]
      refine ⟨_, rfl, ?_⟩
      simp only [VRs]
      exact ⟨u, _, rfl, h1, u', us'', rfl, h3, h4⟩
end
structure CfgS (P : Program) (C : Cfg) : Prop where
  code : ∀ f rf, C.code f = some rf → resFunc P C.ctx f = some rf
  spec : ∀ (f : FuncId) (s : List AV → Option AV), C.spec f = some s → ∀ (args : List AV) (r : AV), s args = some r → Program.enterable P f = true ∧
    ∀ (w : World) (ok0 : Nat → Nat → Prop) (vs : Array Value), (∀ b o, ok0 b o → b < w.heap.size) → GlobP w ok0 → PVs w ok0 args vs.toList →
      Calls P f vs w fun e w' => ∃ u, e = .returned u ∧ Bl w.heap.size w w' ∧ PV w' (fun b o => ok0 b o ∨ (w.heap.size ≤ b ∧ b < w'.heap.size)) r u
  mixed : P.follows .mixedOrders = true
  rspec : ∀ (f : FuncId) (s : RSpec), C.rspec f = some s → ∀ O : Orc, PureS P O → ∀ (args : List AV) (h : AH) (r : AV) (h' : AH), s.run O args h = some (r, h') → Program.enterable P f = true ∧
    ∀ (E : Env) (vs : Array Value), SR E → GlobP E.w E.ok → E.h = h → VRs E args vs.toList →
      Calls P f vs E.w fun e w' => ∃ u E', e = .returned u ∧ w' = E'.w ∧ Ext E E' ∧ SR E' ∧ E'.h = h' ∧ VR E' r u
section
variable {P : Program} {C : Cfg} {O : Orc}
theorem rawA_sound (hC : CfgS P C) (hP : PureS P O) (hR : RawS P O) (hL : LoopS O) {f : FuncId} {args : List AV} {h h' : AH} {r : AV} (he : rawA C O f args h = some (r, h')) :
    Program.enterable P f = true ∧ ∀ (E : Env) (vs : Array Value), SR E → GlobP E.w E.ok → E.h = h → VRs E args vs.toList →
      Calls P f vs E.w fun e w' => ∃ u E', e = .returned u ∧ w' = E'.w ∧ Ext E E' ∧ SR E' ∧ E'.h = h' ∧ VR E' r u := by
  unfold rawA at he
  split at he
  · rename_i rf hrf
    have h1 := hC.code f rf hrf
    unfold resFunc at h1
    split at h1
    · rename_i hent
      refine ⟨hent, fun E vs hS hG hh hv => ?_⟩
      split at h1
      · rename_i fn hfn
        split at h1
        · rename_i b hb
          split at h1
          · rename_i rs rb hrs hrb
            cases h1
            refine calls_of_wp hfn hb ?_
            subst hh
            have fin : ∀ (s : St) (a' : Act) (E' : Env), Ext E E' → SR E' → E'.h = s.2 → FR E' s.1 a'.tmps → a'.defers = [] → (resA s.1 s.2 rs).map (fun vs => (tupled vs, s.2)) = some (r, h') →
                a'.defers = [] ∧ ∃ v, (results fn a'.tmps).run P E'.w = .ok v E'.w ∧ ∃ u E'', Ending.returned v = .returned u ∧ E'.w = E''.w ∧ Ext E E'' ∧ SR E'' ∧ E''.h = h' ∧ VR E'' r u := by
              intro s a' E' k1 k2 k3 k4 k5 k6
              simp only [Option.map_eq_some_iff] at k6
              obtain ⟨avs, k7, k8⟩ := k6
              cases k8
              rw [← k3] at k7
              obtain ⟨us, u1, u2⟩ := results_sound (P := P) k2 k4 (fun | .tmp t => pure (a'.tmps.getD t undef) | .cell a t => do loadVar t (← asAddr (a'.tmps.getD a undef))) (fun _ => rfl) (fun _ _ => rfl) hrs k7
              refine ⟨k5, _, ?_, _, E', rfl, rfl, k1, k2, k3, tupled_VR u2⟩
              unfold results
              rw [Array.mapM_eq_mapM_toList]
              simp only [bind_map_left, Sem.run_bind]
              refine Eq.trans (congrArg (fun r => Result.andThen r _) u1) ?_
              rfl
            unfold evalBody at he
            split at he
            · rename_i s hs
              refine code_sound hP hR hL hC.mixed b rb hrb E _ _ hS (start_FR hG hv ⟨fn.ntmps, rs, rb⟩) .normal s.1 s.2 hs _ fun a' E' k1 k2 k3 k4 k5 => ?_
              exact fin s a' E' k1 k2 k3 k4 k5 he
            · rename_i s hs
              refine code_sound hP hR hL hC.mixed b rb hrb E _ _ hS (start_FR hG hv ⟨fn.ntmps, rs, rb⟩) .ret s.1 s.2 hs _ fun a' E' k1 k2 k3 k4 k5 => ?_
              exact fin s a' E' k1 k2 k3 k4 k5 he
            · cases he
          · cases h1
        · cases h1
      · cases h1
    · cases h1
  · split at he
    · rename_i s hs
      exact hC.rspec f s hs O hP args h r h' he
    · cases he
theorem pureA_sound (hC : CfgS P C) (hP : PureS P O) (hR : RawS P O) (hL : LoopS O) {f : FuncId} {args : List AV} {r : AV} (he : pureA C O f args = some r) :
    Program.enterable P f = true ∧ ∀ (w : World) (ok0 : Nat → Nat → Prop) (vs : Array Value), (∀ b o, ok0 b o → b < w.heap.size) → GlobP w ok0 → PVs w ok0 args vs.toList →
      Calls P f vs w fun e w' => ∃ u, e = .returned u ∧ Bl w.heap.size w w' ∧ PV w' (fun b o => ok0 b o ∨ (w.heap.size ≤ b ∧ b < w'.heap.size)) r u := by
  unfold pureA at he
  split at he
  · rename_i s hs
    obtain ⟨k1, k2⟩ := hC.spec f s hs args r he
    exact ⟨k1, k2⟩
  · split at he
    · rename_i r0 h0 hr
      obtain ⟨h1, h2⟩ := rawA_sound hC hP hR hL hr
      refine ⟨h1, fun w ok0 vs hok hG hv => ?_⟩
      have hS : SR ⟨w, w.heap.size, ok0, fun _ => 0, fun _ => ⟨0, 0, 0, 0⟩, AH.empty⟩ :=
        ⟨Nat.le_refl _, fun i cs hi => by simp [AH.empty] at hi, fun k f hk => by simp [AH.empty] at hk, fun i j hi => by have := hi.lt; simp [AH.empty] at this, fun i j hi => by simp [AH.empty] at hi, fun i j hi => by have := hi.lt; simp [AH.empty] at this⟩
      have hv' : VRs ⟨w, w.heap.size, ok0, fun _ => 0, fun _ => ⟨0, 0, 0, 0⟩, AH.empty⟩ args vs.toList :=
        VRs_of_PVs _ _ (PVs_mono (fun b o ho => ⟨.inl ⟨hok b o ho, ho⟩, Stay.refl _ _ _⟩) _ _ hv)
      refine (h2 _ vs hS (hG.mono fun b o ho => ⟨.inl ⟨hok b o ho, ho⟩, Stay.refl _ _ _⟩) rfl hv').mono fun e w' ⟨u, E', k1, k2, k3, k4, k5, k6⟩ => ?_
      subst k2
      refine ⟨u, k1, k3.below, ?_⟩
      rw [← k5] at he
      have hbase : E'.base = w.heap.size := k3.base
      have hok0 : E'.ok0 = ok0 := k3.ok0
      refine frzRes_sound k4 ⟨fun b o ho => ?_, fun _ b o hb hlt => .inr ⟨by rw [← hbase]; exact hb, hlt⟩⟩ k6 he
      rcases ho with ⟨_, ho⟩ | ⟨ho1, ho2, _⟩
      · rw [hok0] at ho; exact .inl ho
      · rw [hbase] at ho1; exact .inr ⟨ho1, ho2⟩
    · cases he
theorem rawR_sound (hC : CfgS P C) (hP : PureS P O) (hR : RawS P O) (hL : LoopS O) {f : FuncId} {args : List AV} {h h' : AH} {r : AV} (he : rawR C O f args h = some (r, h')) :
    Program.enterable P f = true ∧ ∀ (E : Env) (vs : Array Value), SR E → GlobP E.w E.ok → E.h = h → VRs E args vs.toList →
      Calls P f vs E.w fun e w' => ∃ u E', e = .returned u ∧ w' = E'.w ∧ Ext E E' ∧ SR E' ∧ E'.h = h' ∧ VR E' r u := by
  unfold rawR at he
  cases hr : rawA C O f args h with
  | none => rw [hr] at he; unfold rstP at he; split at he <;> cases he
  | some x =>
    rw [hr, rstP_some] at he
    obtain ⟨r0, h0⟩ := x
    obtain ⟨k1, k2⟩ := rawA_sound hC hP hR hL hr
    refine ⟨k1, fun E vs hS hG hh hv => (k2 E vs hS hG hh hv).mono fun e w' ⟨u, E', e1, e2, e3, e4, e5, e6⟩ => ?_⟩
    unfold rstQ at he
    split at he
    · simp only [Option.some.injEq, Prod.mk.injEq] at he
      obtain ⟨rfl, he⟩ := he
      obtain ⟨E2, r2, q2⟩ := rstV_ok e4 r0
      exact ⟨u, E2, e1, by rw [r2.w]; exact e2, e3.trans r2.ext, r2.sr, by rw [q2, e5]; exact he, VR_ext r2.ext _ _ e6⟩
    · cases he
      exact ⟨u, E', e1, e2, e3, e4, e5, e6⟩
theorem orc_sound (hC : CfgS P C) : ∀ n, PureS P (orc C n) ∧ RawS P (orc C n) ∧ LoopS (orc C n)
  | 0 => ⟨fun f args r h => (nomatch h), fun f args h r h' he => (nomatch he), fun step s x h => (nomatch h)⟩
  | n + 1 => by
    obtain ⟨h1, h2, h3⟩ := orc_sound hC n
    exact ⟨fun f args r he => pureA_sound hC h1 h2 h3 he, fun f args h r h' he => rawR_sound hC h1 h2 h3 he, fun step s x he => ⟨n + 1, he⟩⟩
end
structure Le (O O' : Orc) : Prop where
  pure : ∀ f args r, O.pure f args = some r → O'.pure f args = some r
  raw : ∀ f args h r, O.raw f args h = some r → O'.raw f args h = some r
  loop : ∀ (step step' : St → Option (Ex × St)) (s : St) (x : Ex × St), (∀ s x, step s = some x → step' s = some x) → O.loop step s = some x → O'.loop step' s = some x
theorem Le.trans {A B C : Orc} (h : Le A B) (k : Le B C) : Le A C :=
  ⟨fun f a r e => k.pure f a r (h.pure f a r e), fun f a g r e => k.raw f a g r (h.raw f a g r e), fun s s' t x hs e => k.loop s' s' t x (fun _ _ h => h) (h.loop s s' t x hs e)⟩
section
variable {O O' : Orc} {c : Ctx}
theorem callA_mono (hO : Le O O') {f : FuncId} {args : List AV} {h : AH} {x : AV × AH} (he : callA O c f args h = some x) : callA O' c f args h = some x := by
  unfold callA at he ⊢
  split
  · rename_i hr
    rw [if_pos hr] at he
    obtain ⟨y, h1⟩ := kpB_some he
    rw [h1] at he
    rw [hO.raw _ _ _ _ h1]
    exact he
  · rename_i hr
    rw [if_neg hr] at he
    cases has : frzAll h true args with
    | none => rw [has] at he; cases he
    | some aas =>
      rw [has] at he
      dsimp only at he ⊢
      cases hp : O.pure f aas with
      | none => rw [hp] at he; cases he
      | some r =>
        rw [hp] at he
        rw [hO.pure _ _ _ hp]
        exact he
theorem evalOp_mono (hO : Le O O') {r : ROp} {fr : Fr} {h : AH} {x : AV × AH} (he : evalOp O c r fr h = some x) : evalOp O' c r fr h = some x := by
  cases r
  case call f aas => exact callA_mono hO he
  case callv y aas =>
    simp only [evalOp] at he ⊢
    split at he
    · split at he
      · cases he
      · rename_i hc
        rw [if_neg hc]
        exact callA_mono hO he
    · cases he
  case len b x => cases b <;> exact he
  all_goals exact he
theorem evalOps_mono (hO : Le O O') : ∀ {ros : List RO} {fr : Fr} {h : AH} {x : Fr × AH}, evalOps O c ros fr h = some x → evalOps O' c ros fr h = some x
  | [], _, _, _, he => he
  | o :: ros, fr, h, x, he => by
    simp only [evalOps] at he ⊢
    cases hw : wantedA fr o.guard with
    | none => rw [hw] at he; cases he
    | some b =>
      rw [hw] at he
      cases b with
      | false => exact evalOps_mono hO he
      | true =>
        dsimp only at he ⊢
        cases hop : evalOp O c o.op fr h with
        | none => rw [hop] at he; cases he
        | some y =>
          rw [hop] at he
          rw [evalOp_mono hO hop]
          exact evalOps_mono hO he
theorem evalOpsD_mono (hO : Le O O') : ∀ {ros : List RO} {fr : Fr} {h : AH} {x : List Foot × Fr × AH}, evalOpsD O c ros fr h = some x → evalOpsD O' c ros fr h = some x
  | [], _, _, _, he => he
  | o :: ros, fr, h, x, he => by
    simp only [evalOpsD] at he ⊢
    cases hw : wantedA fr o.guard with
    | none => rw [hw] at he; cases he
    | some b =>
      rw [hw] at he
      cases b with
      | false =>
        dsimp only at he ⊢
        rw [Option.map_eq_some_iff] at he ⊢
        obtain ⟨p, hp, e⟩ := he
        exact ⟨p, evalOpsD_mono hO hp, e⟩
      | true =>
        dsimp only at he ⊢
        cases hop : evalOp O c o.op fr h with
        | none => rw [hop] at he; cases he
        | some y =>
          rw [hop] at he
          rw [evalOp_mono hO hop]
          dsimp only at he ⊢
          rw [Option.map_eq_some_iff] at he ⊢
          obtain ⟨p, hp, e⟩ := he
          exact ⟨p, evalOpsD_mono hO hp, e⟩
theorem evalCode_mono (hO : Le O O') : ∀ (rc : RCode) (s : St) (x : Ex × St), evalCode O c rc s = some x → evalCode O' c rc s = some x := by
  intro rc
  induction rc with
  | skip => exact fun s x he => he
  | region d ros =>
    intro s x he
    simp only [evalCode] at he ⊢
    cases hs : evalOps O c ros s.1 s.2 with
    | none => rw [hs] at he; cases he
    | some y => rw [hs] at he; rw [evalOps_mono hO hs]; exact he
  | regd bs ros =>
    intro s x he
    simp only [evalCode] at he ⊢
    cases hs : evalOpsD O c ros s.1 (s.2.holes (nAt ros)) with
    | none => rw [hs] at he; cases he
    | some y => rw [hs] at he; rw [evalOpsD_mono hO hs]; exact he
  | seq a b iha ihb =>
    intro s x he
    simp only [evalCode] at he ⊢
    cases hs : evalCode O c a s with
    | none => rw [hs] at he; cases he
    | some y =>
      rw [hs] at he
      rw [iha s y hs]
      obtain ⟨e, s'⟩ := y
      cases e with
      | normal => exact ihb _ _ he
      | exit id => exact he
      | ret => exact he
  | cond q a b iha ihb =>
    intro s x he
    simp only [evalCode] at he ⊢
    split at he
    · exact iha _ _ he
    · exact ihb _ _ he
    · cases he
  | block id a ih =>
    intro s x he
    simp only [evalCode] at he ⊢
    cases hs : evalCode O c a s with
    | none => rw [hs] at he; cases he
    | some y => rw [hs] at he; rw [ih s y hs]; exact he
  | loop a ih => intro s x he; exact hO.loop _ _ _ _ ih he
  | exit id => exact fun s x he => he
  | ret => exact fun s x he => he
  | bad => exact fun s x he => he
theorem rawA_mono {C : Cfg} (hO : Le O O') {f : FuncId} {args : List AV} {h : AH} {x : AV × AH} (he : rawA C O f args h = some x) : rawA C O' f args h = some x := by
  unfold rawA at he ⊢
  split at he
  · unfold evalBody at he ⊢
    rename_i rf _
    cases hs : evalCode O (C.ctx f) rf.body (startFr rf args, h) with
    | none => rw [hs] at he; cases he
    | some y => rw [hs] at he; rw [evalCode_mono hO _ _ _ hs]; exact he
  · rename_i hc
    split at he
    · rename_i s hs
      obtain ⟨l, h1, h2⟩ := s.fin O args h x he
      exact h2 O' fun p hp => hO.pure _ _ _ (h1 p hp)
    · cases he
theorem rawR_mono {C : Cfg} (hO : Le O O') {f : FuncId} {args : List AV} {h : AH} {x : AV × AH} (he : rawR C O f args h = some x) : rawR C O' f args h = some x := by
  unfold rawR at he ⊢
  cases hr : rawA C O f args h with
  | none => rw [hr] at he; unfold rstP at he; split at he <;> cases he
  | some y => rw [hr] at he; rw [rawA_mono hO hr]; exact he
theorem pureA_mono {C : Cfg} (hO : Le O O') {f : FuncId} {args : List AV} {x : AV} (he : pureA C O f args = some x) : pureA C O' f args = some x := by
  unfold pureA at he ⊢
  split at he
  · exact he
  · cases hs : rawA C O f args AH.empty with
    | none => rw [hs] at he; cases he
    | some y => rw [hs] at he; rw [rawA_mono hO hs]; exact he
end
theorem iter_mono {step step' : St → Option (Ex × St)} (hs : ∀ s x, step s = some x → step' s = some x) : ∀ {n m : Nat}, n ≤ m → ∀ {s : St} {x : Ex × St}, iter step n s = some x → iter step' m s = some x
  | 0, _, _, s, x, he => by simp [iter] at he
  | n + 1, 0, h, s, x, he => by omega
  | n + 1, m + 1, h, s, x, he => by
    simp only [iter] at he ⊢
    cases h1 : step s with
    | none => rw [h1] at he; cases he
    | some y =>
      rw [h1] at he
      rw [hs s y h1]
      obtain ⟨e, s'⟩ := y
      cases e with
      | normal => exact iter_mono hs (by omega) he
      | exit id => exact he
      | ret => exact he
variable (C : Cfg)
theorem orc_step : ∀ n, Le (orc C n) (orc C (n + 1))
  | 0 => ⟨fun f a r h => (nomatch h), fun f a g r h => (nomatch h), fun s s' t x _ h => (nomatch h)⟩
  | n + 1 => ⟨fun f a r h => pureA_mono (orc_step n) h, fun f a g r h => rawR_mono (orc_step n) h, fun s s' t x hs h => iter_mono hs (by omega) h⟩
theorem orc_le : ∀ {n m : Nat}, n ≤ m → Le (orc C n) (orc C m)
  | n, 0, h => by
    have : n = 0 := by omega
    subst this
    exact ⟨fun _ _ _ h => h, fun _ _ _ _ h => h, fun s s' t x _ h => (nomatch h)⟩
  | n, m + 1, h => by
    by_cases hn : n = m + 1
    · subst hn
      exact ⟨fun _ _ _ h => h, fun _ _ _ _ h => h, fun s s' t x hs h => iter_mono hs (Nat.le_refl _) h⟩
    · exact (orc_le (by omega)).trans (orc_step C m)
open Classical in
noncomputable def pc (f : FuncId) (args : List AV) : Option AV := if h : ∃ n r, (orc C n).pure f args = some r then some h.choose_spec.choose else none
open Classical in
noncomputable def rc (f : FuncId) (args : List AV) (h : AH) : Option (AV × AH) := if h : ∃ n r, (orc C n).raw f args h = some r then some h.choose_spec.choose else none
open Classical in
noncomputable def lp (step : St → Option (Ex × St)) (s : St) : Option (Ex × St) := if h : ∃ n x, iter step n s = some x then some h.choose_spec.choose else none
noncomputable def lim : Orc := ⟨pc C, rc C, lp⟩
theorem pc_orc {f : FuncId} {args : List AV} {r : AV} (h : pc C f args = some r) : ∃ n, (orc C n).pure f args = some r := by
  unfold pc at h
  split at h
  · rename_i hx
    cases h
    exact ⟨hx.choose, hx.choose_spec.choose_spec⟩
  · cases h
theorem orc_pc {n : Nat} {f : FuncId} {args : List AV} {r : AV} (h : (orc C n).pure f args = some r) : pc C f args = some r := by
  have hx : ∃ n r, (orc C n).pure f args = some r := ⟨n, r, h⟩
  unfold pc
  rw [dif_pos hx]
  have h1 := (orc_le C (Nat.le_max_left n hx.choose)).pure f args r h
  have h2 := (orc_le C (Nat.le_max_right n hx.choose)).pure f args _ hx.choose_spec.choose_spec
  rw [h1] at h2
  exact h2.symm
theorem rc_orc {f : FuncId} {args : List AV} {h : AH} {r : AV × AH} (he : rc C f args h = some r) : ∃ n, (orc C n).raw f args h = some r := by
  unfold rc at he
  split at he
  · rename_i hx
    cases he
    exact ⟨hx.choose, hx.choose_spec.choose_spec⟩
  · cases he
theorem orc_rc {n : Nat} {f : FuncId} {args : List AV} {h : AH} {r : AV × AH} (he : (orc C n).raw f args h = some r) : rc C f args h = some r := by
  have hx : ∃ n r, (orc C n).raw f args h = some r := ⟨n, r, he⟩
  unfold rc
  rw [dif_pos hx]
  have h1 := (orc_le C (Nat.le_max_left n hx.choose)).raw f args h r he
  have h2 := (orc_le C (Nat.le_max_right n hx.choose)).raw f args h _ hx.choose_spec.choose_spec
  rw [h1] at h2
  exact h2.symm
theorem lp_iter {step : St → Option (Ex × St)} {s : St} {x : Ex × St} (h : lp step s = some x) : ∃ n, iter step n s = some x := by
  unfold lp at h
  split at h
  · rename_i hx
    cases h
    exact ⟨hx.choose, hx.choose_spec.choose_spec⟩
  · cases h
theorem iter_lp {step : St → Option (Ex × St)} {n : Nat} {s : St} {x : Ex × St} (h : iter step n s = some x) : lp step s = some x := by
  have hx : ∃ n x, iter step n s = some x := ⟨n, x, h⟩
  unfold lp
  rw [dif_pos hx]
  have h1 := iter_mono (fun _ _ h => h) (Nat.le_max_left n hx.choose) h
  have h2 := iter_mono (fun _ _ h => h) (Nat.le_max_right n hx.choose) hx.choose_spec.choose_spec
  rw [h1] at h2
  exact h2.symm
theorem lp_go {step : St → Option (Ex × St)} {s s' : St} {x : Ex × St} (h : step s = some (.normal, s')) (k : lp step s' = some x) : lp step s = some x := by
  obtain ⟨n, hn⟩ := lp_iter k
  exact iter_lp (n := n + 1) (by simp only [iter, h]; exact hn)
theorem lp_exit {step : St → Option (Ex × St)} {s s' : St} {id : Nat} (h : step s = some (.exit id, s')) : lp step s = some (.exit id, s') := iter_lp (n := 1) (by simp only [iter, h])
theorem lp_ret {step : St → Option (Ex × St)} {s s' : St} (h : step s = some (.ret, s')) : lp step s = some (.ret, s') := iter_lp (n := 1) (by simp only [iter, h])
theorem evalOp_lim {c : Ctx} {r : ROp} {fr : Fr} {h : AH} {x : AV × AH} (he : evalOp (lim C) c r fr h = some x) : ∃ n, evalOp (orc C n) c r fr h = some x := by
  have hcall : ∀ f args, callA (lim C) c f args h = some x → ∃ n, callA (orc C n) c f args h = some x := by
    intro f args he
    unfold callA at he ⊢
    split at he
    · rename_i hr
      obtain ⟨y, h1⟩ := kpB_some he
      rw [h1] at he
      obtain ⟨n, hn⟩ := rc_orc C h1
      exact ⟨n, by rw [if_pos hr, hn]; exact he⟩
    · rename_i hr
      cases has : frzAll h true args with
      | none => rw [has] at he; cases he
      | some aas =>
        rw [has] at he
        dsimp only at he ⊢
        cases hp : (lim C).pure f aas with
        | none => rw [hp] at he; cases he
        | some r =>
          rw [hp] at he
          obtain ⟨n, hn⟩ := pc_orc C hp
          exact ⟨n, by rw [if_neg hr, hn]; exact he⟩
  cases r
  case call f aas => exact hcall _ _ he
  case callv y aas =>
    simp only [evalOp] at he ⊢
    split at he
    · split at he
      · cases he
      · rename_i hc
        obtain ⟨n, hn⟩ := hcall _ _ he
        exact ⟨n, by rw [if_neg hc]; exact hn⟩
    · cases he
  case len b x => cases b <;> exact ⟨0, he⟩
  all_goals exact ⟨0, he⟩
theorem evalOps_lim {c : Ctx} : ∀ {ros : List RO} {fr : Fr} {h : AH} {x : Fr × AH}, evalOps (lim C) c ros fr h = some x → ∃ n, evalOps (orc C n) c ros fr h = some x
  | [], _, _, _, he => ⟨0, he⟩
  | o :: ros, fr, h, x, he => by
    simp only [evalOps] at he ⊢
    cases hw : wantedA fr o.guard with
    | none => rw [hw] at he; cases he
    | some b =>
      rw [hw] at he
      cases b with
      | false => exact evalOps_lim he
      | true =>
        dsimp only at he ⊢
        cases hop : evalOp (lim C) c o.op fr h with
        | none => rw [hop] at he; cases he
        | some y =>
          rw [hop] at he
          obtain ⟨n, hn⟩ := evalOp_lim C hop
          obtain ⟨m, hm⟩ := evalOps_lim he
          refine ⟨max n m, ?_⟩
          rw [evalOp_mono (orc_le C (Nat.le_max_left n m)) hn]
          exact evalOps_mono (orc_le C (Nat.le_max_right n m)) hm
theorem evalOpsD_lim {c : Ctx} : ∀ {ros : List RO} {fr : Fr} {h : AH} {x : List Foot × Fr × AH}, evalOpsD (lim C) c ros fr h = some x → ∃ n, evalOpsD (orc C n) c ros fr h = some x
  | [], _, _, _, he => ⟨0, he⟩
  | o :: ros, fr, h, x, he => by
    simp only [evalOpsD] at he ⊢
    cases hw : wantedA fr o.guard with
    | none => rw [hw] at he; cases he
    | some b =>
      rw [hw] at he
      cases b with
      | false =>
        dsimp only at he ⊢
        rw [Option.map_eq_some_iff] at he
        obtain ⟨p, hp, e⟩ := he
        obtain ⟨n, hn⟩ := evalOpsD_lim hp
        exact ⟨n, by rw [hn, ← e]; rfl⟩
      | true =>
        dsimp only at he ⊢
        cases hop : evalOp (lim C) c o.op fr h with
        | none => rw [hop] at he; cases he
        | some y =>
          rw [hop] at he
          dsimp only at he
          rw [Option.map_eq_some_iff] at he
          obtain ⟨p, hp, e⟩ := he
          obtain ⟨n, hn⟩ := evalOp_lim C hop
          obtain ⟨m, hm⟩ := evalOpsD_lim hp
          refine ⟨max n m, ?_⟩
          rw [evalOp_mono (orc_le C (Nat.le_max_left n m)) hn]
          dsimp only
          rw [evalOpsD_mono (orc_le C (Nat.le_max_right n m)) hm, ← e]
          rfl
theorem evalCode_lim {c : Ctx} : ∀ (rcode : RCode) (s : St) (x : Ex × St), evalCode (lim C) c rcode s = some x → ∃ n, evalCode (orc C n) c rcode s = some x := by
  intro rcode
  induction rcode with
  | skip => exact fun s x he => ⟨0, he⟩
  | region d ros =>
    intro s x he
    simp only [evalCode] at he ⊢
    cases hs : evalOps (lim C) c ros s.1 s.2 with
    | none => rw [hs] at he; cases he
    | some y =>
      rw [hs] at he
      obtain ⟨n, hn⟩ := evalOps_lim C hs
      exact ⟨n, by rw [hn]; exact he⟩
  | regd bs ros =>
    intro s x he
    simp only [evalCode] at he ⊢
    cases hs : evalOpsD (lim C) c ros s.1 (s.2.holes (nAt ros)) with
    | none => rw [hs] at he; cases he
    | some y =>
      rw [hs] at he
      obtain ⟨n, hn⟩ := evalOpsD_lim C hs
      exact ⟨n, by rw [hn]; exact he⟩
  | seq a b iha ihb =>
    intro s x he
    simp only [evalCode] at he ⊢
    cases hs : evalCode (lim C) c a s with
    | none => rw [hs] at he; cases he
    | some y =>
      rw [hs] at he
      obtain ⟨n, hn⟩ := iha s y hs
      obtain ⟨e, s'⟩ := y
      cases e with
      | normal =>
        obtain ⟨m, hm⟩ := ihb _ _ he
        refine ⟨max n m, ?_⟩
        rw [evalCode_mono (orc_le C (Nat.le_max_left n m)) _ _ _ hn]
        exact evalCode_mono (orc_le C (Nat.le_max_right n m)) _ _ _ hm
      | exit id => exact ⟨n, by rw [hn]; exact he⟩
      | ret => exact ⟨n, by rw [hn]; exact he⟩
  | cond q a b iha ihb =>
    intro s x he
    simp only [evalCode] at he ⊢
    split at he
    · exact iha _ _ he
    · exact ihb _ _ he
    · cases he
  | block id a ih =>
    intro s x he
    simp only [evalCode] at he ⊢
    cases hs : evalCode (lim C) c a s with
    | none => rw [hs] at he; cases he
    | some y =>
      rw [hs] at he
      obtain ⟨n, hn⟩ := ih s y hs
      exact ⟨n, by rw [hn]; exact he⟩
  | loop a ih =>
    intro s x he
    simp only [evalCode] at he ⊢
    obtain ⟨m, hm⟩ := lp_iter he
    have key : ∃ n, iter (evalCode (orc C n) c a) m s = some x := by
      clear he
      induction m generalizing s with
      | zero => simp [iter] at hm
      | succ m ihm =>
        simp only [iter] at hm ⊢
        cases h1 : evalCode (lim C) c a s with
        | none => rw [h1] at hm; cases hm
        | some y =>
          rw [h1] at hm
          obtain ⟨n, hn⟩ := ih s y h1
          obtain ⟨e, s'⟩ := y
          cases e with
          | normal =>
            obtain ⟨k, hk⟩ := ihm s' hm
            refine ⟨max n k, ?_⟩
            rw [evalCode_mono (orc_le C (Nat.le_max_left n k)) _ _ _ hn]
            exact iter_mono (evalCode_mono (orc_le C (Nat.le_max_right n k)) a) (Nat.le_refl _) hk
          | exit id => exact ⟨n, by rw [hn]; exact hm⟩
          | ret => exact ⟨n, by rw [hn]; exact hm⟩
    obtain ⟨n, hn⟩ := key
    refine ⟨max n m + 1, ?_⟩
    show iter _ (max n m + 1) s = some x
    exact iter_mono (evalCode_mono (orc_le C (by omega)) a) (by omega) hn
  | exit id => exact fun s x he => ⟨0, he⟩
  | ret => exact fun s x he => ⟨0, he⟩
  | bad => exact fun s x he => ⟨0, he⟩
theorem rawA_lim {f : FuncId} {args : List AV} {h : AH} {x : AV × AH} (he : rawA C (lim C) f args h = some x) : ∃ n, rawA C (orc C n) f args h = some x := by
  unfold rawA at he ⊢
  split at he
  · unfold evalBody at he ⊢
    rename_i rf _
    cases hs : evalCode (lim C) (C.ctx f) rf.body (startFr rf args, h) with
    | none => rw [hs] at he; cases he
    | some y =>
      rw [hs] at he
      obtain ⟨n, hn⟩ := evalCode_lim C _ _ _ hs
      exact ⟨n, by rw [hn]; exact he⟩
  · split at he
    · rename_i s hs
      obtain ⟨l, h1, h2⟩ := s.fin _ args h x he
      have key : ∀ l : List (FuncId × List AV × AV), (∀ p ∈ l, (lim C).pure p.1 p.2.1 = some p.2.2) → ∃ n, ∀ p ∈ l, (orc C n).pure p.1 p.2.1 = some p.2.2 := by
        intro l
        induction l with
        | nil => exact fun _ => ⟨0, fun p hp => by simp at hp⟩
        | cons a l ih =>
          intro hl
          obtain ⟨n, hn⟩ := ih fun p hp => hl p (List.mem_cons_of_mem _ hp)
          obtain ⟨m, hm⟩ := pc_orc C (hl a (by simp))
          refine ⟨max n m, fun p hp => ?_⟩
          rcases List.mem_cons.1 hp with rfl | hp
          · exact (orc_le C (Nat.le_max_right n m)).pure _ _ _ hm
          · exact (orc_le C (Nat.le_max_left n m)).pure _ _ _ (hn p hp)
      obtain ⟨n, hn⟩ := key l h1
      exact ⟨n, h2 _ hn⟩
    · cases he
theorem rc_of {f : FuncId} {args : List AV} {h : AH} {x : AV × AH} (he : rawA C (lim C) f args h = some x) : rc C f args h = some (rstQ (C.ctx f).rst x) := by
  obtain ⟨n, hn⟩ := rawA_lim C he
  refine orc_rc C (n := n + 1) ?_
  show rawR C (orc C n) f args h = _
  unfold rawR
  rw [hn, rstP_some]
theorem pc_of {f : FuncId} {args : List AV} {x : AV} (he : pureA C (lim C) f args = some x) : pc C f args = some x := by
  unfold pureA at he
  split at he
  · rename_i s hs
    refine orc_pc C (n := 1) ?_
    show pureA C _ f args = some x
    unfold pureA; simp only [hs]; exact he
  · rename_i hs
    cases hr : rawA C (lim C) f args AH.empty with
    | none => rw [hr] at he; cases he
    | some y =>
      rw [hr] at he
      obtain ⟨n, hn⟩ := rawA_lim C hr
      refine orc_pc C (n := n + 1) ?_
      show pureA C _ f args = some x
      unfold pureA; simp only [hs, hn]; exact he
theorem pc_sound {P : Program} {C : Cfg} (hC : CfgS P C) {f : FuncId} {args : List AV} {r : AV} (h : pc C f args = some r) (w : World) (ok0 : Nat → Nat → Prop) (vs : Array Value) (hok : ∀ b o, ok0 b o → b < w.heap.size) (hG : GlobP w ok0) (hv : PVs w ok0 args vs.toList) :
    Calls P f vs w fun e w' => ∃ u, e = .returned u ∧ Bl w.heap.size w w' ∧ PV w' (fun b o => ok0 b o ∨ (w.heap.size ≤ b ∧ b < w'.heap.size)) r u := by
  obtain ⟨n, hn⟩ := pc_orc C h
  exact ((orc_sound hC n).1 f args r hn).2 w ok0 vs hok hG hv
end Go.Abs
