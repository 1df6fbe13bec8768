/- The theorem on a statement whose order is open. -/
import Derived.Test.YtpkegmgepnhfnaaA18
namespace Go.Abs
open Go.RowKit (Below)
section
variable {P : Program} {O : Orc} {c : Ctx}

theorem trace_of : ∀ {ros : List RO} {fr fr' : Fr} {h h' : AH}, evalOps O c ros fr h = some (fr', h') →
    ∃ (F : Nat → Fr) (H : Nat → AH) (V : Nat → AV), F 0 = fr ∧ H 0 = h ∧ F ros.length = fr' ∧ H ros.length = h' ∧
      ∀ (i : Nat) (ro : RO), ros[i]? = some ro → stepA O c ro (F i) (H i) = some (V i, H (i + 1)) ∧ F (i + 1) = put (F i) ro.dst (V i)
  | [], fr, fr', h, h', he => by
    simp only [evalOps] at he
    cases he
    exact ⟨fun _ => fr, fun _ => h, fun _ => .junk, rfl, rfl, rfl, rfl, fun i ro hr => by simp at hr⟩
  | o :: ros, fr, fr', h, h', he => by
    rw [evalOps_cons, Option.bind_eq_some_iff] at he
    obtain ⟨⟨v, h1⟩, hst, hrest⟩ := he
    obtain ⟨F, H, V, f0, f1, f2, f3, f4⟩ := trace_of hrest
    refine ⟨fun i => if i = 0 then fr else F (i - 1), fun i => if i = 0 then h else H (i - 1), fun i => if i = 0 then v else V (i - 1), by simp, by simp, by simpa using f2, by simpa using f3, fun i ro hr => ?_⟩
    cases i with
    | zero =>
      simp at hr; subst hr
      simp [f0, f1, hst]
    | succ i =>
      have := f4 i ro (by simpa using hr)
      simpa using this

theorem put_len (fr : Fr) (d : Option Nat) (v : AV) : (put fr d v).length = fr.length := by cases d <;> simp [put]

theorem put_getD_same {fr : Fr} {t : Nat} {v : AV} (h : t < fr.length) : (put fr (some t) v).getD t undefA = v := by simp [put, List.getD, h]
theorem put_getD_other {fr : Fr} {d : Option Nat} {t : Nat} {v : AV} (h : d ≠ some t) : (put fr d v).getD t undefA = fr.getD t undefA := by
  cases d with
  | none => rfl
  | some d =>
    have : d ≠ t := fun e => h (by rw [e])
    simp [put, List.getD, List.getElem?_set_ne this]

theorem step_congr {ro : RO} {fr fr' : Fr} {h h' h1 : AH} {v : AV} (hs : ∀ t ∈ ro.slots, fr'.getD t undefA = fr.getD t undefA) (hb : ro.op.looksB c = true → h'.boxes = h.boxes) (hf : ro.op.looksF = true → h'.fams = h.fams)
    (he : stepA O c ro fr h = some (v, h1)) :
    ∃ h1', stepA O c ro fr' h' = some (v, h1') ∧ (ro.op.writesB c = true → h1'.boxes = h1.boxes) ∧ (ro.op.writesB c = false → h1'.boxes = h'.boxes) ∧ (ro.op.writesF c = true → h1'.fams = h1.fams) ∧ (ro.op.writesF c = false → h1'.fams = h'.fams) := by
  have hw : wantedA fr' ro.guard = wantedA fr ro.guard := by
    cases hg : ro.guard with
    | none => rfl
    | some g =>
      obtain ⟨s, want⟩ := g
      have := hs s (by simp [RO.slots, hg])
      simp only [wantedA, this]
  unfold stepA at he ⊢
  rw [hw]
  split at he
  · obtain ⟨h1', e1, e2, e3⟩ := op_congr (fun t ht => hs t (by simp only [RO.slots, List.mem_append]; exact .inl ht)) hb hf he
    exact ⟨h1', e1, e2, (op_heap e1).1, e3, (op_heap e1).2⟩
  · cases he
    exact ⟨h', rfl, fun w => hb (writes_looksB _ w), fun _ => rfl, fun w => hf (writes_looksF _ w), fun _ => rfl⟩
  · cases he

theorem step_heap {ro : RO} {fr : Fr} {h h1 : AH} {v : AV} (he : stepA O c ro fr h = some (v, h1)) : (ro.op.writesB c = false → h1.boxes = h.boxes) ∧ (ro.op.writesF c = false → h1.fams = h.fams) := by
  unfold stepA at he
  split at he
  · exact op_heap he
  · cases he; exact ⟨fun _ => rfl, fun _ => rfl⟩
  · cases he

theorem pair_of {bs : List Nat} {ros : List RO} (h : pairsOk c bs ros = true) {i j : Nat} {oi oj : RO} (hij : i < j) (hi : ros[i]? = some oi) (hj : ros[j]? = some oj) :
    pairOk c (bs.getD j 0) i oi oj = true ∧ (∀ d, oi.dst = some d → oj.dst ≠ some d) := by
  unfold pairsOk at h
  have hjl := (List.getElem?_eq_some_iff.1 hj).1
  have h1 := (List.all_eq_true.1 h) j (List.mem_range.2 hjl)
  have h2 := (List.all_eq_true.1 h1) i (List.mem_range.2 hij)
  simp only [hi, hj, Bool.and_eq_true] at h2
  refine ⟨h2.1, fun d hd hd' => ?_⟩
  have := h2.2
  rw [hd, hd'] at this
  simp at this

/-- What the check of a pair gives where neither surely comes first. -/
theorem apart_of {ops : List Oper} {ros : List RO} (h : pairsOk c (before ops []) ros = true) {i j : Nat} {oi oj : RO} (hij : i < j) (hi : ros[i]? = some oi) (hj : ros[j]? = some oj) (hd : ¬ Dep ops i j) :
    (∀ d, oi.dst = some d → d ∉ oj.slots) ∧ (∀ d, oj.dst = some d → d ∉ oi.slots) ∧ (oi.op.writesB c = true → oj.op.looksB c = false) ∧ (oi.op.looksB c = true → oj.op.writesB c = false) ∧
      (oi.op.writesF c = true → oj.op.looksF = false) ∧ (oi.op.looksF = true → oj.op.writesF c = false) := by
  obtain ⟨h1, _⟩ := pair_of h hij hi hj
  unfold pairOk at h1
  have hd' : ((before ops []).getD j 0).testBit i = false := by simpa [Dep] using hd
  rw [hd', Bool.false_or] at h1
  simp only [Bool.and_eq_true, Bool.not_eq_true', Bool.and_eq_false_iff] at h1
  obtain ⟨⟨⟨⟨⟨a1, a2⟩, a3⟩, a4⟩, a5⟩, a6⟩ := h1
  refine ⟨fun d hd => ?_, fun d hd => ?_, fun hw => ?_, fun hw => ?_, fun hw => ?_, fun hw => ?_⟩
  · rw [hd] at a1; simp at a1; exact a1.1
  · rw [hd] at a2; simpa using a2
  · rcases a3 with h | h
    · rw [hw] at h; cases h
    · exact h
  · rcases a4 with h | h
    · rw [hw] at h; cases h
    · exact h
  · rcases a5 with h | h
    · rw [hw] at h; cases h
    · exact h
  · rcases a6 with h | h
    · rw [hw] at h; cases h
    · exact h

def Lst (listed : Array Bool) (i : Nat) : Prop := listed.getD i false = true

theorem Lst_set {listed : Array Bool} {j i : Nat} (hj : j < listed.size) : Lst (listed.setIfInBounds j true) i ↔ i = j ∨ Lst listed i := by
  unfold Lst
  by_cases h : i = j
  · subst h
    simp [Array.getD_eq_getD_getElem?, hj]
  · simp [Array.getD_eq_getD_getElem?, Array.getElem?_setIfInBounds_ne (Ne.symm h), h]

theorem ready_iff {ops : Array Oper} {listed : Array Bool} (hl : listed.size = ops.size) {j : Nat} : j ∈ Region.ready .any ops listed ↔ ∃ o, ops[j]? = some o ∧ ¬ Lst listed j ∧ ∀ e ∈ o.after.toList, Region.binds .any e = true → Lst listed e.on := by
  unfold Region.ready Lst
  simp only [List.mem_filter, List.mem_range, Bool.and_eq_true, Bool.not_eq_true']
  constructor
  · rintro ⟨h1, h2, h3⟩
    have ho : ops[j]? = some ops[j] := Array.getElem?_eq_getElem h1
    refine ⟨ops[j], ho, ?_, fun e he hb => ?_⟩
    · rw [Array.getD_eq_getD_getElem?] at h2 ⊢
      rw [Array.getElem?_eq_getElem (by omega)] at h2 ⊢
      simpa using h2
    · rw [ho] at h3
      simp only [Option.map_some, Option.getD_some, Array.all_eq_true_iff_forall_mem] at h3
      have := h3 e (by simpa using he)
      simpa [hb] using this
  · rintro ⟨o, h1, h2, h3⟩
    have hlt := (Array.getElem?_eq_some_iff.1 h1).1
    refine ⟨hlt, ?_, ?_⟩
    · rw [Array.getD_eq_getD_getElem?] at h2 ⊢
      rw [Array.getElem?_eq_getElem (by omega)] at h2 ⊢
      simpa using h2
    · rw [h1]
      simp only [Option.map_some, Option.getD_some, Array.all_eq_true_iff_forall_mem]
      intro e he
      cases hb : Region.binds .any e with
      | false => rfl
      | true => simpa using h3 e (by simpa using he) hb

/-- What a statement's evaluation in the text's order lays down. -/
structure Tr (O : Orc) (c : Ctx) (ops : Array Oper) (ros : List RO) (F : Nat → Fr) (H : Nat → AH) (V : Nat → AV) : Prop where
  len : ros.length = ops.size
  rel : ∀ (i : Nat) (o : Oper) (ro : RO), ops[i]? = some o → ros[i]? = some ro → RORel P ops.toList o ro
  edges : edgesOk ops.toList 0 = true
  pairs : pairsOk c (before ops.toList []) ros = true
  step : ∀ (i : Nat) (ro : RO), ros[i]? = some ro → stepA O c ro (F i) (H i) = some (V i, H (i + 1)) ∧ F (i + 1) = put (F i) ro.dst (V i)

section
variable {ops : Array Oper} {ros : List RO} {F : Nat → Fr} {H : Nat → AH} {V : Nat → AV}

theorem Tr.flen (T : Tr (P := P) O c ops ros F H V) : ∀ i, i ≤ ros.length → (F i).length = (F 0).length
  | 0, _ => rfl
  | i + 1, h => by
    rw [(T.step i _ (List.getElem?_eq_getElem (by omega))).2, put_len]
    exact T.flen i (by omega)

theorem Tr.ghost (T : Tr (P := P) O c ops ros F H V) {t : Nat} : ∀ j, j ≤ ros.length → (∀ (i : Nat) (ro : RO), i < j → ros[i]? = some ro → ro.dst ≠ some t) → (F j).getD t undefA = (F 0).getD t undefA
  | 0, _, _ => rfl
  | j + 1, h, hn => by
    have hj : ros[j]? = some ros[j] := List.getElem?_eq_getElem (by omega)
    rw [(T.step j _ hj).2, put_getD_other (hn j _ (by omega) hj)]
    exact T.ghost j (by omega) fun i ro hi => hn i ro (by omega)

theorem Tr.written (T : Tr (P := P) O c ops ros F H V) {t i : Nat} {ri : RO} (hi : ros[i]? = some ri) (hd : ri.dst = some t) (ht : t < (F 0).length) : ∀ j, j ≤ ros.length → i < j → (F j).getD t undefA = V i
  | 0, _, h => by omega
  | j + 1, h, hij => by
    have hj : ros[j]? = some ros[j] := List.getElem?_eq_getElem (by omega)
    rw [(T.step j _ hj).2]
    by_cases he : i = j
    · subst he
      rw [hi] at hj
      have : ros[i] = ri := by simpa using hj.symm
      rw [this, hd]
      exact put_getD_same (by rw [T.flen i (by omega)]; exact ht)
    · rw [put_getD_other ((pair_of T.pairs (show i < j by omega) hi hj).2 t hd)]
      exact T.written hi hd ht j (by omega) (by omega)

theorem Tr.boxes (T : Tr (P := P) O c ops ros F H V) {i : Nat} : ∀ k, k ≤ ros.length → i ≤ k → (∀ (m : Nat) (rm : RO), i ≤ m → m < k → ros[m]? = some rm → rm.op.writesB c = false) → (H k).boxes = (H i).boxes
  | 0, _, h, _ => by have : i = 0 := by omega
                     subst this; rfl
  | k + 1, h, hik, hn => by
    by_cases he : i = k + 1
    · subst he; rfl
    · have hk : ros[k]? = some ros[k] := List.getElem?_eq_getElem (by omega)
      rw [(step_heap (T.step k _ hk).1).1 (hn k _ (by omega) (by omega) hk)]
      exact T.boxes k (by omega) (by omega) fun m rm h1 h2 => hn m rm h1 (by omega)

theorem Tr.fams (T : Tr (P := P) O c ops ros F H V) {i : Nat} : ∀ k, k ≤ ros.length → i ≤ k → (∀ (m : Nat) (rm : RO), i ≤ m → m < k → ros[m]? = some rm → rm.op.writesF c = false) → (H k).fams = (H i).fams
  | 0, _, h, _ => by have : i = 0 := by omega
                     subst this; rfl
  | k + 1, h, hik, hn => by
    by_cases he : i = k + 1
    · subst he; rfl
    · have hk : ros[k]? = some ros[k] := List.getElem?_eq_getElem (by omega)
      rw [(step_heap (T.step k _ hk).1).2 (hn k _ (by omega) (by omega) hk)]
      exact T.fams k (by omega) (by omega) fun m rm h1 h2 => hn m rm h1 (by omega)

/-- Where the exploration stands. -/
structure Inv (ops : Array Oper) (ros : List RO) (F : Nat → Fr) (H : Nat → AH) (V : Nat → AV) (c : Ctx) (listed : Array Bool) (E : Env) (frS : Fr) : Prop where
  size : listed.size = ops.size
  closed : ∀ j, Lst listed j → ∀ i, Dep ops.toList i j → Lst listed i
  flen : frS.length = (F 0).length
  wrote : ∀ (i t : Nat) (ro : RO), ros[i]? = some ro → Lst listed i → ro.dst = some t → t < (F 0).length → frS.getD t undefA = V i
  kept : ∀ t : Nat, (∀ (i : Nat) (ro : RO), ros[i]? = some ro → Lst listed i → ro.dst ≠ some t) → frS.getD t undefA = (F 0).getD t undefA
  boxes : ∀ k, k ≤ ros.length → (∀ (m : Nat) (rm : RO), ros[m]? = some rm → rm.op.writesB c = true → (Lst listed m ↔ m < k)) → E.h.boxes = (H k).boxes
  fams : ∀ k, k ≤ ros.length → (∀ (m : Nat) (rm : RO), ros[m]? = some rm → rm.op.writesF c = true → (Lst listed m ↔ m < k)) → E.h.fams = (H k).fams

theorem Dep_lt (T : Tr (P := P) O c ops ros F H V) : ∀ {j i : Nat}, Dep ops.toList i j → i < j := by
  intro j
  induction j using Nat.strongRecOn with
  | _ j ih =>
    intro i h
    obtain ⟨o, e, ho, he, hb, h1⟩ := dep_edge h
    have hlt := edges_lt T.edges ho he hb
    rcases h1 with h1 | h1
    · omega
    · have := ih e.on (by omega) h1
      omega

/-- For an operation that comes up now: whatever disturbs it stands as it stood in the text's order. -/
theorem Inv.view (T : Tr (P := P) O c ops ros F H V) {listed : Array Bool} {E : Env} {frS : Fr} (I : Inv ops ros F H V c listed E frS) {j : Nat} {rj : RO} (hj : ros[j]? = some rj) (hnl : ¬ Lst listed j) (hdeps : ∀ i, Dep ops.toList i j → Lst listed i) :
    (∀ t ∈ rj.slots, frS.getD t undefA = (F j).getD t undefA) ∧ (rj.op.looksB c = true → E.h.boxes = (H j).boxes) ∧ (rj.op.looksF = true → E.h.fams = (H j).fams) := by
  have hjl := (List.getElem?_eq_some_iff.1 hj).1
  -- for an operation m that must not be reordered with j
  have side : ∀ (m : Nat) (rm : RO), ros[m]? = some rm → m ≠ j → ((m < j → Dep ops.toList m j) ∧ (j < m → Dep ops.toList j m)) → (Lst listed m ↔ m < j) := by
    intro m rm hm hne hd
    constructor
    · intro hl
      rcases Nat.lt_or_gt_of_ne hne with h | h
      · exact h
      · exact absurd (I.closed m hl j (hd.2 h)) hnl
    · intro h
      exact hdeps m (hd.1 h)
  refine ⟨fun t ht => ?_, fun hB => ?_, fun hF => ?_⟩
  · by_cases hw : ∃ (m : Nat) (rm : RO), ros[m]? = some rm ∧ rm.dst = some t
    · obtain ⟨m, rm, hm, hd⟩ := hw
      have hml := (List.getElem?_eq_some_iff.1 hm).1
      by_cases hmj : m = j
      · -- it writes the slot itself: not yet
        subst hmj
        have h1 : frS.getD t undefA = (F 0).getD t undefA := I.kept t fun i ro hi hl hdi => by
          rcases Nat.lt_trichotomy i m with h | h | h
          · exact (pair_of T.pairs h hi hm).2 t hdi hd
          · subst h; exact hnl hl
          · exact (pair_of T.pairs h hm hi).2 t hd hdi
        have h2 : (F m).getD t undefA = (F 0).getD t undefA := T.ghost m (by omega) fun i ro h hi hdi => (pair_of T.pairs h hi hm).2 t hdi hd
        rw [h1, h2]
      · have hs : Lst listed m ↔ m < j := by
          refine side m rm hm hmj ⟨fun h => ?_, fun h => ?_⟩
          · exact Classical.byContradiction fun hn => (apart_of T.pairs h hm hj hn).1 t hd ht
          · exact Classical.byContradiction fun hn => (apart_of T.pairs h hj hm hn).2.1 t hd ht
        by_cases htl : t < (F 0).length
        · by_cases hlt : m < j
          · rw [I.wrote m t rm hm (hs.2 hlt) hd htl, T.written hm hd htl j (by omega) hlt]
          · have h1 : frS.getD t undefA = (F 0).getD t undefA := I.kept t fun i ro hi hl hdi => by
              rcases Nat.lt_trichotomy i m with h | h | h
              · exact (pair_of T.pairs h hi hm).2 t hdi hd
              · subst h; exact hlt (hs.1 hl)
              · exact (pair_of T.pairs h hm hi).2 t hd hdi
            have h2 : (F j).getD t undefA = (F 0).getD t undefA := T.ghost j (by omega) fun i ro h hi hdi => by
              rcases Nat.lt_trichotomy i m with h' | h' | h'
              · exact (pair_of T.pairs h' hi hm).2 t hdi hd
              · omega
              · exact (pair_of T.pairs h' hm hi).2 t hd hdi
            rw [h1, h2]
        · have h1 : frS.getD t undefA = undefA := by simp [List.getD, List.getElem?_eq_none (show frS.length ≤ t by rw [I.flen]; omega)]
          have h2 : (F j).getD t undefA = undefA := by simp [List.getD, List.getElem?_eq_none (show (F j).length ≤ t by rw [T.flen j (by omega)]; omega)]
          rw [h1, h2]
    · have hw' : ∀ (i : Nat) (ro : RO), ros[i]? = some ro → ro.dst ≠ some t := fun i ro hi hd => hw ⟨i, ro, hi, hd⟩
      rw [I.kept t fun i ro hi _ => hw' i ro hi, T.ghost j (by omega) fun i ro _ hi => hw' i ro hi]
  · refine I.boxes j (by omega) fun m rm hm hwm => ?_
    by_cases hmj : m = j
    · subst hmj; exact ⟨fun h => absurd h hnl, fun h => by omega⟩
    · refine side m rm hm hmj ⟨fun h => ?_, fun h => ?_⟩
      · exact Classical.byContradiction fun hn => by have := (apart_of T.pairs h hm hj hn).2.2.1 hwm; rw [hB] at this; cases this
      · exact Classical.byContradiction fun hn => by have := (apart_of T.pairs h hj hm hn).2.2.2.1 hB; rw [hwm] at this; cases this
  · refine I.fams j (by omega) fun m rm hm hwm => ?_
    by_cases hmj : m = j
    · subst hmj; exact ⟨fun h => absurd h hnl, fun h => by omega⟩
    · refine side m rm hm hmj ⟨fun h => ?_, fun h => ?_⟩
      · exact Classical.byContradiction fun hn => by have := (apart_of T.pairs h hm hj hn).2.2.2.2.1 hwm; rw [hF] at this; cases this
      · exact Classical.byContradiction fun hn => by have := (apart_of T.pairs h hj hm hn).2.2.2.2.2 hF; rw [hwm] at this; cases this

end
end
end Go.Abs
