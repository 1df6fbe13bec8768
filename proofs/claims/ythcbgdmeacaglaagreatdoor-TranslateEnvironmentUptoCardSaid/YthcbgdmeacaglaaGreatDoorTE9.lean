/- A part of the proof. -/
import Derived.Test.YthcbgdmeacaglaaGreatDoorTE8
set_option linter.all false
namespace Go.Abs
open Go.RowKit (Below)
section
variable {P : Program} {O : Orc} {c : Ctx} {ops : Array Oper} {ros : List RO} {F : Nat → Fr} {H : Nat → AH} {V : Nat → AV}
theorem Inv.next (T : Tr (P := P) O c ops ros F H V) {listed : Array Bool} {E E' : Env} {frS : Fr} (I : Inv ops ros F H V c listed E frS) {j : Nat} {rj : RO} (hj : ros[j]? = some rj) (hnl : ¬ Lst listed j) (hdeps : ∀ i, Dep ops.toList i j → Lst listed i)
    {h1 : AH} (hE : E'.h = h1) (wB : rj.op.writesB c = true → h1.boxes = (H (j + 1)).boxes) (nB : rj.op.writesB c = false → h1.boxes = E.h.boxes) (wF : rj.op.writesF c = true → h1.fams = (H (j + 1)).fams) (nF : rj.op.writesF c = false → h1.fams = E.h.fams) :
    Inv ops ros F H V c (listed.setIfInBounds j true) E' (put frS rj.dst (V j)) := by
  have hjl := (List.getElem?_eq_some_iff.1 hj).1
  have hjs : j < listed.size := by rw [I.size, ← T.len]; exact hjl
  subst hE
  have order : ∀ (m : Nat) (rm : RO), ros[m]? = some rm → m ≠ j → ((rm.op.writesB c = true ∧ rj.op.writesB c = true) ∨ (rm.op.writesF c = true ∧ rj.op.writesF c = true)) → Lst listed m → m < j := by
    intro m rm hm hne hw hl
    rcases Nat.lt_or_gt_of_ne hne with h | h
    · exact h
    · exfalso
      have hd : Dep ops.toList j m := Classical.byContradiction fun hn => by
        have ha := apart_of T.pairs h hj hm hn
        rcases hw with ⟨w1, w2⟩ | ⟨w1, w2⟩
        · have := ha.2.2.1 w2; rw [writes_looksB _ w1] at this; cases this
        · have := ha.2.2.2.2.1 w2; rw [writes_looksF _ w1] at this; cases this
      exact hnl (I.closed m hl j hd)
  refine ⟨by simpa using I.size, fun i hi k hk => ?_, by rw [put_len]; exact I.flen, fun i t ro hi hl hd ht => ?_, fun t hn => ?_, fun k hk hm => ?_, fun k hk hm => ?_⟩
  · rw [Lst_set hjs] at hi ⊢
    rcases hi with rfl | hi
    · exact .inr (hdeps k hk)
    · exact .inr (I.closed i hi k hk)
  · rw [Lst_set hjs] at hl
    by_cases hij : i = j
    · subst hij
      rw [hi] at hj
      have : ro = rj := by simpa using hj
      subst this
      rw [hd]
      exact put_getD_same (by rw [I.flen]; exact ht)
    · have hl' : Lst listed i := hl.resolve_left hij
      have hne : rj.dst ≠ some t := by
        rcases Nat.lt_or_gt_of_ne hij with h | h
        · exact (pair_of T.pairs h hi hj).2 t hd
        · exact fun hd' => (pair_of T.pairs h hj hi).2 t hd' hd
      rw [put_getD_other hne]
      exact I.wrote i t ro hi hl' hd ht
  · have h1 : rj.dst ≠ some t := hn j rj hj ((Lst_set hjs).2 (.inl rfl))
    rw [put_getD_other h1]
    exact I.kept t fun i ro hi hl => hn i ro hi ((Lst_set hjs).2 (.inr hl))
  · by_cases hw : rj.op.writesB c = true
    · rw [wB hw]
      have hjk : j < k := (hm j rj hj hw).1 ((Lst_set hjs).2 (.inl rfl))
      refine (T.boxes k hk (by omega) fun m rm h1 h2 hmr => ?_).symm
      cases hwm : rm.op.writesB c with
      | false => rfl
      | true =>
        have := (hm m rm hmr hwm).2 h2
        rw [Lst_set hjs] at this
        rcases this with h | h
        · omega
        · have := order m rm hmr (by omega) (.inl ⟨hwm, hw⟩) h
          omega
    · have hw' : rj.op.writesB c = false := by simpa using hw
      rw [nB hw']
      refine I.boxes k hk fun m rm hmr hwm => ?_
      rw [← hm m rm hmr hwm, Lst_set hjs]
      refine ⟨.inr, fun h => h.resolve_left fun e => ?_⟩
      subst e
      rw [hmr] at hj
      have : rm = rj := by simpa using hj
      subst this
      rw [hwm] at hw'; cases hw'
  · by_cases hw : rj.op.writesF c = true
    · rw [wF hw]
      have hjk : j < k := (hm j rj hj hw).1 ((Lst_set hjs).2 (.inl rfl))
      refine (T.fams k hk (by omega) fun m rm h1 h2 hmr => ?_).symm
      cases hwm : rm.op.writesF c with
      | false => rfl
      | true =>
        have := (hm m rm hmr hwm).2 h2
        rw [Lst_set hjs] at this
        rcases this with h | h
        · omega
        · have := order m rm hmr (by omega) (.inr ⟨hwm, hw⟩) h
          omega
    · have hw' : rj.op.writesF c = false := by simpa using hw
      rw [nF hw']
      refine I.fams k hk fun m rm hmr hwm => ?_
      rw [← hm m rm hmr hwm, Lst_set hjs]
      refine ⟨.inr, fun h => h.resolve_left fun e => ?_⟩
      subst e
      rw [hmr] at hj
      have : rm = rj := by simpa using hj
      subst this
      rw [hwm] at hw'; cases hw'
def left (n : Nat) (listed : Array Bool) : Nat := ((List.range n).filter fun i => !listed.getD i false).length
theorem left_zero {n : Nat} {listed : Array Bool} (h : left n listed = 0) {i : Nat} (hi : i < n) : Lst listed i := by
  unfold left at h
  have h1 := List.eq_nil_of_length_eq_zero h
  rw [List.filter_eq_nil_iff] at h1
  have := h1 i (List.mem_range.2 hi)
  simpa [Lst] using this
theorem left_set {n j : Nat} {listed : Array Bool} (hj : j < n) (hs : listed.size = n) (hnl : ¬ Lst listed j) : left n (listed.setIfInBounds j true) + 1 = left n listed := by
  unfold left
  have h1 : ((List.range n).filter fun i => !(listed.setIfInBounds j true).getD i false) = ((List.range n).filter fun i => !listed.getD i false).erase j := by
    rw [List.Nodup.erase_eq_filter (List.Pairwise.filter _ List.nodup_range), List.filter_filter]
    refine List.filter_congr fun i _ => ?_
    by_cases h : i = j
    · subst h
      simp [Array.getD_eq_getD_getElem?, show i < listed.size by omega]
    · simp [Array.getD_eq_getD_getElem?, Array.getElem?_setIfInBounds_ne (Ne.symm h), h]
  have hmem : j ∈ (List.range n).filter fun i => !listed.getD i false := by
    rw [List.mem_filter]
    exact ⟨List.mem_range.2 hj, by simpa [Lst] using hnl⟩
  rw [h1, List.length_erase_of_mem hmem]
  have : 0 < ((List.range n).filter fun i => !listed.getD i false).length := List.length_pos_of_mem hmem
  omega
theorem all_listed (T : Tr (P := P) O c ops ros F H V) {listed : Array Bool} (hs : listed.size = ops.size) (hr : Region.ready .any ops listed = []) : ∀ i, i < ops.size → Lst listed i := by
  intro i
  induction i using Nat.strongRecOn with
  | _ i ih =>
    intro hi
    refine Classical.byContradiction fun hn => ?_
    have ho : ops[i]? = some ops[i] := Array.getElem?_eq_getElem hi
    have : i ∈ Region.ready .any ops listed := (ready_iff hs).2 ⟨ops[i], ho, hn, fun e he hb => by
      have := edges_lt T.edges (j := i) (o := ops[i]) (by simp) he hb
      exact ih e.on (by omega) (by omega)⟩
    rw [hr] at this
    cases this
theorem explore (hP : PureS P O) (hR : RawS P O) (T : Tr (P := P) O c ops ros F H V) {Q : Exit → Act → World → Prop} {E0 : Env} {a0 : Act}
    (hQ : ∀ a' E', Ext E0 E' → SR E' → E'.h = H ros.length → FR E' (F ros.length) a'.tmps → a'.defers = a0.defers → Q .normal a' E'.w) :
    ∀ (fuel : Nat) (listed : Array Bool) (a : Act) (E : Env) (frS : Fr), Inv ops ros F H V c listed E frS → Ext E0 E → SR E → FR E frS a.tmps → a.defers = a0.defers → left ops.size listed ≤ fuel → wpAny P .any ops Q fuel listed a E.w := by
  intro fuel
  have done : ∀ (listed : Array Bool) (a : Act) (E : Env) (frS : Fr), Inv ops ros F H V c listed E frS → Ext E0 E → SR E → FR E frS a.tmps → a.defers = a0.defers → (∀ i, i < ops.size → Lst listed i) → Q .normal a E.w := by
    intro listed a E frS I hx hS hf hd hall
    have hlen := T.len
    have hb := I.boxes ros.length (Nat.le_refl _) fun m rm hm _ => by
      have := (List.getElem?_eq_some_iff.1 hm).1
      exact ⟨fun _ => this, fun _ => hall m (by omega)⟩
    have hfm := I.fams ros.length (Nat.le_refl _) fun m rm hm _ => by
      have := (List.getElem?_eq_some_iff.1 hm).1
      exact ⟨fun _ => this, fun _ => hall m (by omega)⟩
    refine hQ a E hx hS (AH_eq hb hfm) ⟨?_, fun t => ?_, hf.glob⟩ hd
    · rw [T.flen _ (Nat.le_refl _), ← I.flen]; exact hf.len
    · have hv := hf.val t
      have : (F ros.length).getD t undefA = frS.getD t undefA := by
        by_cases hw : ∃ (m : Nat) (rm : RO), ros[m]? = some rm ∧ rm.dst = some t
        · obtain ⟨m, rm, hm, hdm⟩ := hw
          have hml := (List.getElem?_eq_some_iff.1 hm).1
          by_cases htl : t < (F 0).length
          · rw [T.written hm hdm htl _ (Nat.le_refl _) hml, I.wrote m t rm hm (hall m (by omega)) hdm htl]
          · rw [show (F ros.length).getD t undefA = undefA from by simp [List.getD, List.getElem?_eq_none (show (F ros.length).length ≤ t by rw [T.flen _ (Nat.le_refl _)]; omega)],
              show frS.getD t undefA = undefA from by simp [List.getD, List.getElem?_eq_none (show frS.length ≤ t by rw [I.flen]; omega)]]
        · have hw' : ∀ (i : Nat) (ro : RO), ros[i]? = some ro → ro.dst ≠ some t := fun i ro hi hd => hw ⟨i, ro, hi, hd⟩
          rw [I.kept t fun i ro hi _ => hw' i ro hi, T.ghost _ (Nat.le_refl _) fun i ro _ hi => hw' i ro hi]
      rw [this]; exact hv
  induction fuel with
  | zero =>
    intro listed a E frS I hx hS hf hd hl
    have hall : ∀ i, i < ops.size → Lst listed i := fun i hi => left_zero (by omega) hi
    refine ⟨?_, done listed a E frS I hx hS hf hd hall⟩
    apply List.eq_nil_iff_forall_not_mem.2
    intro j hj
    obtain ⟨o, ho, hn, _⟩ := (ready_iff I.size).1 hj
    exact hn (hall j (Array.getElem?_eq_some_iff.1 ho).1)
  | succ fuel ih =>
    intro listed a E frS I hx hS hf hd hl
    refine ⟨fun hr => done listed a E frS I hx hS hf hd (all_listed T I.size hr), fun j hj => ?_⟩
    obtain ⟨o, ho, hnl, hedges⟩ := (ready_iff I.size).1 hj
    have hjl := (Array.getElem?_eq_some_iff.1 ho).1
    obtain ⟨rj, hjr⟩ : ∃ rj, ros[j]? = some rj := ⟨_, List.getElem?_eq_getElem (show j < ros.length by rw [T.len]; exact hjl)⟩
    have hdeps : ∀ i, Dep ops.toList i j → Lst listed i := by
      intro i hi
      obtain ⟨o', e, ho', he, hb, h1⟩ := dep_edge hi
      have : o' = o := by rw [Array.getElem?_toList, ho] at ho'; simpa using ho'.symm
      subst this
      have hle := hedges e he hb
      rcases h1 with h1 | h1
      · rw [← h1]; exact hle
      · exact I.closed _ hle i h1
    obtain ⟨v1, v2, v4, v3⟩ := I.view T hjr hnl hdeps
    obtain ⟨hst, hput⟩ := T.step j _ hjr
    obtain ⟨h1, e1, e2, e3, e4, e5⟩ := step_congr v1 v2 v4 v3 hst
    have hrel := T.rel j o _ ho hjr
    have hw := step_wp (Q := Q) hP hR hS hf hrel e1 (K := wpAny P .any ops Q fuel (listed.setIfInBounds j true)) (fun u E' hx' hS' he hv => by
      refine ih _ _ E' (put frS rj.dst (V j)) (I.next T hjr hnl hdeps he e2 e3 e4 e5) (hx.trans hx') hS' ?_ ?_ ?_
      · rw [hrel.dst]; exact FR.put (FR.ext hx' hf) o.dst hv
      · rw [← hd]; cases o.dst <;> rfl
      · have := left_set hjl I.size hnl
        omega)
    unfold wpOp
    simp only [ho]
    split
    · rename_i h; rw [if_pos h] at hw; exact .inl hw
    · rename_i h; rw [if_neg h] at hw; exact hw
theorem okX {ops : List Oper} {ros : List RO} (h : orderOk c ops ros = true) : orderOkX c ops ros = true := by
  unfold orderOk pairsOk at h
  unfold orderOkX pairsOkX
  simp only [Bool.and_eq_true] at h ⊢
  refine ⟨h.1, ?_⟩
  have h2 := h.2
  rw [List.all_eq_true] at h2 ⊢
  intro j hj
  have h3 := h2 j hj
  rw [List.all_eq_true] at h3 ⊢
  intro i hi
  have h4 := h3 i hi
  split at h4
  · rename_i oi oj hoi hoj
    simp only [Bool.and_eq_true] at h4 ⊢
    refine ⟨?_, h4.2⟩
    have h5 := h4.1
    unfold pairOk at h5
    unfold pairOkX
    simp only [Bool.or_eq_true, Bool.and_eq_true] at h5 ⊢
    rcases h5 with h5 | ⟨⟨⟨⟨⟨a, b⟩, d⟩, e⟩, f⟩, g⟩
    · exact .inl h5
    · exact .inr ⟨⟨⟨⟨⟨a, b⟩, d⟩, .inl e⟩, f⟩, g⟩
  · cases h4
theorem region_sound (hP : PureS P O) (hR : RawS P O) (hm : P.follows .mixedOrders = true) {id : Nat} {draw draw' : Bool} {ros : List RO} (hr : resCode P c (.region id ops draw) = some (.region draw' ros)) {Q : Exit → Act → World → Prop} {E : Env} {fr fr' : Fr} {a : Act} {h' : AH}
    (hS : SR E) (hf : FR E fr a.tmps) (hev : evalOps O c ros fr E.h = some (fr', h'))
    (hQ : ∀ a' E', Ext E E' → SR E' → E'.h = h' → FR E' fr' a'.tmps → a'.defers = a.defers → Q .normal a' E'.w) : (Code.region id ops draw).wp P Q a E.w := by
  simp only [resCode] at hr
  split at hr
  · rename_i ros1 hq
    rw [Option.map_eq_some_iff] at hq
    obtain ⟨rosP, h0, hb1⟩ := hq
    obtain ⟨hlP, hg0⟩ := mapO_spec h0
    have relB : ∀ (i : Nat) (o : Oper) (ro : RO), ops.toList[i]? = some o → ros1[i]? = some ro → ∃ ro0, resRO P ops.toList o = some ro0 ∧ (ro = ro0 ∨ ro = ro0.bxd) := by
      intro i o ro ho hro
      rw [← hb1] at hro
      obtain ⟨ro0, g1, g2⟩ := bxS_get hro
      obtain ⟨y, hy, hy'⟩ := hg0 i o ho
      rw [g1] at hy'
      have : ro0 = y := by simpa using hy'
      subst this; exact ⟨ro0, hy, g2⟩
    have relR : ∀ (i : Nat) (o : Oper) (ro : RO), ops.toList[i]? = some o → ros1[i]? = some ro → RORel P ops.toList o ro := fun i o ro ho hro => by
      obtain ⟨ro0, h1, h2⟩ := relB i o ro ho hro
      exact resRO_rel h1 h2
    have relL : ∀ (m : Option Bool × Bool) (i : Nat) (o : Oper) (ro : RO), ops.toList[i]? = some o → ros1[i]? = some ro → RORel P ops.toList o (ro.lax m) := fun m i o ro ho hro => by
      obtain ⟨ro0, h1, h2⟩ := relB i o ro ho hro
      exact RORel.lax m h1 h2
    have hl0 : ros1.length = ops.toList.length := by rw [← hb1, bxS_len]; exact hlP
    clear relB hb1 hg0 h0 hlP rosP
    have drawn : ∀ (ros : List RO), ros.length = ops.size → (∀ (i : Nat) (o : Oper) (ro : RO), ops[i]? = some o → ros[i]? = some ro → RORel P ops.toList o ro) → orderOkX c ops.toList ros = true → evalOps O c ros fr E.h = some (fr', h') → (Code.region id ops true).wp P Q a E.w := by
      intro ros hl hrel hok hev
      unfold orderOkX at hok
      simp only [Bool.and_eq_true] at hok
      obtain ⟨F, H, V, f0, f1, f2, f3, f4⟩ := trace_of hev
      have T : Tr (P := P) O c ops ros F H V := ⟨hl, hrel, hok.1, hok.2, f4⟩
      refine wp_region_any hm ?_
      have hb : Bl E.w.heap.size E.w E.w.drew := drew_below _
      have hx := grow_ext hS hb
      refine explore hP hR T (Q := Q) (E0 := { E with w := E.w.drew }) (a0 := a) (fun a' E' h1 h2 h3 h4 h5 => ?_) ops.size (Array.replicate ops.size false) a { E with w := E.w.drew } fr ?_ (Ext.refl _) (grow_SR hS hb) (FR.ext hx hf) rfl ?_
      · exact hQ a' E' (hx.trans h1) h2 (by rw [h3, f3]) (by rw [← f2]; exact h4) h5
      · have hno : ∀ i, ¬ Lst (Array.replicate ops.size false) i := by
          intro i h
          unfold Lst at h
          rw [Array.getD_eq_getD_getElem?, Array.getElem?_replicate] at h
          split at h <;> simp at h
        refine ⟨by simp, fun j hj => absurd hj (hno j), by rw [f0], fun i t ro _ hl => absurd hl (hno i), fun t _ => by rw [f0], fun k hk hm => ?_, fun k hk hm => ?_⟩
        · have hb := T.boxes (i := 0) k hk (Nat.zero_le _) fun m rm _ h2 hmr => by
            cases hw : rm.op.writesB c with
            | false => rfl
            | true => exact absurd ((hm m rm hmr hw).2 h2) (hno m)
          rw [hb, f1]
        · have hb := T.fams (i := 0) k hk (Nat.zero_le _) fun m rm _ h2 hmr => by
            cases hw : rm.op.writesF c with
            | false => rfl
            | true => exact absurd ((hm m rm hmr hw).2 h2) (hno m)
          rw [hb, f1]
      · unfold left
        refine Nat.le_trans (List.length_filter_le _ _) ?_
        simp
    split at hr
    · rename_i hc
      simp only [Option.some.injEq, RCode.region.injEq] at hr
      obtain ⟨rfl, rfl⟩ := hr
      cases draw with
      | false =>
        refine wp_region_list ?_
        exact ops_text hP hR ops.toList ros1 hl0 relR E fr a fr' h' hS hf hev hQ
      | true =>
        exact drawn ros1 (by simpa using hl0) (fun i o ro h1 h2 => relR i o ro (by simpa using h1) h2) (okX (by simpa using hc)) hev
    · rename_i hc
      split at hr
      · rename_i hok
        simp only [Option.some.injEq, RCode.region.injEq] at hr
        obtain ⟨_, rfl⟩ := hr
        have hd : draw = true := by
          cases draw with
          | true => rfl
          | false => simp at hc
        subst hd
        refine drawn (ros1.map (RO.lax (none, false))) (by simpa using hl0) (fun i o ro h1 h2 => ?_) (okX hok) hev
        rw [List.getElem?_map] at h2
        cases hro : ros1[i]? with
        | none => rw [hro] at h2; cases h2
        | some ro0 =>
          rw [hro] at h2
          have : ro0.lax (none, false) = ro := by simpa using h2
          subst this
          exact relL _ i o ro0 (by simpa using h1) hro
      · split at hr
        · rename_i hok
          simp only [Option.some.injEq, RCode.region.injEq] at hr
          obtain ⟨_, rfl⟩ := hr
          have hd : draw = true := by
            cases draw with
            | true => rfl
            | false => simp at hc
          subst hd
          refine drawn (laxE false ros1) (by simpa [laxE] using hl0) (fun i o ro h1 h2 => ?_) (okX hok) hev
          unfold laxE at h2
          rw [List.getElem?_map] at h2
          cases hro : ros1[i]? with
          | none => rw [hro] at h2; cases h2
          | some ro0 =>
            rw [hro] at h2
            have : ro0.lax (some (isElem ros1 ro0.op), false) = ro := by simpa using h2
            subst this
            exact relL _ i o ro0 (by simpa using h1) hro
        · split at hr
          · rename_i hok
            simp only [Option.some.injEq, RCode.region.injEq] at hr
            obtain ⟨_, rfl⟩ := hr
            have hd : draw = true := by
              cases draw with
              | true => rfl
              | false => simp at hc
            subst hd
            refine drawn (laxE true ros1) (by simpa [laxE] using hl0) (fun i o ro h1 h2 => ?_) (okX hok) hev
            unfold laxE at h2
            rw [List.getElem?_map] at h2
            cases hro : ros1[i]? with
            | none => rw [hro] at h2; cases h2
            | some ro0 =>
              rw [hro] at h2
              have : ro0.lax (some (isElem ros1 ro0.op), true) = ro := by simpa using h2
              subst this
              exact relL _ i o ro0 (by simpa using h1) hro
          · split at hr
            · rename_i hok
              simp only [Option.some.injEq, RCode.region.injEq] at hr
              obtain ⟨_, rfl⟩ := hr
              have hd : draw = true := by
                cases draw with
                | true => rfl
                | false => simp at hc
              subst hd
              exact drawn ros1 (by simpa using hl0) (fun i o ro h1 h2 => relR i o ro (by simpa using h1) h2) hok hev
            · split at hr <;> cases hr
  · cases hr
end
end Go.Abs
namespace Go.Abs
def cB (h : AH) : Option Nat → Nat × Option (List AV)
  | none => (h.boxes.length, none)
  | some i => (0, h.boxes[i]?)
def cF (h : AH) : Option Nat → Nat × Option Fam
  | none => (h.fams.length, none)
  | some i => (0, h.fams[i]?)
def AgL (r : Option (List (Option Nat))) (P : Option Nat → Prop) : Prop := match r with | none => ∀ x, P x | some L => ∀ x ∈ L, P x
theorem boxes_ext {h h' : AH} (H : ∀ x, cB h' x = cB h x) : h'.boxes = h.boxes := List.ext_getElem? fun i => by have := H (some i); simpa [cB] using this
theorem fams_ext {h h' : AH} (H : ∀ x, cF h' x = cF h x) : h'.fams = h.fams := List.ext_getElem? fun i => by have := H (some i); simpa [cF] using this
theorem cB_of {h h' : AH} (e : h'.boxes = h.boxes) (x : Option Nat) : cB h' x = cB h x := by cases x <;> simp [cB, e]
theorem cF_of {h h' : AH} (e : h'.fams = h.fams) (x : Option Nat) : cF h' x = cF h x := by cases x <;> simp [cF, e]
def DoB (h h1 h' h1' : AH) : Prop := ∀ x, (cB h1 x = cB h x → cB h1' x = cB h' x) ∧ (cB h1 x ≠ cB h x → cB h1' x = cB h1 x)
def DoF (h h1 h' h1' : AH) : Prop := ∀ x, (cF h1 x = cF h x → cF h1' x = cF h' x) ∧ (cF h1 x ≠ cF h x → cF h1' x = cF h1 x)
section
variable {h h1 h' h1' : AH}
theorem DoB_same (e1 : h'.boxes = h.boxes) (e2 : h1'.boxes = h1.boxes) : DoB h h1 h' h1' := fun x => ⟨fun e => by rw [cB_of e2, e, cB_of e1], fun _ => cB_of e2 x⟩
theorem DoF_same (e1 : h'.fams = h.fams) (e2 : h1'.fams = h1.fams) : DoF h h1 h' h1' := fun x => ⟨fun e => by rw [cF_of e2, e, cF_of e1], fun _ => cF_of e2 x⟩
theorem DoB_keep (e1 : h1.boxes = h.boxes) (e2 : h1'.boxes = h'.boxes) : DoB h h1 h' h1' := fun x => ⟨fun _ => cB_of e2 x, fun e => absurd (cB_of e1 x) e⟩
theorem DoF_keep (e1 : h1.fams = h.fams) (e2 : h1'.fams = h'.fams) : DoF h h1 h' h1' := fun x => ⟨fun _ => cF_of e2 x, fun e => absurd (cF_of e1 x) e⟩
theorem DoB_set {b : Nat} {cs old : List AV} (e1 : h1.boxes = h.boxes.set b cs) (e2 : h1'.boxes = h'.boxes.set b cs) (hb : h.boxes[b]? = some old) (hb' : h'.boxes[b]? = some old) : DoB h h1 h' h1' := by
  have l1 := (List.getElem?_eq_some_iff.1 hb).1
  have l2 := (List.getElem?_eq_some_iff.1 hb').1
  intro x
  cases x with
  | none => simp [cB, e1, e2]
  | some i =>
    by_cases hi : b = i
    · subst hi
      have g1 := (List.getElem?_eq_some_iff.1 hb).2
      have g2 := (List.getElem?_eq_some_iff.1 hb').2
      simp [cB, e1, e2, l1, l2, g1, g2]
    · simp [cB, e1, e2, List.getElem?_set_ne hi]
theorem DoF_set {b : Nat} {f old : Fam} (e1 : h1.fams = h.fams.set b f) (e2 : h1'.fams = h'.fams.set b f) (hb : h.fams[b]? = some old) (hb' : h'.fams[b]? = some old) : DoF h h1 h' h1' := by
  have l1 := (List.getElem?_eq_some_iff.1 hb).1
  have l2 := (List.getElem?_eq_some_iff.1 hb').1
  intro x
  cases x with
  | none => simp [cF, e1, e2]
  | some i =>
    by_cases hi : b = i
    · subst hi
      have g1 := (List.getElem?_eq_some_iff.1 hb).2
      have g2 := (List.getElem?_eq_some_iff.1 hb').2
      simp [cF, e1, e2, l1, l2, g1, g2]
    · simp [cF, e1, e2, List.getElem?_set_ne hi]
theorem DoB_app {cs : List AV} (e1 : h1.boxes = h.boxes ++ [cs]) (e2 : h1'.boxes = h'.boxes ++ [cs]) (hl : h'.boxes.length = h.boxes.length) : DoB h h1 h' h1' := by
  intro x
  cases x with
  | none => simp [cB, e1, e2, hl]
  | some i =>
    rcases Nat.lt_trichotomy i h.boxes.length with h3 | h3 | h3
    · have h4 : i < h'.boxes.length := by omega
      simp [cB, e1, e2, List.getElem?_append_left h3, List.getElem?_append_left h4]
    · subst h3
      simp [cB, e1, e2, ← hl]
    · simp [cB, e1, e2, List.getElem?_eq_none (l := h.boxes) (i := i) (by omega), List.getElem?_eq_none (l := h'.boxes) (i := i) (by omega), List.getElem?_eq_none (l := h.boxes ++ [cs]) (i := i) (by simp; omega), List.getElem?_eq_none (l := h'.boxes ++ [cs]) (i := i) (by simp; omega)]
theorem DoF_app {f : Fam} (e1 : h1.fams = h.fams ++ [f]) (e2 : h1'.fams = h'.fams ++ [f]) (hl : h'.fams.length = h.fams.length) : DoF h h1 h' h1' := by
  intro x
  cases x with
  | none => simp [cF, e1, e2, hl]
  | some i =>
    rcases Nat.lt_trichotomy i h.fams.length with h3 | h3 | h3
    · have h4 : i < h'.fams.length := by omega
      simp [cF, e1, e2, List.getElem?_append_left h3, List.getElem?_append_left h4]
    · subst h3
      simp [cF, e1, e2, ← hl]
    · simp [cF, e1, e2, List.getElem?_eq_none (l := h.fams) (i := i) (by omega), List.getElem?_eq_none (l := h'.fams) (i := i) (by omega), List.getElem?_eq_none (l := h.fams ++ [f]) (i := i) (by simp; omega), List.getElem?_eq_none (l := h'.fams ++ [f]) (i := i) (by simp; omega)]
end
section
variable {O : Orc} {c : Ctx} {fr fr' : Fr} {h h' h1 : AH} {v : AV}
theorem op_foot_kind {r : ROp} (hs : ∀ t ∈ r.slots, fr'.getD t undefA = fr.getD t undefA) (hb : r.looksB = true → ∀ x, cB h' x = cB h x) (hf : r.looksF = true → ∀ x, cF h' x = cF h x) (he : evalOp O c r fr h = some (v, h1)) :
    ∃ h1', evalOp O c r fr' h' = some (v, h1') ∧ DoB h h1 h' h1' ∧ DoF h h1 h' h1' := by
  have hb' := fun q => boxes_ext (hb q)
  have hf' := fun q => fams_ext (hf q)
  obtain ⟨h1', e1, e2, e3⟩ := op_congr hs hb' hf' he
  refine ⟨h1', e1, ?_, ?_⟩
  · by_cases hw : r.writesB c = true
    · exact DoB_same (hb' (writes_looksB _ hw)) (e2 hw)
    · have hw' : r.writesB c = false := by simpa using hw
      exact DoB_keep ((op_heap he).1 hw') ((op_heap e1).1 hw')
  · by_cases hw : r.writesF c = true
    · exact DoF_same (hf' (writes_looksF _ hw)) (e3 hw)
    · have hw' : r.writesF c = false := by simpa using hw
      exact DoF_keep ((op_heap he).2 hw') ((op_heap e1).2 hw')
theorem loadA_foot {agg : Bool} {n : Nat} {p u : AV} (hb : ∀ b off, p = .ptr b off → h'.boxes[b]? = h.boxes[b]?) (hf : ∀ k m i q s, p = .ep k m i q s → h'.fams[k]? = h.fams[k]?) (he : loadA h agg n p = some u) : loadA h' agg n p = some u := by
  cases p <;> simp only [loadA] at he ⊢ <;> try exact he
  · rename_i k m i q s
    rw [hf k m i q s rfl]; exact he
  · rename_i b off
    rw [hb b off rfl]; exact he
theorem box_of {b : Nat} (H : ∀ x ∈ [some b], cB h' x = cB h x) : h'.boxes[b]? = h.boxes[b]? := by have := H (some b) (by simp); simpa [cB] using this
theorem fam_of {k : Nat} {L : List (Option Nat)} (H : ∀ x ∈ L, cF h' x = cF h x) (hk : some k ∈ L) : h'.fams[k]? = h.fams[k]? := by have := H (some k) hk; simpa [cF] using this
theorem len_of (H : ∀ x ∈ [(none : Option Nat)], cB h' x = cB h x) : h'.boxes.length = h.boxes.length := by have := H none (by simp); simpa [cB] using this
theorem flen_of {L : List (Option Nat)} (H : ∀ x ∈ L, cF h' x = cF h x) (hk : none ∈ L) : h'.fams.length = h.fams.length := by have := H none hk; simpa [cF] using this
theorem elems_foot {sz : Nat} {x : AV} (H : ∀ k n off len, x = .sl k n off len → h'.fams[k]? = h.fams[k]?) : elems h' sz x = elems h sz x := by
  cases x <;> try rfl
  rename_i k n off len
  simp only [elems, H k n off len rfl]
theorem flat_frzAll (h : AH) (am : Bool) : ∀ {xs : List AV}, xs.all flatA = true → frzAll h am xs = some xs
  | [], _ => rfl
  | x :: xs, hx => by
    simp only [List.all_cons, Bool.and_eq_true] at hx
    simp [frzAll, flat_frz h am hx.1, flat_frzAll h am hx.2]
theorem flat_tame1 {x : AV} (hx : x.flat = true) (h h' : AH) : tame1 h x = tame1 h' x := by
  cases x <;> first | rfl | (simp [AV.flat] at hx; done)
theorem flat_tame1s {xs : List AV} (hx : xs.all AV.flat = true) (h h' : AH) : xs.all (tame1 h) = xs.all (tame1 h') := by
  induction xs with
  | nil => rfl
  | cons x xs ih =>
    simp only [List.all_cons, Bool.and_eq_true] at hx
    rw [List.all_cons, List.all_cons, flat_tame1 hx.1 h h', ih hx.2]
theorem flat_tame {x : AV} (hx : flatA x = true) (h h' : AH) : tame h x = tame h' x := by
  cases x
  case agg cs =>
    simp only [flatA] at hx
    simp only [tame]
    exact flat_tame1s hx h h'
  case tup => simp [flatA] at hx
  all_goals exact flat_tame1 (by simpa [flatA] using hx) h h'
theorem flat_tames {xs : List AV} (hx : xs.all flatA = true) (h h' : AH) : xs.all (tame h) = xs.all (tame h') := by
  induction xs with
  | nil => rfl
  | cons x xs ih =>
    simp only [List.all_cons, Bool.and_eq_true] at hx
    rw [List.all_cons, List.all_cons, flat_tame hx.1 h h', ih hx.2]
theorem op_foot {r : ROp} (hs : ∀ t ∈ r.slots, fr'.getD t undefA = fr.getD t undefA) (hb : AgL (opRB c h.boxes.length (get fr) r) fun x => cB h' x = cB h x) (hf : AgL (opRF c (get fr) r) fun x => cF h' x = cF h x) (he : evalOp O c r fr h = some (v, h1)) :
    ∃ h1', evalOp O c r fr' h' = some (v, h1') ∧ DoB h h1 h' h1' ∧ DoF h h1 h' h1' := by
  have kind : (r.looksB = true → opRB c h.boxes.length (get fr) r = none) → (r.looksF = true → opRF c (get fr) r = none) → _ := fun k1 k2 => op_foot_kind (O := O) (c := c) (v := v) (h1 := h1) hs (fun q => by have := hb; rw [k1 q] at this; exact this) (fun q => by have := hf; rw [k2 q] at this; exact this) he
  cases r
  case ld b n x =>
    have gx := get_congr (x := x) fun t ht => hs t (by simp [ROp.slots, ht])
    simp only [evalOp] at he
    split at he
    · rename_i u hu
      cases he
      have : loadA h' b n (get fr x) = some v := loadA_foot (fun b o e => by simp only [opRB, e] at hb; exact box_of hb) (fun k m i q s e => by simp only [opRF, e] at hf; exact fam_of hf (by simp)) hu
      exact ⟨h', by simp only [evalOp, gx, this], DoB_keep rfl rfl, DoF_keep rfl rfl⟩
    · cases he
  case ldb b n x =>
    have gx := get_congr (x := x) fun t ht => hs t (by simp [ROp.slots, ht])
    cases hx : get fr x
    case ep => simp only [evalOp, hx] at he; cases he
    all_goals
      simp only [evalOp, hx] at he
      split at he
      · rename_i u hu
        cases he
        have := loadA_foot (h' := h') (fun b o e => by simp only [opRB, hx, e] at hb; exact box_of hb) (fun k m i q s e => by cases e) hu
        exact ⟨h', by simp only [evalOp, gx, hx, this], DoB_keep rfl rfl, DoF_keep rfl rfl⟩
      · cases he
  case st n a x =>
    have ga := get_congr (x := a) fun t ht => hs t (by simp [ROp.slots, ht])
    have gx := get_congr (x := x) fun t ht => hs t (by simp [ROp.slots, ht])
    by_cases hcl : c.lay = true
    · exact kind (fun _ => by simp only [opRB, hcl, if_true]) (fun _ => by simp only [opRF, hcl, if_true])
    have hcl : c.lay = false := by simpa using hcl
    have hcl' : ∀ {α : Type} (a b : α), (if c.lay = true then a else b) = b := fun a b => by rw [hcl]; rfl
    cases ha : get fr a
    case ptr b off =>
      simp only [opRB, hcl', ha] at hb
      have hbb := box_of hb
      simp only [evalOp, layS, hcl', ha, storeA] at he
      cases hc : h.boxes[b]? with
      | none => simp only [hc] at he; cases he
      | some cs =>
        rw [hc] at hbb
        simp only [hc] at he
        by_cases hq : isMB cs = false ∧ (get fr x).isTup = false ∧ (get fr x).cells.length = n ∧ off + n ≤ cs.length
        · rw [if_pos hq] at he
          cases he
          exact ⟨{ h' with boxes := h'.boxes.set b (splice cs off (get fr x).cells) }, by simp only [evalOp, layS, hcl', ga, gx, ha, storeA, hbb, if_pos hq], DoB_set rfl rfl hc hbb, DoF_keep rfl rfl⟩
        · rw [if_neg hq] at he
          cases hst : stT h b n off (get fr x) cs with
          | none => rw [hst] at he; cases he
          | some h2 =>
            rw [hst] at he
            cases he
            unfold stT at hst
            split at hst
            · rename_i t ys
              split at hst
              · rename_i hq2
                cases hst
                exact ⟨{ h' with boxes := h'.boxes.set b [.tbox t (splice ys off (get fr x).cells)] }, by simp only [evalOp, layS, hcl', ga, gx, ha, storeA, hbb, if_neg hq, stT, if_pos hq2], DoB_set rfl rfl hc hbb, DoF_keep rfl rfl⟩
              · cases hst
            · cases hst
    all_goals exact kind (fun _ => by simp only [opRB, hcl', ha]) (fun _ => by simp only [opRF, hcl', ha])
  case stb n a x =>
    have ga := get_congr (x := a) fun t ht => hs t (by simp [ROp.slots, ht])
    have gx := get_congr (x := x) fun t ht => hs t (by simp [ROp.slots, ht])
    cases ha : get fr a
    case ptr b off =>
      simp only [opRB, ha] at hb
      have hbb := box_of hb
      simp only [evalOp, ha, stbA] at he
      cases hc : h.boxes[b]? with
      | none => simp only [hc] at he; cases he
      | some cs =>
        rw [hc] at hbb
        simp only [hc] at he
        by_cases hq : isMB cs = false ∧ (get fr x).isTup = false ∧ (get fr x).cells.length = n ∧ off + n ≤ cs.length
        · rw [if_pos hq] at he
          cases he
          exact ⟨{ h' with boxes := h'.boxes.set b (splice cs off (get fr x).cells) }, by simp only [evalOp, ga, gx, ha, stbA, hbb, if_pos hq], DoB_set rfl rfl hc hbb, DoF_keep rfl rfl⟩
        · rw [if_neg hq] at he
          cases hst : stT h b n off (get fr x) cs with
          | none => rw [hst] at he; cases he
          | some h2 =>
            rw [hst] at he
            cases he
            unfold stT at hst
            split at hst
            · rename_i t ys
              split at hst
              · rename_i hq2
                cases hst
                exact ⟨{ h' with boxes := h'.boxes.set b [.tbox t (splice ys off (get fr x).cells)] }, by simp only [evalOp, ga, gx, ha, stbA, hbb, if_neg hq, stT, if_pos hq2, Option.map_some], DoB_set rfl rfl hc hbb, DoF_keep rfl rfl⟩
              · cases hst
            · cases hst
    all_goals exact kind (fun _ => by simp only [opRB, ha]) (fun q => by simp [ROp.looksF] at q)
  case ste n a x =>
    have ga := get_congr (x := a) fun t ht => hs t (by simp [ROp.slots, ht])
    have gx := get_congr (x := x) fun t ht => hs t (by simp [ROp.slots, ht])
    cases ha : get fr a
    case ep k m i q sz =>
      simp only [opRF, ha] at hf
      have hff := fam_of (k := k) hf (by simp)
      simp only [evalOp, ha, steA] at he
      split at he
      · rename_i hx
        split at he
        · rename_i h2 hst
          cases he
          unfold storeE at hst
          cases hc : h.fams[k]? with
          | none => simp only [hc] at hst; cases hst
          | some f =>
            rw [hc] at hff
            simp only [hc, flat_frz h false hx] at hst
            split at hst
            · rename_i hq
              split at hst
              · rename_i y u hy hu
                obtain rfl : get fr x = u := by simpa using hu
                split at hst
                · rename_i hl
                  rw [Option.map_eq_some_iff] at hst
                  obtain ⟨z, hz, rfl⟩ := hst
                  refine ⟨{ h' with fams := h'.fams.set k { f with xs := f.xs.set i z } }, ?_, DoB_keep rfl rfl, DoF_set rfl rfl hc hff⟩
                  simp only [evalOp, ga, gx, ha, steA, if_pos hx, storeE, hff, if_pos hq, hy, flat_frz h' false hx, if_pos hl, hz, Option.map_some]
                · cases hst
              · cases hst
            · cases hst
        · cases he
      · cases he
    all_goals exact kind (fun q => by simp [ROp.looksB] at q) (fun _ => by simp only [opRF, ha])
  case box x =>
    have gx := get_congr (x := x) fun t ht => hs t (by simp [ROp.slots, ht])
    have hl := len_of hb
    simp only [evalOp] at he
    split at he
    · cases he
    · rename_i hq
      cases he
      exact ⟨{ h' with boxes := h'.boxes ++ [(get fr x).cells] }, by simp only [evalOp, gx, if_neg hq, hl], DoB_app rfl rfl hl, DoF_keep rfl rfl⟩
  case alloc z =>
    have hl := len_of hb
    simp only [evalOp] at he
    cases he
    exact ⟨{ h' with boxes := h'.boxes ++ [z.cells] }, by simp only [evalOp, hl], DoB_app rfl rfl hl, DoF_keep rfl rfl⟩
  case allocAt n z =>
    have hl : h'.boxes.length = h.boxes.length := by have := hb none (by simp [opRB]); simpa [cB] using this
    have hbb : h'.boxes[h.boxes.length - n]? = h.boxes[h.boxes.length - n]? := by have := hb (some (h.boxes.length - n)) (by simp [opRB]); simpa [cB] using this
    simp only [evalOp, allocAtA] at he
    split at he
    · rename_i cs hcs
      split at he
      · rename_i hc
        cases he
        rw [hcs] at hbb
        exact ⟨{ h' with boxes := h'.boxes.set (h.boxes.length - n) z.cells }, by simp only [evalOp, allocAtA, hl, hbb, if_pos hc], DoB_set rfl rfl hcs hbb, DoF_keep rfl rfl⟩
      · cases he
    · cases he
  case mkmap =>
    have hl := len_of hb
    simp only [evalOp] at he
    cases he
    exact ⟨{ h' with boxes := h'.boxes ++ [[.mbox [] []]] }, by simp only [evalOp, hl], DoB_app rfl rfl hl, DoF_keep rfl rfl⟩
  case mkb z b l q =>
    have gl := get_congr (x := l) fun t ht => hs t (by simp [ROp.slots, ht])
    have gq := get_congr (x := q) fun t ht => hs t (by simp [ROp.slots, ht])
    have hl := len_of hb
    simp only [evalOp, mkbA] at he
    split at he
    · rename_i _ _ k1 a1 k2 b1 e1 e2
      split at he
      · rename_i hq
        cases he
        exact ⟨{ h' with boxes := h'.boxes ++ [(List.replicate a1.toNat z.cells).flatten] }, by simp only [evalOp, mkbA, gl, gq, e1, e2, if_pos hq, hl], DoB_app rfl rfl hl, DoF_keep rfl rfl⟩
      · cases he
    · cases he
  case call f aas =>
    by_cases hq : (!c.raw f && (aas.map (get fr)).all flatA) = true
    · simp only [Bool.and_eq_true, Bool.not_eq_true'] at hq
      have ea : aas.map (get fr') = aas.map (get fr) := gets_congr (xs := aas) fun t ht => hs t (by simpa [ROp.slots] using ht)
      simp only [evalOp, callA, hq.1, Bool.false_eq_true, if_false] at he
      rw [flat_frzAll h true hq.2] at he
      simp only at he
      split at he
      · cases he
      · rename_i r hr
        split at he
        · rename_i hc
          cases he
          refine ⟨h', ?_, DoB_keep rfl rfl, DoF_keep rfl rfl⟩
          rw [flat_tames hq.2 h h'] at hc
          simp only [evalOp, callA, hq.1, Bool.false_eq_true, if_false, ea]
          rw [flat_frzAll h' true hq.2]
          simp only [hr, if_pos hc]
        · cases he
    · exact kind (fun _ => by simp only [opRB, if_neg hq]) (fun _ => by simp only [opRF, if_neg hq])
  case bslice n z ps =>
    by_cases hq : ps.all (fun p => flatA (get fr p.2)) = true
    · simp only [evalOp] at he
      have e2 := sliceParts_congr (h := h') (xs := List.replicate n z) (ps := ps) fun t ht => hs t (by simpa [ROp.slots] using ht)
      rw [sliceParts_flat h h' hq] at e2
      split at he
      · rename_i xs hx
        cases he
        exact ⟨h', by simp only [evalOp, e2, hx], DoB_keep rfl rfl, DoF_keep rfl rfl⟩
      · cases he
    · exact kind (fun _ => by simp only [opRB, if_neg hq]) (fun _ => by simp only [opRF, if_neg hq])
  case app sz b s x =>
    have gs := get_congr (x := s) fun t ht => hs t (by simp [ROp.slots, ht])
    have gx := get_congr (x := x) fun t ht => hs t (by simp [ROp.slots, ht])
    have el : ∀ L : List (Option Nat), (∀ y ∈ L, cF h' y = cF h y) → (∀ k n off len, get fr x = .sl k n off len → some k ∈ L) → elems h' sz (get fr x) = elems h sz (get fr x) := fun L HL hk => elems_foot fun k n off len e => fam_of HL (hk k n off len e)
    have fin1 : ∀ L : List (Option Nat), (∀ y ∈ L, cF h' y = cF h y) → none ∈ L → (∀ k n off len, get fr x = .sl k n off len → some k ∈ L) → ∀ full z xs, get fr s = .vs full z xs → ∃ h1', evalOp O c (.app sz b s x) fr' h' = some (v, h1') ∧ DoB h h1 h' h1' ∧ DoF h h1 h' h1' := by
      intro L HL hn hk full z xs e
      have hl := flen_of HL hn
      simp only [evalOp, e, appendA, appendY] at he
      simp only [evalOp, gs, gx, e, appendA, appendY, el L HL hk]
      cases hel : elems h sz (get fr x) with
      | none => simp only [hel] at he; cases he
      | some ys =>
        simp only [hel] at he ⊢
        cases full with
        | false => cases he
        | true =>
          simp only at he ⊢
          split at he
          · rename_i hq
            cases he
            exact ⟨h', by rw [if_pos hq], DoB_keep rfl rfl, DoF_keep rfl rfl⟩
          · rename_i hq
            split at he
            · rename_i hq2
              cases he
              exact ⟨{ h' with fams := h'.fams ++ [⟨xs ++ ys, sz, c.mutApp⟩] }, by rw [if_neg hq, if_pos hq2, hl], DoB_keep rfl rfl, DoF_app rfl rfl hl⟩
            · cases he
    have fin2 : ∀ L : List (Option Nat), (∀ y ∈ L, cF h' y = cF h y) → (∀ k n off len, get fr x = .sl k n off len → some k ∈ L) → ∀ k n off len, get fr s = .sl k n off len → some k ∈ L → ∃ h1', evalOp O c (.app sz b s x) fr' h' = some (v, h1') ∧ DoB h h1 h' h1' ∧ DoF h h1 h' h1' := by
      intro L HL hk k n off len e hkL
      have hff := fam_of HL hkL
      simp only [evalOp, e, appendA, appendY] at he
      simp only [evalOp, gs, gx, e, appendA, appendY, el L HL hk]
      cases hel : elems h sz (get fr x) with
      | none => simp only [hel] at he; cases he
      | some ys =>
        simp only [hel] at he ⊢
        cases hc : h.fams[k]? with
        | none => simp only [hc] at he; cases he
        | some f =>
          rw [hc] at hff
          simp only [hc, hff] at he ⊢
          split at he
          · rename_i hq
            cases he
            exact ⟨{ h' with fams := h'.fams.set k { f with xs := f.xs ++ ys } }, by rw [if_pos hq], DoB_keep rfl rfl, DoF_set rfl rfl hc hff⟩
          · rename_i hq
            split at he
            · rename_i hq2
              cases he
              exact ⟨{ h' with fams := h'.fams.set k { f with xs := f.xs.take (off + len) ++ ys ++ f.xs.drop (off + len + ys.length) } }, by rw [if_neg hq, if_pos hq2], DoB_keep rfl rfl, DoF_set rfl rfl hc hff⟩
            · cases he
    cases h1s : get fr s
    case vs full z xs =>
      cases h1x : get fr x
      case vs => simp only [opRF, h1s, h1x] at hf; exact fin1 _ hf (by simp) (fun k n off len e => by rw [h1x] at e; cases e) _ _ _ h1s
      case sl k n off len => simp only [opRF, h1s, h1x] at hf; exact fin1 _ hf (by simp) (fun k n off len e => by rw [h1x] at e; cases e; simp) _ _ _ h1s
      all_goals exact kind (fun q => by simp [ROp.looksB] at q) (fun _ => by simp only [opRF, h1s, h1x])
    case sl k0 n0 off0 len0 =>
      cases h1x : get fr x
      case vs => simp only [opRF, h1s, h1x] at hf; exact fin2 _ hf (fun k n off len e => by rw [h1x] at e; cases e) _ _ _ _ h1s (by simp)
      case sl k n off len => simp only [opRF, h1s, h1x] at hf; exact fin2 _ hf (fun k n off len e => by rw [h1x] at e; cases e; simp) _ _ _ _ h1s (by simp)
      all_goals exact kind (fun q => by simp [ROp.looksB] at q) (fun _ => by simp only [opRF, h1s, h1x])
    all_goals exact kind (fun q => by simp [ROp.looksB] at q) (fun _ => by simp only [opRF, h1s])
  case slc sz x lo hi mx =>
    have gx := get_congr (x := x) fun t ht => hs t (by simp [ROp.slots, ht])
    have g1 := bound_congr (x := lo) fun t ht => hs t (by simp [ROp.slots, ht])
    have g2 := bound_congr (x := hi) fun t ht => hs t (by simp [ROp.slots, ht])
    have g3 := bound_congr (x := mx) fun t ht => hs t (by simp [ROp.slots, ht])
    have key : (∀ k n off len, get fr x = .sl k n off len → h'.fams[k]? = h.fams[k]?) → ∀ l u m, sliceA h' sz (get fr x) l u m = sliceA h sz (get fr x) l u m := fun hk l u m => by
      cases hx : get fr x <;> try rfl
      rename_i k n off len
      simp only [sliceA, hk k n off len hx]
    have fin : (∀ k n off len, get fr x = .sl k n off len → h'.fams[k]? = h.fams[k]?) → ∃ h1', evalOp O c (.slc sz x lo hi mx) fr' h' = some (v, h1') ∧ DoB h h1 h' h1' ∧ DoF h h1 h' h1' := fun hk => by
      simp only [evalOp] at he
      split at he
      · rename_i l u m e1 e2 e3
        split at he
        · rename_i w hw
          cases he
          exact ⟨h', by simp only [evalOp, gx, g1, g2, g3, e1, e2, e3, key hk, hw], DoB_keep rfl rfl, DoF_keep rfl rfl⟩
        · cases he
      · cases he
    cases hx : get fr x
    case sl k n off len =>
      refine fin fun k' n' off' len' e => ?_
      rw [hx] at e
      cases e
      simp only [opRF, hx] at hf
      exact fam_of hf (by simp)
    all_goals exact fin fun k' n' off' len' e => by rw [hx] at e; cases e
  case mkslice z b l q =>
    have gl := get_congr (x := l) fun t ht => hs t (by simp [ROp.slots, ht])
    have gq := get_congr (x := q) fun t ht => hs t (by simp [ROp.slots, ht])
    have hl := flen_of (h := h) (h' := h') (L := [none]) hf (by simp)
    simp only [evalOp] at he
    split at he
    · rename_i _ _ k1 a1 k2 b1 e1 e2
      split at he
      · rename_i hq
        cases he
        exact ⟨{ h' with fams := h'.fams ++ [⟨List.replicate a1.toNat z, z.cells.length, true⟩] }, by simp only [evalOp, gl, gq, e1, e2, if_pos hq, hl], DoB_keep rfl rfl, DoF_app rfl rfl hl⟩
      · cases he
    · cases he
  case clr z x =>
    have gx := get_congr (x := x) fun t ht => hs t (by simp [ROp.slots, ht])
    cases hx : get fr x
    case sl k n off len =>
      simp only [opRF, hx] at hf
      have hff := fam_of (k := k) hf (by simp)
      simp only [evalOp, hx, clrA] at he
      cases hc : h.fams[k]? with
      | none => simp only [hc] at he; cases he
      | some f =>
        rw [hc] at hff
        simp only [hc] at he
        split at he
        · rename_i hq
          cases he
          exact ⟨{ h' with fams := h'.fams.set k { f with xs := f.xs.take off ++ List.replicate len z ++ f.xs.drop (off + len) } }, by simp only [evalOp, gx, hx, clrA, hff, if_pos hq], DoB_keep rfl rfl, DoF_set rfl rfl hc hff⟩
        · cases he
    all_goals exact kind (fun q => by simp [ROp.looksB] at q) (fun _ => by simp only [opRF, hx])
  all_goals exact kind (fun q => by first | rfl | (simp [ROp.looksB] at q; done)) (fun q => by first | rfl | (simp [ROp.looksF] at q; done))
end
end Go.Abs
