/- The theorem on a statement whose order is open, ended; the two kinds of statements. -/
import Derived.Test.YtpkegmgepnhfnaaA19
namespace Go.Abs
open Go.RowKit (Below)
section
variable {P : Program} {O : Orc} {c : Ctx} {ops : Array Oper} {ros : List RO} {F : Nat → Fr} {H : Nat → AH} {V : Nat → AV}

theorem Inv.next (T : Tr (P := P) O c ops ros F H V) {listed : Array Bool} {E E' : Env} {frS : Fr} (I : Inv ops ros F H V c listed E frS) {j : Nat} {rj : RO} (hj : ros[j]? = some rj) (hnl : ¬ Lst listed j) (hdeps : ∀ i, Dep ops.toList i j → Lst listed i)
    {h1 : AH} (hE : E'.h = h1) (wB : rj.op.writesB c = true → h1.boxes = (H (j + 1)).boxes) (nB : rj.op.writesB c = false → h1.boxes = E.h.boxes) (wF : rj.op.writesF c = true → h1.fams = (H (j + 1)).fams) (nF : rj.op.writesF c = false → h1.fams = E.h.fams) :
    Inv ops ros F H V c (listed.setIfInBounds j true) E' (put frS rj.dst (V j)) := by
  have hjl := (List.getElem?_eq_some_iff.1 hj).1
  have hjs : j < listed.size := by rw [I.size, ← T.len]; exact hjl
  subst hE
  -- an operation that writes what j writes is not listed unless it comes before j
  have order : ∀ (m : Nat) (rm : RO), ros[m]? = some rm → m ≠ j → ((rm.op.writesB c = true ∧ rj.op.writesB c = true) ∨ (rm.op.writesF c = true ∧ rj.op.writesF c = true)) → Lst listed m → m < j := by
    intro m rm hm hne hw hl
    rcases Nat.lt_or_gt_of_ne hne with h | h
    · exact h
    · exfalso
      have hd : Dep ops.toList j m := Classical.byContradiction fun hn => by
        have ha := apart_of T.pairs h hj hm hn
        rcases hw with ⟨w1, w2⟩ | ⟨w1, w2⟩
        · have := ha.2.2.1 w2; rw [writes_looksB _ w1] at this; cases this
        · have := ha.2.2.2.2.1 w2; rw [writes_looksF _ w1] at this; cases this
      exact hnl (I.closed m hl j hd)
  refine ⟨by simpa using I.size, fun i hi k hk => ?_, by rw [put_len]; exact I.flen, fun i t ro hi hl hd ht => ?_, fun t hn => ?_, fun k hk hm => ?_, fun k hk hm => ?_⟩
  · rw [Lst_set hjs] at hi ⊢
    rcases hi with rfl | hi
    · exact .inr (hdeps k hk)
    · exact .inr (I.closed i hi k hk)
  · rw [Lst_set hjs] at hl
    by_cases hij : i = j
    · subst hij
      rw [hi] at hj
      have : ro = rj := by simpa using hj
      subst this
      rw [hd]
      exact put_getD_same (by rw [I.flen]; exact ht)
    · have hl' : Lst listed i := hl.resolve_left hij
      have hne : rj.dst ≠ some t := by
        rcases Nat.lt_or_gt_of_ne hij with h | h
        · exact (pair_of T.pairs h hi hj).2 t hd
        · exact fun hd' => (pair_of T.pairs h hj hi).2 t hd' hd
      rw [put_getD_other hne]
      exact I.wrote i t ro hi hl' hd ht
  · have h1 : rj.dst ≠ some t := hn j rj hj ((Lst_set hjs).2 (.inl rfl))
    rw [put_getD_other h1]
    exact I.kept t fun i ro hi hl => hn i ro hi ((Lst_set hjs).2 (.inr hl))
  · by_cases hw : rj.op.writesB c = true
    · rw [wB hw]
      have hjk : j < k := (hm j rj hj hw).1 ((Lst_set hjs).2 (.inl rfl))
      refine (T.boxes k hk (by omega) fun m rm h1 h2 hmr => ?_).symm
      cases hwm : rm.op.writesB c with
      | false => rfl
      | true =>
        have := (hm m rm hmr hwm).2 h2
        rw [Lst_set hjs] at this
        rcases this with h | h
        · omega
        · have := order m rm hmr (by omega) (.inl ⟨hwm, hw⟩) h
          omega
    · have hw' : rj.op.writesB c = false := by simpa using hw
      rw [nB hw']
      refine I.boxes k hk fun m rm hmr hwm => ?_
      rw [← hm m rm hmr hwm, Lst_set hjs]
      refine ⟨.inr, fun h => h.resolve_left fun e => ?_⟩
      subst e
      rw [hmr] at hj
      have : rm = rj := by simpa using hj
      subst this
      rw [hwm] at hw'; cases hw'
  · by_cases hw : rj.op.writesF c = true
    · rw [wF hw]
      have hjk : j < k := (hm j rj hj hw).1 ((Lst_set hjs).2 (.inl rfl))
      refine (T.fams k hk (by omega) fun m rm h1 h2 hmr => ?_).symm
      cases hwm : rm.op.writesF c with
      | false => rfl
      | true =>
        have := (hm m rm hmr hwm).2 h2
        rw [Lst_set hjs] at this
        rcases this with h | h
        · omega
        · have := order m rm hmr (by omega) (.inr ⟨hwm, hw⟩) h
          omega
    · have hw' : rj.op.writesF c = false := by simpa using hw
      rw [nF hw']
      refine I.fams k hk fun m rm hmr hwm => ?_
      rw [← hm m rm hmr hwm, Lst_set hjs]
      refine ⟨.inr, fun h => h.resolve_left fun e => ?_⟩
      subst e
      rw [hmr] at hj
      have : rm = rj := by simpa using hj
      subst this
      rw [hwm] at hw'; cases hw'

/-- How many operations are still to come. -/
def left (n : Nat) (listed : Array Bool) : Nat := ((List.range n).filter fun i => !listed.getD i false).length

theorem left_zero {n : Nat} {listed : Array Bool} (h : left n listed = 0) {i : Nat} (hi : i < n) : Lst listed i := by
  unfold left at h
  have h1 := List.eq_nil_of_length_eq_zero h
  rw [List.filter_eq_nil_iff] at h1
  have := h1 i (List.mem_range.2 hi)
  simpa [Lst] using this

theorem left_set {n j : Nat} {listed : Array Bool} (hj : j < n) (hs : listed.size = n) (hnl : ¬ Lst listed j) : left n (listed.setIfInBounds j true) + 1 = left n listed := by
  unfold left
  have h1 : ((List.range n).filter fun i => !(listed.setIfInBounds j true).getD i false) = ((List.range n).filter fun i => !listed.getD i false).erase j := by
    rw [List.Nodup.erase_eq_filter (List.Pairwise.filter _ List.nodup_range), List.filter_filter]
    refine List.filter_congr fun i _ => ?_
    by_cases h : i = j
    · subst h
      simp [Array.getD_eq_getD_getElem?, show i < listed.size by omega]
    · simp [Array.getD_eq_getD_getElem?, Array.getElem?_setIfInBounds_ne (Ne.symm h), h]
  have hmem : j ∈ (List.range n).filter fun i => !listed.getD i false := by
    rw [List.mem_filter]
    exact ⟨List.mem_range.2 hj, by simpa [Lst] using hnl⟩
  rw [h1, List.length_erase_of_mem hmem]
  have : 0 < ((List.range n).filter fun i => !listed.getD i false).length := List.length_pos_of_mem hmem
  omega

theorem all_listed (T : Tr (P := P) O c ops ros F H V) {listed : Array Bool} (hs : listed.size = ops.size) (hr : Region.ready .any ops listed = []) : ∀ i, i < ops.size → Lst listed i := by
  intro i
  induction i using Nat.strongRecOn with
  | _ i ih =>
    intro hi
    refine Classical.byContradiction fun hn => ?_
    have ho : ops[i]? = some ops[i] := Array.getElem?_eq_getElem hi
    have : i ∈ Region.ready .any ops listed := (ready_iff hs).2 ⟨ops[i], ho, hn, fun e he hb => by
      have := edges_lt T.edges (j := i) (o := ops[i]) (by simp) he hb
      exact ih e.on (by omega) (by omega)⟩
    rw [hr] at this
    cases this

theorem explore (hP : PureS P O) (hR : RawS P O) (T : Tr (P := P) O c ops ros F H V) {Q : Exit → Act → World → Prop} {E0 : Env} {a0 : Act}
    (hQ : ∀ a' E', Ext E0 E' → SR E' → E'.h = H ros.length → FR E' (F ros.length) a'.tmps → a'.defers = a0.defers → Q .normal a' E'.w) :
    ∀ (fuel : Nat) (listed : Array Bool) (a : Act) (E : Env) (frS : Fr), Inv ops ros F H V c listed E frS → Ext E0 E → SR E → FR E frS a.tmps → a.defers = a0.defers → left ops.size listed ≤ fuel → wpAny P .any ops Q fuel listed a E.w := by
  intro fuel
  -- at the end
  have done : ∀ (listed : Array Bool) (a : Act) (E : Env) (frS : Fr), Inv ops ros F H V c listed E frS → Ext E0 E → SR E → FR E frS a.tmps → a.defers = a0.defers → (∀ i, i < ops.size → Lst listed i) → Q .normal a E.w := by
    intro listed a E frS I hx hS hf hd hall
    have hlen := T.len
    have hb := I.boxes ros.length (Nat.le_refl _) fun m rm hm _ => by
      have := (List.getElem?_eq_some_iff.1 hm).1
      exact ⟨fun _ => this, fun _ => hall m (by omega)⟩
    have hfm := I.fams ros.length (Nat.le_refl _) fun m rm hm _ => by
      have := (List.getElem?_eq_some_iff.1 hm).1
      exact ⟨fun _ => this, fun _ => hall m (by omega)⟩
    refine hQ a E hx hS (AH_eq hb hfm) ⟨?_, fun t => ?_⟩ hd
    · rw [T.flen _ (Nat.le_refl _), ← I.flen]; exact hf.len
    · have hv := hf.val t
      have : (F ros.length).getD t undefA = frS.getD t undefA := by
        by_cases hw : ∃ (m : Nat) (rm : RO), ros[m]? = some rm ∧ rm.dst = some t
        · obtain ⟨m, rm, hm, hdm⟩ := hw
          have hml := (List.getElem?_eq_some_iff.1 hm).1
          by_cases htl : t < (F 0).length
          · rw [T.written hm hdm htl _ (Nat.le_refl _) hml, I.wrote m t rm hm (hall m (by omega)) hdm htl]
          · rw [show (F ros.length).getD t undefA = undefA from by simp [List.getD, List.getElem?_eq_none (show (F ros.length).length ≤ t by rw [T.flen _ (Nat.le_refl _)]; omega)],
              show frS.getD t undefA = undefA from by simp [List.getD, List.getElem?_eq_none (show frS.length ≤ t by rw [I.flen]; omega)]]
        · have hw' : ∀ (i : Nat) (ro : RO), ros[i]? = some ro → ro.dst ≠ some t := fun i ro hi hd => hw ⟨i, ro, hi, hd⟩
          rw [I.kept t fun i ro hi _ => hw' i ro hi, T.ghost _ (Nat.le_refl _) fun i ro _ hi => hw' i ro hi]
      rw [this]; exact hv
  induction fuel with
  | zero =>
    intro listed a E frS I hx hS hf hd hl
    have hall : ∀ i, i < ops.size → Lst listed i := fun i hi => left_zero (by omega) hi
    refine ⟨?_, done listed a E frS I hx hS hf hd hall⟩
    apply List.eq_nil_iff_forall_not_mem.2
    intro j hj
    obtain ⟨o, ho, hn, _⟩ := (ready_iff I.size).1 hj
    exact hn (hall j (Array.getElem?_eq_some_iff.1 ho).1)
  | succ fuel ih =>
    intro listed a E frS I hx hS hf hd hl
    refine ⟨fun hr => done listed a E frS I hx hS hf hd (all_listed T I.size hr), fun j hj => ?_⟩
    obtain ⟨o, ho, hnl, hedges⟩ := (ready_iff I.size).1 hj
    have hjl := (Array.getElem?_eq_some_iff.1 ho).1
    obtain ⟨rj, hjr⟩ : ∃ rj, ros[j]? = some rj := ⟨_, List.getElem?_eq_getElem (show j < ros.length by rw [T.len]; exact hjl)⟩
    have hdeps : ∀ i, Dep ops.toList i j → Lst listed i := by
      intro i hi
      obtain ⟨o', e, ho', he, hb, h1⟩ := dep_edge hi
      have : o' = o := by rw [Array.getElem?_toList, ho] at ho'; simpa using ho'.symm
      subst this
      have hle := hedges e he hb
      rcases h1 with h1 | h1
      · rw [← h1]; exact hle
      · exact I.closed _ hle i h1
    obtain ⟨v1, v2, v3⟩ := I.view T hjr hnl hdeps
    obtain ⟨hst, hput⟩ := T.step j _ hjr
    obtain ⟨h1, e1, e2, e3, e4, e5⟩ := step_congr v1 v2 v3 hst
    have hrel := T.rel j o _ ho hjr
    have hw := step_wp (Q := Q) hP hR hS hf hrel e1 (K := wpAny P .any ops Q fuel (listed.setIfInBounds j true)) (fun u E' hx' hS' he hv => by
      refine ih _ _ E' (put frS rj.dst (V j)) (I.next T hjr hnl hdeps he e2 e3 e4 e5) (hx.trans hx') hS' ?_ ?_ ?_
      · rw [hrel.dst]; exact FR.put (FR.ext hx' hf) o.dst hv
      · rw [← hd]; cases o.dst <;> rfl
      · have := left_set hjl I.size hnl
        omega)
    unfold wpOp
    simp only [ho]
    split
    · rename_i h; rw [if_pos h] at hw; exact .inl hw
    · rename_i h; rw [if_neg h] at hw; exact hw

/-- A statement, of whichever kind. -/
theorem region_sound (hP : PureS P O) (hR : RawS P O) (hm : P.follows .mixedOrders = true) {id : Nat} {draw draw' : Bool} {ros : List RO} (hr : resCode P c (.region id ops draw) = some (.region draw' ros)) {Q : Exit → Act → World → Prop} {E : Env} {fr fr' : Fr} {a : Act} {h' : AH}
    (hS : SR E) (hf : FR E fr a.tmps) (hev : evalOps O c ros fr E.h = some (fr', h'))
    (hQ : ∀ a' E', Ext E E' → SR E' → E'.h = h' → FR E' fr' a'.tmps → a'.defers = a.defers → Q .normal a' E'.w) : (Code.region id ops draw).wp P Q a E.w := by
  simp only [resCode] at hr
  split at hr
  · rename_i ros0 h0
    obtain ⟨hl0, hg0⟩ := mapO_spec h0
    have rel0 : ∀ (i : Nat) (o : Oper) (ro : RO), ops.toList[i]? = some o → ros0[i]? = some ro → resRO P ops.toList o = some ro := by
      intro i o ro ho hro
      obtain ⟨y, hy, hy'⟩ := hg0 i o ho
      rw [hro] at hy'
      have : ro = y := by simpa using hy'
      subst this; exact hy
    have drawn : ∀ (ros : List RO), ros.length = ops.size → (∀ (i : Nat) (o : Oper) (ro : RO), ops[i]? = some o → ros[i]? = some ro → RORel P ops.toList o ro) → orderOk c ops.toList ros = true → evalOps O c ros fr E.h = some (fr', h') → (Code.region id ops true).wp P Q a E.w := by
      intro ros hl hrel hok hev
      unfold orderOk at hok
      simp only [Bool.and_eq_true] at hok
      obtain ⟨F, H, V, f0, f1, f2, f3, f4⟩ := trace_of hev
      have T : Tr (P := P) O c ops ros F H V := ⟨hl, hrel, hok.1, hok.2, f4⟩
      refine wp_region_any hm ?_
      have hb : Below E.w.heap.size E.w E.w.drew := drew_below _
      have hx := grow_ext hS hb
      refine explore hP hR T (Q := Q) (E0 := { E with w := E.w.drew }) (a0 := a) (fun a' E' h1 h2 h3 h4 h5 => ?_) ops.size (Array.replicate ops.size false) a { E with w := E.w.drew } fr ?_ (Ext.refl _) (grow_SR hS hb) (FR.ext hx hf) rfl ?_
      · exact hQ a' E' (hx.trans h1) h2 (by rw [h3, f3]) (by rw [← f2]; exact h4) h5
      · have hno : ∀ i, ¬ Lst (Array.replicate ops.size false) i := by
          intro i h
          unfold Lst at h
          rw [Array.getD_eq_getD_getElem?, Array.getElem?_replicate] at h
          split at h <;> simp at h
        refine ⟨by simp, fun j hj => absurd hj (hno j), by rw [f0], fun i t ro _ hl => absurd hl (hno i), fun t _ => by rw [f0], fun k hk hm => ?_, fun k hk hm => ?_⟩
        · have hb := T.boxes (i := 0) k hk (Nat.zero_le _) fun m rm _ h2 hmr => by
            cases hw : rm.op.writesB c with
            | false => rfl
            | true => exact absurd ((hm m rm hmr hw).2 h2) (hno m)
          rw [hb, f1]
        · have hb := T.fams (i := 0) k hk (Nat.zero_le _) fun m rm _ h2 hmr => by
            cases hw : rm.op.writesF c with
            | false => rfl
            | true => exact absurd ((hm m rm hmr hw).2 h2) (hno m)
          rw [hb, f1]
      · unfold left
        refine Nat.le_trans (List.length_filter_le _ _) ?_
        simp
    split at hr
    · rename_i hc
      simp only [Option.some.injEq, RCode.region.injEq] at hr
      obtain ⟨rfl, rfl⟩ := hr
      cases draw with
      | false =>
        refine wp_region_list ?_
        exact ops_text hP hR ops.toList ros0 hl0 (fun i o ro h1 h2 => resRO_rel (rel0 i o ro h1 h2)) E fr a fr' h' hS hf hev hQ
      | true =>
        exact drawn ros0 (by simpa using hl0) (fun i o ro h1 h2 => resRO_rel (rel0 i o ro (by simpa using h1) h2)) (by simpa using hc) hev
    · rename_i hc
      split at hr
      · rename_i hok
        simp only [Option.some.injEq, RCode.region.injEq] at hr
        obtain ⟨_, rfl⟩ := hr
        have hd : draw = true := by
          cases draw with
          | true => rfl
          | false => simp at hc
        subst hd
        refine drawn (ros0.map RO.lax) (by simpa using hl0) (fun i o ro h1 h2 => ?_) hok hev
        rw [List.getElem?_map] at h2
        cases hro : ros0[i]? with
        | none => rw [hro] at h2; cases h2
        | some ro0 =>
          rw [hro] at h2
          have : ro0.lax = ro := by simpa using h2
          subst this
          exact RORel.lax (rel0 i o ro0 (by simpa using h1) hro)
      · cases hr
  · cases hr

end
end Go.Abs
