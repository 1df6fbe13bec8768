/- A part of the proof. -/
import Derived.Test.YthcbgdmeacaglaaGreatDoorTE7
import Derived.Orders
set_option linter.all false
namespace Go.Abs
section
variable {O : Orc} {c : Ctx}
theorem get_congr {fr fr' : Fr} {x : Opd} (h : ∀ t ∈ x.slots, fr'.getD t undefA = fr.getD t undefA) : get fr' x = get fr x := by
  cases x with
  | t n => exact h n (by simp [Opd.slots])
  | c v => rfl
theorem gets_congr {fr fr' : Fr} {xs : List Opd} (h : ∀ t ∈ xs.flatMap Opd.slots, fr'.getD t undefA = fr.getD t undefA) : xs.map (get fr') = xs.map (get fr) :=
  List.map_congr_left fun x hx => get_congr fun t ht => h t (List.mem_flatMap.2 ⟨x, hx, ht⟩)
theorem buildParts_congr {fr fr' : Fr} {n : Nat} : ∀ {ps : List (Nat × Nat × Opd)}, (∀ t ∈ ps.flatMap (fun p => p.2.2.slots), fr'.getD t undefA = fr.getD t undefA) → buildParts fr' n ps = buildParts fr n ps
  | [], _ => rfl
  | (off, k, x) :: ps, h => by
    have hx : get fr' x = get fr x := get_congr fun t ht => h t (by simp [ht])
    have hr := buildParts_congr (n := n) (ps := ps) fun t ht => h t (by simp only [List.flatMap_cons, List.mem_append]; exact .inr ht)
    simp only [buildParts, hx, hr]
theorem elems_fams {h h' : AH} (he : h'.fams = h.fams) (sz : Nat) (x : AV) : elems h' sz x = elems h sz x := by cases x <;> simp only [elems, he]
theorem sliceParts_congr {fr fr' : Fr} {h : AH} : ∀ {ps : List (Nat × Opd)} {xs : List AV}, (∀ t ∈ ps.flatMap (fun p => p.2.slots), fr'.getD t undefA = fr.getD t undefA) → sliceParts fr' h xs ps = sliceParts fr h xs ps
  | [], xs, _ => rfl
  | (i, x) :: ps, xs, hh => by
    have hx : get fr' x = get fr x := get_congr fun t ht => hh t (by simp [ht])
    simp only [sliceParts, hx]
    split
    · split
      · exact sliceParts_congr fun t ht => hh t (by simp only [List.flatMap_cons, List.mem_append]; exact .inr ht)
      · rfl
    · rfl
theorem sliceParts_flat {fr : Fr} (h h' : AH) : ∀ {ps : List (Nat × Opd)} {xs : List AV}, ps.all (fun p => flatA (get fr p.2)) = true → sliceParts fr h' xs ps = sliceParts fr h xs ps
  | [], xs, _ => rfl
  | (i, x) :: ps, xs, hp => by
    simp only [List.all_cons, Bool.and_eq_true] at hp
    simp only [sliceParts, flat_frz h false hp.1, flat_frz h' false hp.1]
    split
    · split
      · exact sliceParts_flat h h' hp.2
      · rfl
    · rfl
theorem flats_congr {fr fr' : Fr} : ∀ {ps : List (Nat × Opd)}, (∀ t ∈ ps.flatMap (fun p => p.2.slots), fr'.getD t undefA = fr.getD t undefA) → ps.all (fun p => flatA (get fr' p.2)) = ps.all (fun p => flatA (get fr p.2))
  | [], _ => rfl
  | (i, x) :: ps, hh => by
    have hx : get fr' x = get fr x := get_congr fun t ht => hh t (by simp [ht])
    simp only [List.all_cons, hx]
    rw [flats_congr (ps := ps) fun t ht => hh t (by simp only [List.flatMap_cons, List.mem_append]; exact .inr ht)]
theorem mapEnts_boxes {h h' : AH} (hb : h'.boxes = h.boxes) (x : AV) : mapEnts h' x = mapEnts h x := by cases x <;> simp only [mapEnts, hb]
theorem bound_congr {fr fr' : Fr} {x : Option Opd} (h : ∀ t ∈ optSlots x, fr'.getD t undefA = fr.getD t undefA) : boundA fr' x = boundA fr x := by
  cases x with
  | none => rfl
  | some x => simp only [boundA, get_congr (x := x) h]
theorem sliceA_fams {h h' : AH} (he : h'.fams = h.fams) (sz : Nat) (x : AV) (l u m : Option Int) : sliceA h' sz x l u m = sliceA h sz x l u m := by
  unfold sliceA; rw [he]
theorem loadA_boxes {h h' : AH} (hb : h'.boxes = h.boxes) {b : Bool} {n : Nat} {x : AV} (hx : ∀ k m i q s, x ≠ .ep k m i q s) : loadA h' b n x = loadA h b n x := by
  cases x <;> simp only [loadA, hb]
  exact absurd rfl (hx _ _ _ _ _)
theorem AH_eq {h h' : AH} (hb : h'.boxes = h.boxes) (hf : h'.fams = h.fams) : h' = h := by cases h; cases h'; simp_all
theorem writes_looksB (r : ROp) : r.writesB c = true → r.looksB = true := by cases r <;> simp [ROp.writesB, ROp.looksB]
theorem writes_looksF (r : ROp) : r.writesF c = true → r.looksF = true := by cases r <;> simp [ROp.writesF, ROp.looksF]
theorem callA_heap {f : FuncId} {args : List AV} {h h1 : AH} {v : AV} (hr : c.raw f = false) (he : callA O c f args h = some (v, h1)) : h1 = h := by
  unfold callA at he
  rw [if_neg (by simp [hr])] at he
  split at he
  · cases he
  · split at he
    · cases he
    · split at he
      · cases he; rfl
      · cases he
theorem roCaps_fams : ∀ {xs : List AV} {h h' : AH} {ys : List AV}, roCaps h xs = some (ys, h') → h'.fams = h.fams
  | [], h, h', ys, he => by simp only [roCaps] at he; cases he; rfl
  | x :: xs, h, h', ys, he => by
    by_cases hp : ∃ b off, x = .ptr b off
    · obtain ⟨b, off, rfl⟩ := hp
      simp only [roCaps] at he
      split at he
      case isFalse => cases he
      split at he
      case h_2 => cases he
      split at he
      case isFalse => cases he
      simp only [Option.map_eq_some_iff] at he
      obtain ⟨⟨ys', h''⟩, hr, e⟩ := he
      cases e
      have q := roCaps_fams hr
      exact q
    · have hr : roCaps h (x :: xs) = (roCaps h xs).map fun p => (x :: p.1, p.2) := by
        cases x <;> first | rfl | exact absurd ⟨_, _, rfl⟩ hp
      rw [hr] at he
      simp only [Option.map_eq_some_iff] at he
      obtain ⟨⟨ys', h''⟩, hr, e⟩ := he
      cases e
      exact roCaps_fams hr
theorem op_heap {r : ROp} {fr : Fr} {h h1 : AH} {v : AV} (he : evalOp O c r fr h = some (v, h1)) : (r.writesB c = false → h1.boxes = h.boxes) ∧ (r.writesF c = false → h1.fams = h.fams) := by
  have same : h1 = h → (r.writesB c = false → h1.boxes = h.boxes) ∧ (r.writesF c = false → h1.fams = h.fams) := fun e => by subst e; exact ⟨fun _ => rfl, fun _ => rfl⟩
  cases r
  case st n a x => exact ⟨(fun h => nomatch h), (fun h => nomatch h)⟩
  case ste n a x =>
    refine ⟨fun _ => ?_, (fun h => nomatch h)⟩
    simp only [evalOp, steA, storeE] at he
    repeat' (split at he)
    all_goals first
      | (cases he; done)
      | (cases he
         rename_i hst
         repeat' (split at hst)
         all_goals first
           | (cases hst; done)
           | (simp only [Option.map_eq_some_iff] at hst
              obtain ⟨y, _, rfl⟩ := hst
              rfl))
  case stb n a x =>
    refine ⟨(fun h => nomatch h), fun _ => ?_⟩
    simp only [evalOp, stbA] at he
    repeat' (split at he)
    all_goals first | (cases he; done) | (cases he; rfl) | skip
    rw [Option.map_eq_some_iff] at he
    obtain ⟨y, h1, h2⟩ := he
    cases h2
    unfold stT at h1
    repeat' (split at h1)
    all_goals first | (cases h1; done) | (cases h1; rfl)
  case clr z x =>
    refine ⟨fun _ => ?_, (fun h => nomatch h)⟩
    simp only [evalOp, clrA] at he
    repeat' (split at he)
    all_goals first | (cases he; done) | (cases he; rfl)
  case callv x aas =>
    have key : c.rawv = false → h1 = h := by
      intro hr
      simp only [evalOp] at he
      split at he
      · rename_i f caps hg
        split at he
        · cases he
        · rename_i hc
          exact callA_heap (O := O) (c := c) (by simpa [hr] using hc) he
      · cases he
    exact ⟨fun hr => by rw [key hr], fun hr => by rw [key hr]⟩
  case clos f cs =>
    simp only [evalOp] at he
    split at he
    · rename_i hro
      refine ⟨fun hr => ?_, fun _ => ?_⟩
      · simp only [ROp.writesB] at hr
        rw [hr] at hro
        cases hro
      · simp only [Option.map_eq_some_iff] at he
        obtain ⟨⟨ys, h2⟩, hq, he⟩ := he
        cases he
        exact roCaps_fams hq
    · cases he
      exact ⟨fun _ => rfl, fun _ => rfl⟩
  case mkmap => simp only [evalOp] at he; cases he; exact ⟨(fun h => nomatch h), (fun _ => rfl)⟩
  case mkb z b l q =>
    refine ⟨(fun h => nomatch h), fun _ => ?_⟩
    simp only [evalOp, mkbA] at he
    repeat' (split at he)
    all_goals first | (cases he; done) | (cases he; rfl)
  case mkv z b l q =>
    refine same ?_
    simp only [evalOp, mkvA] at he
    repeat' (split at he)
    all_goals first | (cases he; done) | (cases he; rfl)
  case mlook str ok z x k =>
    refine same ?_
    simp only [evalOp, mlookA] at he
    repeat' (split at he)
    all_goals first | (cases he; done) | (cases he; rfl)
  case bstr x =>
    refine same ?_
    simp only [evalOp, bstrA] at he
    repeat' (split at he)
    all_goals first | (cases he; done) | (cases he; rfl)
  case mlookp ok z x k =>
    refine same ?_
    simp only [evalOp, mlookP] at he
    repeat' (split at he)
    all_goals first | (cases he; done) | (cases he; rfl)
  case mupp x k w =>
    refine ⟨(fun h => nomatch h), fun _ => ?_⟩
    simp only [evalOp, mupP] at he
    repeat' (split at he)
    all_goals first | (cases he; done) | (cases he; rfl)
  case mlen x =>
    refine same ?_
    simp only [evalOp] at he
    repeat' (split at he)
    all_goals first | (cases he; done) | (cases he; rfl)
  case mup str x k w =>
    refine ⟨(fun h => nomatch h), fun _ => ?_⟩
    simp only [evalOp, mupA] at he
    repeat' (split at he)
    all_goals first | (cases he; done) | (cases he; rfl)
  case box x => simp only [evalOp] at he; split at he <;> cases he; exact ⟨(fun h => nomatch h), (fun _ => rfl)⟩
  case alloc z => simp only [evalOp] at he; cases he; exact ⟨(fun h => nomatch h), (fun _ => rfl)⟩
  case allocAt n z =>
    refine ⟨(fun h => nomatch h), fun _ => ?_⟩
    simp only [evalOp, allocAtA] at he
    repeat' (split at he)
    all_goals first | (cases he; done) | (cases he; rfl)
  case mkslice z b l q =>
    simp only [evalOp] at he
    split at he
    · split at he <;> cases he
      exact ⟨fun _ => rfl, (fun h => nomatch h)⟩
    · cases he
  case apps b s x =>
    refine ⟨fun _ => ?_, fun h => nomatch h⟩
    simp only [evalOp, appsA, appendY] at he
    repeat' (split at he)
    all_goals first | (cases he; done) | (cases he; rfl)
  case app sz b s x =>
    refine ⟨fun _ => ?_, fun h => nomatch h⟩
    simp only [evalOp, appendA, appendY] at he
    repeat' (split at he)
    all_goals first | (cases he; done) | (cases he; rfl)
  case len b x =>
    refine same ?_
    cases b <;> simp only [evalOp] at he <;> split at he <;> first | (cases he; done) | (cases he; rfl)
  case call f aas =>
    refine ⟨fun hr => ?_, fun hr => by rw [callA_heap (O := O) hr he]⟩
    cases hc : c.raw f with
    | false => rw [callA_heap (O := O) hc he]
    | true =>
      simp only [ROp.writesB, hc, Bool.true_and, Bool.not_eq_false'] at hr
      simp only [evalOp, callA, hc, if_true, hr] at he
      exact kpB_boxes he
  case nileq =>
    refine same ?_
    simp only [evalOp, nqA] at he
    repeat' (split at he)
    all_goals first | (cases he; done) | (cases he; rfl)
  all_goals
    refine same ?_
    simp only [evalOp] at he
    repeat' (split at he)
    all_goals first | (cases he; done) | (cases he; rfl)
theorem storeE_fams {h h' : AH} (hf : h'.fams = h.fams) {n : Nat} {x : AV} (hx : flatA x = true) {k m i q s : Nat} : (storeE h' n x k m i q s).map AH.fams = (storeE h n x k m i q s).map AH.fams := by
  unfold storeE
  rw [flat_frz h false hx, flat_frz h' false hx, hf]
  cases h.fams[k]? with
  | none => rfl
  | some f =>
    dsimp only
    split
    · cases f.xs[i]? with
      | none => rfl
      | some y =>
        dsimp only
        split
        · cases y.reform (splice y.cells q x.cells) <;> simp [hf]
        · rfl
    · rfl
theorem steA_both {h h' : AH} (hf : h'.fams = h.fams) {n : Nat} {p x : AV} : (steA h' n p x).map (fun r => (r.1, r.2.fams)) = (steA h n p x).map (fun r => (r.1, r.2.fams)) := by
  cases p <;> try rfl
  rename_i k m i q s
  simp only [steA]
  split
  · rename_i hx
    have := storeE_fams hf (n := n) hx (k := k) (m := m) (i := i) (q := q) (s := s)
    cases h1 : storeE h' n x k m i q s with
    | none =>
      cases h2 : storeE h n x k m i q s with
      | none => rfl
      | some b => rw [h1, h2] at this; cases this
    | some a =>
      cases h2 : storeE h n x k m i q s with
      | none => rw [h1, h2] at this; cases this
      | some b =>
        rw [h1, h2] at this
        simp only [Option.map_some, Option.some.injEq] at this ⊢
        rw [this]
  · rfl
theorem stbA_both {h h' : AH} (hb : h'.boxes = h.boxes) {n : Nat} {p x : AV} : (stbA h' n p x).map (fun r => (r.1, r.2.boxes)) = (stbA h n p x).map (fun r => (r.1, r.2.boxes)) := by
  cases p <;> try rfl
  simp only [stbA, hb]
  repeat' split
  all_goals first
    | rfl
    | (unfold stT
       repeat' split
       all_goals first | rfl | simp [hb])
theorem clrA_both {h h' : AH} (hf : h'.fams = h.fams) {z x : AV} : (clrA h' z x).map (fun r => (r.1, r.2.fams)) = (clrA h z x).map (fun r => (r.1, r.2.fams)) := by
  cases x <;> try rfl
  case vs => simp only [clrA]; split <;> simp [hf]
  case sl =>
    simp only [clrA, hf]
    repeat' split
    all_goals rfl
theorem fst_of {α β : Type} {r r' : Option (α × AH)} {g : AH → β} (h : r'.map (fun x => (x.1, g x.2)) = r.map (fun x => (x.1, g x.2))) : r'.map Prod.fst = r.map Prod.fst := by
  have := congrArg (Option.map Prod.fst) h
  simpa [Option.map_map, Function.comp_def] using this
theorem steA_fst {h h' : AH} (hf : h'.fams = h.fams) {n : Nat} {p x : AV} : (steA h' n p x).map Prod.fst = (steA h n p x).map Prod.fst := fst_of (g := AH.fams) (steA_both hf)
theorem stbA_fst {h h' : AH} (hb : h'.boxes = h.boxes) {n : Nat} {p x : AV} : (stbA h' n p x).map Prod.fst = (stbA h n p x).map Prod.fst := fst_of (g := AH.boxes) (stbA_both hb)
theorem clrA_fst {h h' : AH} (hf : h'.fams = h.fams) {z x : AV} : (clrA h' z x).map Prod.fst = (clrA h z x).map Prod.fst := fst_of (g := AH.fams) (clrA_both hf)
theorem frz1_mp (h : AH) (b : Nat) : frz1 h false (.mp b) = none := by
  simp only [frz1]
  split
  · rfl
  · rfl
theorem frz1_bsl (h : AH) (b sz off len : Nat) : frz1 h false (.bsl b sz off len) = none := by
  simp only [frz1, frzB]
  split
  · rw [if_neg (by simp)]
    unfold frzT
    split
    · rw [if_neg (by simp)]
    · rfl
  · rfl
theorem frz_false {h h' : AH} (hf : h'.fams = h.fams) (x : AV) : frz h' false x = frz h false x := by
  have h1 : ∀ y : AV, frz1 h' false y = frz1 h false y := by
    intro y
    cases y
    case mp b => rw [frz1_mp, frz1_mp]
    case bsl b sz off len => rw [frz1_bsl, frz1_bsl]
    all_goals simp only [frz1, hf]
  have h2 : ∀ l : List AV, frzL h' false l = frzL h false l := by
    intro l
    induction l with
    | nil => rfl
    | cons a l ih => simp only [frzL, h1, ih]
  unfold frz
  split
  · rw [h2]
  · exact h1 _
theorem sliceParts_fams {h h' : AH} (hf : h'.fams = h.fams) {fr : Fr} : ∀ {ps : List (Nat × Opd)} {xs : List AV}, sliceParts fr h' xs ps = sliceParts fr h xs ps
  | [], xs => rfl
  | (i, x) :: ps, xs => by
    simp only [sliceParts, frz_false hf]
    split
    · split
      · exact sliceParts_fams hf
      · rfl
    · rfl
theorem box_ext {h h' : AH} {ext : List (List AV)} (hb : h'.boxes = h.boxes ++ ext) {b : Nat} {cs : List AV} (hc : h.boxes[b]? = some cs) : h'.boxes[b]? = some cs := by
  rw [hb, List.getElem?_append_left (List.getElem?_eq_some_iff.1 hc).1]
  exact hc
section
variable {h h' : AH} {ext : List (List AV)} (hb : h'.boxes = h.boxes ++ ext) (hf : h'.fams = h.fams)
include hb hf
theorem frz0_ext {am : Bool} {x y : AV} (he : frz0 h am x = some y) : frz0 h' am x = some y := by
  cases x <;> simp only [frz0, hf] at he ⊢ <;> try exact he
  split at he
  · rename_i hq
    rw [box_ext hb hq]
    exact he
  · cases he
theorem frz0L_ext {am : Bool} : ∀ {xs ys : List AV}, frz0L h am xs = some ys → frz0L h' am xs = some ys
  | [], ys, he => he
  | x :: xs, ys, he => by
    simp only [frz0L, Option.bind_eq_some_iff, Option.map_eq_some_iff] at he ⊢
    obtain ⟨y, hy, zs, hz, e⟩ := he
    exact ⟨y, frz0_ext hb hf hy, zs, frz0L_ext hz, e⟩
theorem frz1_ext {am : Bool} {x y : AV} (he : frz1 h am x = some y) : frz1 h' am x = some y := by
  by_cases hx : ∃ b sz off len, x = .bsl b sz off len
  · obtain ⟨b, sz, off, len, rfl⟩ := hx
    simp only [frz1, frzB] at he ⊢
    split at he
    · rename_i hq
      rw [box_ext hb hq]
      simp only
      split at he
      · rename_i hc
        rw [if_pos hc]
        rw [Option.map_eq_some_iff] at he ⊢
        obtain ⟨ys, hy, e⟩ := he
        exact ⟨ys, frz0L_ext hb hf hy, e⟩
      · rename_i hc
        rw [if_neg hc]
        unfold frzT at he ⊢
        split at he
        · split at he
          · rename_i hc2
            rw [if_pos hc2]
            rw [Option.map_eq_some_iff] at he ⊢
            obtain ⟨ys, hy, e⟩ := he
            exact ⟨ys, frz0L_ext hb hf hy, e⟩
          · cases he
        · cases he
    · cases he
  · rw [frz1_frz0 _ _ fun b sz off len e => hx ⟨b, sz, off, len, e⟩] at he ⊢
    exact frz0_ext hb hf he
theorem frzL_ext {am : Bool} : ∀ {xs ys : List AV}, frzL h am xs = some ys → frzL h' am xs = some ys
  | [], ys, he => he
  | x :: xs, ys, he => by
    simp only [frzL, Option.bind_eq_some_iff, Option.map_eq_some_iff] at he ⊢
    obtain ⟨y, hy, zs, hz, e⟩ := he
    exact ⟨y, frz1_ext hb hf hy, zs, frzL_ext hz, e⟩
theorem frz_ext {am : Bool} {x y : AV} (he : frz h am x = some y) : frz h' am x = some y := by
  unfold frz at he ⊢
  split at he
  · rw [Option.map_eq_some_iff] at he ⊢
    obtain ⟨ys, hy, e⟩ := he
    exact ⟨ys, frzL_ext hb hf hy, e⟩
  · exact frz1_ext hb hf he
theorem frzAll_ext {am : Bool} : ∀ {xs ys : List AV}, frzAll h am xs = some ys → frzAll h' am xs = some ys
  | [], ys, he => he
  | x :: xs, ys, he => by
    simp only [frzAll, Option.bind_eq_some_iff, Option.map_eq_some_iff] at he ⊢
    obtain ⟨y, hy, zs, hz, e⟩ := he
    exact ⟨y, frz_ext hb hf hy, zs, frzAll_ext hz, e⟩
omit hb in
theorem tame_fams (x : AV) : tame h' x = tame h x := by
  have h1 : ∀ y : AV, tame1 h' y = tame1 h y := by intro y; cases y <;> simp only [tame1, hf]
  unfold tame
  split
  · congr 1
    funext y
    exact h1 y
  · exact h1 _
end
theorem rdr_congr {r : ROp} {fr fr' : Fr} {h h' h1 : AH} {v : AV} (hr : r.rdr c = true) (hs : ∀ t ∈ r.slots, fr'.getD t undefA = fr.getD t undefA) {ext : List (List AV)} (hb : h'.boxes = h.boxes ++ ext) (hf : r.looksF = true → h'.fams = h.fams)
    (he : evalOp O c r fr h = some (v, h1)) : evalOp O c r fr' h' = some (v, h') := by
  cases r <;> simp only [ROp.rdr] at hr <;> try (cases hr; done)
  case ld b n x =>
    have hf := hf rfl
    simp only [evalOp, get_congr (x := x) fun t ht => hs t (by simp [ROp.slots, ht])] at he ⊢
    have key : ∀ w, loadA h b n (get fr x) = some w → loadA h' b n (get fr x) = some w := by
      intro w hw
      cases hx : get fr x <;> rw [hx] at hw <;> simp only [loadA, hf] at hw ⊢ <;> try exact hw
      split at hw
      · rename_i hq
        rw [box_ext hb hq]
        exact hw
      · cases hw
    split at he
    · rename_i _ w hw
      cases he
      rw [key _ hw]
    · cases he
  case ldb b n x =>
    simp only [evalOp, get_congr (x := x) fun t ht => hs t (by simp [ROp.slots, ht])] at he ⊢
    cases hx : get fr x <;> rw [hx] at he <;> simp only [loadA] at he ⊢ <;> try (cases he; done)
    case pv cs =>
      split at he
      · rename_i w hw; cases he; rfl
      · cases he
    case ptr p q =>
      split at he
      · rename_i w hw
        cases he
        split at hw
        · rename_i hq
          rw [box_ext hb hq]
          simp only
          rw [hw]
        · cases hw
      · cases he
  case bslice n z ps =>
    have hf := hf rfl
    simp only [evalOp, sliceParts_congr (h := h') (ps := ps) fun t ht => hs t (by simpa [ROp.slots] using ht), sliceParts_fams hf] at he ⊢
    split at he
    · cases he; rfl
    · cases he
  case mlook str ok z x k =>
    simp only [evalOp, mlookA, get_congr (x := x) fun t ht => hs t (by simp [ROp.slots, ht]), get_congr (x := k) fun t ht => hs t (by simp [ROp.slots, ht])] at he ⊢
    split at he
    case isFalse => cases he
    rename_i hk
    rw [if_pos hk]
    have key : ∀ p, mapEnts h (get fr x) = some p → mapEnts h' (get fr x) = some p := by
      intro p hp
      cases hx : get fr x <;> rw [hx] at hp <;> simp only [mapEnts] at hp ⊢ <;> try exact hp
      split at hp
      · rename_i hq
        rw [box_ext hb hq]
        exact hp
      · cases hp
    split at he
    · rename_i ks vs hm
      rw [key _ hm]
      simp only
      split at he
      · rename_i i h2
        split at he
        · rename_i w h3
          cases he
          simp only [h2, h3]
        · cases he
      · rename_i h2
        cases he
        simp only [h2]
      · cases he
    · cases he
  case call f aas =>
    have hf := hf rfl
    have ha : aas.map (get fr') = aas.map (get fr) := gets_congr (xs := aas) fun t ht => hs t (by simpa [ROp.slots] using ht)
    have hr' : c.raw f = false := by simpa using hr
    simp only [evalOp, ha, callA, hr', Bool.false_eq_true, if_false] at he ⊢
    split at he
    · cases he
    · rename_i ys hys
      rw [frzAll_ext hb hf hys]
      simp only
      split at he
      · cases he
      · rename_i q hq
        have et : (aas.map (get fr)).all (tame h') = (aas.map (get fr)).all (tame h) := by
          congr 1
          funext x
          exact tame_fams hf x
        rw [et]
        split at he
        · rename_i hc; cases he; rw [if_pos hc]
        · cases he
theorem apd_ext {r : ROp} {fr : Fr} {h h1 : AH} {v : AV} (hr : r.apd = true) (he : evalOp O c r fr h = some (v, h1)) : ∃ ext, h1.boxes = h.boxes ++ ext := by
  cases r <;> simp only [ROp.apd] at hr <;> try (cases hr; done)
  case box x => simp only [evalOp] at he; split at he <;> cases he; exact ⟨_, rfl⟩
  case mkmap => simp only [evalOp] at he; cases he; exact ⟨_, rfl⟩
  case alloc z => simp only [evalOp] at he; cases he; exact ⟨_, rfl⟩
  case mkb z b l q =>
    simp only [evalOp, mkbA] at he
    repeat' (split at he)
    all_goals first | (cases he; done) | (cases he; exact ⟨_, rfl⟩)
theorem rdr_writes {r : ROp} (h : r.rdr c = true) : r.writesB c = false ∧ r.writesF c = false := by
  cases r <;> simp only [ROp.rdr] at h <;> first | (cases h; done) | exact ⟨rfl, rfl⟩ | skip
  rename_i f _
  have : c.raw f = false := by simpa using h
  simp [ROp.writesB, ROp.writesF, this]
theorem appendY_both {h h' : AH} (hf : h'.fams = h.fams) (sz b : Nat) (s : AV) (ys : List AV) : (appendY c h' sz b s ys).map (fun p => (p.1, p.2.fams)) = (appendY c h sz b s ys).map (fun p => (p.1, p.2.fams)) := by
  unfold appendY
  rw [hf]
  repeat' split
  all_goals simp [hf]
theorem op_fst {r : ROp} {fr fr' : Fr} {h h' : AH} (hs : ∀ t ∈ r.slots, fr'.getD t undefA = fr.getD t undefA) (hb : r.looksB = true → h'.boxes = h.boxes) (hf : r.looksF = true → h'.fams = h.fams) (hcall : r.isCall = false) :
    ((evalOp O c r fr h).isSome = true → (evalOp O c r fr' h').map Prod.fst = (evalOp O c r fr h).map Prod.fst) := by
  intro hsome
  cases r
  case call => simp [ROp.isCall] at hcall
  case callv => simp [ROp.isCall] at hcall
  case st n a x => obtain rfl : h' = h := AH_eq (hb rfl) (hf rfl); simp only [evalOp, get_congr (x := a) fun t ht => hs t (by simp [ROp.slots, ht]), get_congr (x := x) fun t ht => hs t (by simp [ROp.slots, ht])]
  case ste n a x =>
    simp only [evalOp, get_congr (x := a) fun t ht => hs t (by simp [ROp.slots, ht]), get_congr (x := x) fun t ht => hs t (by simp [ROp.slots, ht])]
    exact steA_fst (hf rfl)
  case stb n a x =>
    simp only [evalOp, get_congr (x := a) fun t ht => hs t (by simp [ROp.slots, ht]), get_congr (x := x) fun t ht => hs t (by simp [ROp.slots, ht])]
    exact stbA_fst (hb rfl)
  case clr z x =>
    simp only [evalOp, get_congr (x := x) fun t ht => hs t (by simp [ROp.slots, ht])]
    exact clrA_fst (hf rfl)
  case ld b n x => obtain rfl : h' = h := AH_eq (hb rfl) (hf rfl); simp only [evalOp, get_congr (x := x) fun t ht => hs t (by simp [ROp.slots, ht])]
  case mov x => simp only [evalOp, get_congr (x := x) fun t ht => hs t (by simp [ROp.slots, ht])]; rfl
  case pick q x y => simp only [evalOp, get_congr (x := q) fun t ht => hs t (by simp [ROp.slots, ht]), get_congr (x := x) fun t ht => hs t (by simp [ROp.slots, ht]), get_congr (x := y) fun t ht => hs t (by simp [ROp.slots, ht])]; cases get fr q <;> rfl
  case box x => simp only [evalOp, get_congr (x := x) fun t ht => hs t (by simp [ROp.slots, ht]), hb rfl]; split <;> rfl
  case alloc z => simp only [evalOp, hb rfl]; rfl
  case allocAt n z =>
    simp only [evalOp, allocAtA, hb rfl]
    repeat' split
    all_goals rfl
  case mkmap => simp only [evalOp, hb rfl]; rfl
  case mlookp ok z x k =>
    simp only [evalOp, mlookP, get_congr (x := x) fun t ht => hs t (by simp [ROp.slots, ht]), get_congr (x := k) fun t ht => hs t (by simp [ROp.slots, ht]), mapEnts_boxes (hb rfl)]
    repeat' split
    all_goals rfl
  case mupp x k w => obtain rfl : h' = h := AH_eq (hb rfl) (hf rfl); simp only [evalOp, get_congr (x := x) fun t ht => hs t (by simp [ROp.slots, ht]), get_congr (x := k) fun t ht => hs t (by simp [ROp.slots, ht]), get_congr (x := w) fun t ht => hs t (by simp [ROp.slots, ht])]
  case mlook str ok z x k =>
    simp only [evalOp, mlookA, get_congr (x := x) fun t ht => hs t (by simp [ROp.slots, ht]), get_congr (x := k) fun t ht => hs t (by simp [ROp.slots, ht]), mapEnts_boxes (hb rfl)]
    repeat' split
    all_goals rfl
  case mup str x k w => obtain rfl : h' = h := AH_eq (hb rfl) (hf rfl); simp only [evalOp, get_congr (x := x) fun t ht => hs t (by simp [ROp.slots, ht]), get_congr (x := k) fun t ht => hs t (by simp [ROp.slots, ht]), get_congr (x := w) fun t ht => hs t (by simp [ROp.slots, ht])]
  case build z ps => simp only [evalOp, buildParts_congr (ps := ps) fun t ht => hs t (by simpa [ROp.slots] using ht)]; cases buildParts fr z.cells.length ps <;> rfl
  case bslice n z ps => obtain rfl : h' = h := AH_eq (hb rfl) (hf rfl); simp only [evalOp, sliceParts_congr (ps := ps) fun t ht => hs t (by simpa [ROp.slots] using ht)]
  case bslicev n z ps =>
    simp only [evalOp, flats_congr (ps := ps) fun t ht => hs t (by simpa [ROp.slots] using ht), sliceParts_congr (h := h') (ps := ps) fun t ht => hs t (by simpa [ROp.slots] using ht)]
    by_cases hc : (ps.all fun p => flatA (get fr p.2)) = true
    · rw [if_pos hc, if_pos hc, sliceParts_flat h h' hc]
      cases sliceParts fr h (List.replicate n z) ps <;> rfl
    · rw [if_neg hc, if_neg hc]
  case iaddrv sz x i =>
    simp only [evalOp, get_congr (x := x) fun t ht => hs t (by simp [ROp.slots, ht]), get_congr (x := i) fun t ht => hs t (by simp [ROp.slots, ht])]
    cases get fr x <;> first | rfl | (cases get fr i <;> first | rfl | (simp only []; split <;> first | rfl | (split <;> rfl)))
  case ldb b n x =>
    simp only [evalOp, get_congr (x := x) fun t ht => hs t (by simp [ROp.slots, ht])]
    cases hx : get fr x <;> simp only []
    all_goals
      rw [loadA_boxes (hb rfl) (by intro k m i q s h; cases h)]
      split <;> rfl
  case nilck x => simp only [evalOp, get_congr (x := x) fun t ht => hs t (by simp [ROp.slots, ht])]; cases get fr x <;> rfl
  case bin op x y => simp only [evalOp, get_congr (x := x) fun t ht => hs t (by simp [ROp.slots, ht]), get_congr (x := y) fun t ht => hs t (by simp [ROp.slots, ht])]; cases evalBin op (get fr x) (get fr y) <;> rfl
  case beq n x y =>
    simp only [evalOp, get_congr (x := x) fun t ht => hs t (by simp [ROp.slots, ht]), get_congr (x := y) fun t ht => hs t (by simp [ROp.slots, ht])]
    cases get fr x <;> first | rfl | (cases get fr y <;> rfl)
  case nileq n x => simp only [evalOp, get_congr (x := x) fun t ht => hs t (by simp [ROp.slots, ht])]; cases get fr x <;> first | rfl | (simp only [nqA]; split <;> rfl)
  case un op x => simp only [evalOp, get_congr (x := x) fun t ht => hs t (by simp [ROp.slots, ht])]; cases evalUn op (get fr x) <;> rfl
  case conv k x => simp only [evalOp, get_congr (x := x) fun t ht => hs t (by simp [ROp.slots, ht])]; cases get fr x <;> rfl
  case cstr x => simp only [evalOp, get_congr (x := x) fun t ht => hs t (by simp [ROp.slots, ht])]; cases get fr x <;> rfl
  case bstr x => simp only [evalOp, bstrA, get_congr (x := x) fun t ht => hs t (by simp [ROp.slots, ht]), elems_fams (hf rfl)]; cases elems h 1 (get fr x) <;> first | rfl | (simp only []; split <;> rfl)
  case clos f cs => obtain rfl : h' = h := AH_eq (hb rfl) (hf rfl); simp only [evalOp, gets_congr (xs := cs) fun t ht => hs t (by simpa [ROp.slots] using ht)]
  case mkslice z b l q =>
    simp only [evalOp, get_congr (x := l) fun t ht => hs t (by simp [ROp.slots, ht]), get_congr (x := q) fun t ht => hs t (by simp [ROp.slots, ht]), hf rfl]
    cases get fr l <;> first | rfl | (cases get fr q <;> first | rfl | (simp only []; split <;> rfl))
  case mkv z b l q =>
    simp only [evalOp, mkvA, get_congr (x := l) fun t ht => hs t (by simp [ROp.slots, ht]), get_congr (x := q) fun t ht => hs t (by simp [ROp.slots, ht])]
    cases get fr l <;> first | rfl | (cases get fr q <;> first | rfl | (simp only []; split <;> rfl))
  case mkb z b l q =>
    simp only [evalOp, mkbA, get_congr (x := l) fun t ht => hs t (by simp [ROp.slots, ht]), get_congr (x := q) fun t ht => hs t (by simp [ROp.slots, ht]), hb rfl]
    cases get fr l <;> first | rfl | (cases get fr q <;> first | rfl | (simp only []; split <;> rfl))
  case slc sz x a b m =>
    simp only [evalOp, get_congr (x := x) fun t ht => hs t (by simp [ROp.slots, ht]), bound_congr (x := a) fun t ht => hs t (by simp [ROp.slots, ht]), bound_congr (x := b) fun t ht => hs t (by simp [ROp.slots, ht]), bound_congr (x := m) fun t ht => hs t (by simp [ROp.slots, ht]), sliceA_fams (hf rfl)]
    cases boundA fr a <;> first | rfl | (cases boundA fr b <;> first | rfl | (cases boundA fr m <;> first | rfl | (simp only []; split <;> rfl)))
  case faddr off x => simp only [evalOp, get_congr (x := x) fun t ht => hs t (by simp [ROp.slots, ht])]; cases get fr x <;> rfl
  case fld b off n x =>
    simp only [evalOp, get_congr (x := x) fun t ht => hs t (by simp [ROp.slots, ht])]
    cases get fr x <;> first | rfl | (simp only []; split <;> rfl)
  case iaddr sz x i =>
    simp only [evalOp, get_congr (x := x) fun t ht => hs t (by simp [ROp.slots, ht]), get_congr (x := i) fun t ht => hs t (by simp [ROp.slots, ht])]
    cases get fr x <;> first | rfl | (cases get fr i <;> first | rfl | (simp only []; split <;> first | rfl | (split <;> rfl)))
  case idx x i =>
    simp only [evalOp, get_congr (x := x) fun t ht => hs t (by simp [ROp.slots, ht]), get_congr (x := i) fun t ht => hs t (by simp [ROp.slots, ht])]
    cases get fr x <;> first | rfl | (cases get fr i <;> first | rfl | (simp only []; split <;> first | rfl | (split <;> rfl)))
  case ext x i =>
    simp only [evalOp, get_congr (x := x) fun t ht => hs t (by simp [ROp.slots, ht])]
    cases get fr x <;> first | rfl | (simp only []; split <;> rfl)
  case len b x => cases b <;> simp only [evalOp, get_congr (x := x) fun t ht => hs t (by simp [ROp.slots, ht])] <;> cases get fr x <;> rfl
  case apps b s x =>
    simp only [evalOp, appsA, appendY, get_congr (x := s) fun t ht => hs t (by simp [ROp.slots, ht]), get_congr (x := x) fun t ht => hs t (by simp [ROp.slots, ht]), hf rfl]
    repeat' split
    all_goals rfl
  case app sz b s x =>
    simp only [evalOp, appendA, appendY, get_congr (x := s) fun t ht => hs t (by simp [ROp.slots, ht]), get_congr (x := x) fun t ht => hs t (by simp [ROp.slots, ht]), elems_fams (hf rfl), hf rfl]
    repeat' split
    all_goals rfl
  case mlen x =>
    simp only [evalOp, get_congr (x := x) fun t ht => hs t (by simp [ROp.slots, ht]), mapEnts_boxes (hb rfl)]
    repeat' split
    all_goals rfl
  case min x y =>
    simp only [evalOp, get_congr (x := x) fun t ht => hs t (by simp [ROp.slots, ht]), get_congr (x := y) fun t ht => hs t (by simp [ROp.slots, ht])]
    cases get fr x <;> first | rfl | (cases get fr y <;> first | rfl | (simp only []; split <;> rfl))
  case max x y =>
    simp only [evalOp, get_congr (x := x) fun t ht => hs t (by simp [ROp.slots, ht]), get_congr (x := y) fun t ht => hs t (by simp [ROp.slots, ht])]
    cases get fr x <;> first | rfl | (cases get fr y <;> first | rfl | (simp only []; split <;> rfl))
end
end Go.Abs
namespace Go.Abs
open Go.RowKit (Below)
section
variable {O : Orc} {c : Ctx}
theorem op_congr {r : ROp} {fr fr' : Fr} {h h' h1 : AH} {v : AV} (hs : ∀ t ∈ r.slots, fr'.getD t undefA = fr.getD t undefA) (hb : r.looksB = true → h'.boxes = h.boxes) (hf : r.looksF = true → h'.fams = h.fams)
    (he : evalOp O c r fr h = some (v, h1)) : ∃ h1', evalOp O c r fr' h' = some (v, h1') ∧ (r.writesB c = true → h1'.boxes = h1.boxes) ∧ (r.writesF c = true → h1'.fams = h1.fams) := by
  by_cases hcall : r.isCall = false
  · have h2 := op_fst (O := O) hs hb hf hcall (by rw [he]; rfl)
    rw [he] at h2
    cases h3 : evalOp O c r fr' h' with
    | none => rw [h3] at h2; cases h2
    | some x =>
      obtain ⟨v', h1'⟩ := x
      rw [h3] at h2
      have : v' = v := by simpa using h2
      subst this
      refine ⟨h1', rfl, fun hw => ?_, fun hw => ?_⟩
      · cases r <;> simp only [ROp.writesB] at hw <;> try (cases hw; done)
        case call => simp [ROp.isCall] at hcall
        case callv => simp [ROp.isCall] at hcall
        case st n a x =>
          obtain rfl : h' = h := AH_eq (hb rfl) (hf rfl)
          simp only [evalOp, get_congr (x := a) fun t ht => hs t (by simp [ROp.slots, ht]), get_congr (x := x) fun t ht => hs t (by simp [ROp.slots, ht])] at h3 he
          rw [h3] at he; cases he; rfl
        case stb n a x =>
          simp only [evalOp, get_congr (x := a) fun t ht => hs t (by simp [ROp.slots, ht]), get_congr (x := x) fun t ht => hs t (by simp [ROp.slots, ht])] at h3 he
          have := stbA_both (h := h) (h' := h') (hb rfl) (n := n) (p := get fr a) (x := get fr x)
          rw [h3, he] at this
          simpa using this
        case box x =>
          simp only [evalOp, get_congr (x := x) fun t ht => hs t (by simp [ROp.slots, ht]), hb rfl] at h3 he
          split at he
          · cases he
          · rename_i ht; rw [if_neg ht] at h3; cases he; cases h3; rfl
        case alloc z => simp only [evalOp, hb rfl] at h3 he; cases he; cases h3; rfl
        case allocAt n z =>
          simp only [evalOp, allocAtA, hb rfl] at h3 he
          split at he
          · rename_i cs hcs
            split at he
            · rename_i hc; simp only [hcs, if_pos hc] at h3; cases he; cases h3; rfl
            · cases he
          · cases he
        case clos f cs =>
          obtain rfl : h' = h := AH_eq (hb rfl) (hf rfl)
          simp only [evalOp, gets_congr (xs := cs) fun t ht => hs t (by simpa [ROp.slots] using ht)] at h3 he
          rw [h3] at he; cases he; rfl
        case mkmap => simp only [evalOp, hb rfl] at h3 he; cases he; cases h3; rfl
        case mkb z b l q =>
          simp only [evalOp, mkbA, get_congr (x := l) fun t ht => hs t (by simp [ROp.slots, ht]), get_congr (x := q) fun t ht => hs t (by simp [ROp.slots, ht]), hb rfl] at h3 he
          split at he
          · rename_i e1 e2
            simp only [e1, e2] at h3
            split at he
            · rename_i hc; rw [if_pos hc] at h3; cases he; cases h3; rfl
            · cases he
          · cases he
        case mupp x k w =>
          obtain rfl : h' = h := AH_eq (hb rfl) (hf rfl)
          simp only [evalOp, get_congr (x := x) fun t ht => hs t (by simp [ROp.slots, ht]), get_congr (x := k) fun t ht => hs t (by simp [ROp.slots, ht]), get_congr (x := w) fun t ht => hs t (by simp [ROp.slots, ht])] at h3 he
          rw [h3] at he; cases he; rfl
        case mup str x k w =>
          obtain rfl : h' = h := AH_eq (hb rfl) (hf rfl)
          simp only [evalOp, get_congr (x := x) fun t ht => hs t (by simp [ROp.slots, ht]), get_congr (x := k) fun t ht => hs t (by simp [ROp.slots, ht]), get_congr (x := w) fun t ht => hs t (by simp [ROp.slots, ht])] at h3 he
          rw [h3] at he; cases he; rfl
      · cases r <;> simp only [ROp.writesF] at hw <;> try (cases hw; done)
        case call => simp [ROp.isCall] at hcall
        case callv => simp [ROp.isCall] at hcall
        case st n a x =>
          obtain rfl : h' = h := AH_eq (hb rfl) (hf rfl)
          simp only [evalOp, get_congr (x := a) fun t ht => hs t (by simp [ROp.slots, ht]), get_congr (x := x) fun t ht => hs t (by simp [ROp.slots, ht])] at h3 he
          rw [h3] at he; cases he; rfl
        case ste n a x =>
          simp only [evalOp, get_congr (x := a) fun t ht => hs t (by simp [ROp.slots, ht]), get_congr (x := x) fun t ht => hs t (by simp [ROp.slots, ht])] at h3 he
          have := steA_both (h := h) (h' := h') (hf rfl) (n := n) (p := get fr a) (x := get fr x)
          rw [h3, he] at this
          simpa using this
        case clr z x =>
          simp only [evalOp, get_congr (x := x) fun t ht => hs t (by simp [ROp.slots, ht])] at h3 he
          have := clrA_both (h := h) (h' := h') (hf rfl) (z := z) (x := get fr x)
          rw [h3, he] at this
          simpa using this
        case mkslice z b l q =>
          simp only [evalOp, get_congr (x := l) fun t ht => hs t (by simp [ROp.slots, ht]), get_congr (x := q) fun t ht => hs t (by simp [ROp.slots, ht]), hf rfl] at h3 he
          split at he
          · rename_i e1 e2
            simp only [e1, e2] at h3
            split at he
            · rename_i hc; rw [if_pos hc] at h3; cases he; cases h3; rfl
            · cases he
          · cases he
        case apps b s x =>
          simp only [evalOp, appsA, get_congr (x := s) fun t ht => hs t (by simp [ROp.slots, ht]), get_congr (x := x) fun t ht => hs t (by simp [ROp.slots, ht])] at h3 he
          cases hg : get fr x <;> rw [hg] at he h3 <;> (try dsimp only at he h3) <;> try (cases he; done)
          rename_i str
          have := appendY_both (c := c) (h := h) (h' := h') (hf rfl) 1 b (get fr s) (bytesA str)
          rw [h3, he] at this
          simpa using this
        case app sz b s x =>
          simp only [evalOp, appendA, appendY, get_congr (x := s) fun t ht => hs t (by simp [ROp.slots, ht]), get_congr (x := x) fun t ht => hs t (by simp [ROp.slots, ht]), elems_fams (hf rfl), hf rfl] at h3 he
          cases hel : elems h sz (get fr x) with
          | none => rw [hel] at he; cases he
          | some ys =>
            rw [hel] at he h3
            dsimp only at he h3
            cases hg : get fr s <;> rw [hg] at he h3 <;> (try dsimp only at he h3) <;> try (cases he; done)
            case vs full z xs =>
              cases full <;> (try dsimp only at he h3)
              · cases he
              · split at he
                · rename_i hc; rw [if_pos hc] at h3; cases he; cases h3; exact hf rfl
                · rename_i hc; rw [if_neg hc] at h3
                  split at he
                  · rename_i hc2; rw [if_pos hc2] at h3; cases he; cases h3; rfl
                  · cases he
            case sl k n off len =>
              cases hk : h.fams[k]? with
              | none => rw [hk] at he; cases he
              | some f =>
                rw [hk] at he h3
                dsimp only at he h3
                split at he
                · rename_i hc; rw [if_pos hc] at h3; cases he; cases h3; rfl
                · rename_i hc; rw [if_neg hc] at h3
                  split at he
                  · rename_i hc2; rw [if_pos hc2] at h3; cases he; cases h3; rfl
                  · cases he
  · cases r <;> simp only [ROp.isCall] at hcall <;> try (exact absurd trivial hcall)
    case callv x aas =>
      obtain rfl : h' = h := AH_eq (hb rfl) (hf rfl)
      refine ⟨h1, ?_, fun _ => rfl, fun _ => rfl⟩
      rw [← he]
      simp only [evalOp, get_congr (x := x) fun t ht => hs t (by simp only [ROp.slots, List.mem_append]; exact .inl ht), gets_congr (xs := aas) fun t ht => hs t (by simp only [ROp.slots, List.mem_append]; exact .inr ht)]
    case call f aas =>
      have ha : aas.map (get fr') = aas.map (get fr) := gets_congr (xs := aas) fun t ht => hs t (by simpa [ROp.slots] using ht)
      obtain rfl : h' = h := AH_eq (hb rfl) (hf rfl)
      exact ⟨h1, by rw [← he]; simp only [evalOp, ha], fun _ => rfl, fun _ => rfl⟩
def deps (o : Oper) (acc : List Nat) : Nat := o.after.toList.foldl (fun s e => if Region.binds .any e then s ||| 2 ^ e.on ||| acc.getD e.on 0 else s) 0
theorem before_spec : ∀ (l : List Oper) (acc : List Nat), ∃ ext, before l acc = acc ++ ext ∧ ext.length = l.length ∧ ∀ (k : Nat) (o : Oper), l[k]? = some o → ext[k]? = some (deps o (acc ++ ext.take k))
  | [], acc => ⟨[], by simp [before], rfl, fun k o h => by simp at h⟩
  | o :: l, acc => by
    obtain ⟨ext, h1, h2, h3⟩ := before_spec l (acc ++ [deps o acc])
    refine ⟨deps o acc :: ext, ?_, by simp [h2], fun k o' hk => ?_⟩
    · rw [before]
      show before l (acc ++ [deps o acc]) = _
      rw [h1]; simp
    · cases k with
      | zero => simp at hk; subst hk; simp
      | succ k =>
        have := h3 k o' (by simpa using hk)
        simpa using this
theorem fold_bits {acc : List Nat} {i : Nat} : ∀ (l : List Edge) (s : Nat), (l.foldl (fun s e => if Region.binds .any e then s ||| 2 ^ e.on ||| acc.getD e.on 0 else s) s).testBit i = true →
    s.testBit i = true ∨ ∃ e ∈ l, Region.binds .any e = true ∧ (e.on = i ∨ (acc.getD e.on 0).testBit i = true)
  | [], s, h => .inl h
  | e :: l, s, h => by
    simp only [List.foldl_cons] at h
    rcases fold_bits l _ h with h1 | ⟨e', he', h1⟩
    · split at h1
      · rename_i hb
        rw [Nat.testBit_or, Nat.testBit_or] at h1
        simp only [Bool.or_eq_true] at h1
        rcases h1 with (h1 | h1) | h1
        · exact .inl h1
        · rw [Nat.testBit_two_pow] at h1
          exact .inr ⟨e, by simp, hb, .inl (by simpa using h1)⟩
        · exact .inr ⟨e, by simp, hb, .inr h1⟩
      · exact .inl h1
    · exact .inr ⟨e', by simp [he'], h1⟩
def Dep (ops : List Oper) (i j : Nat) : Prop := ((before ops []).getD j 0).testBit i = true
theorem dep_edge {ops : List Oper} {i j : Nat} (h : Dep ops i j) : ∃ o e, ops[j]? = some o ∧ e ∈ o.after.toList ∧ Region.binds .any e = true ∧ (e.on = i ∨ Dep ops i e.on) := by
  obtain ⟨ext, h1, h2, h3⟩ := before_spec ops []
  simp only [List.nil_append] at h1 h3
  unfold Dep at h
  rw [h1] at h
  cases ho : ops[j]? with
  | none =>
    have : ext[j]? = none := by
      rw [List.getElem?_eq_none_iff] at ho ⊢
      omega
    simp [List.getD, this] at h
  | some o =>
    have h4 := h3 j o ho
    rw [List.getD, h4] at h
    simp only [Option.getD_some] at h
    unfold deps at h
    rcases fold_bits _ _ h with h5 | ⟨e, he, hb, h5⟩
    · simp at h5
    · refine ⟨o, e, rfl, he, hb, ?_⟩
      rcases h5 with h5 | h5
      · exact .inl h5
      · right
        unfold Dep
        rw [h1]
        have : (ext.take j).getD e.on 0 = ext.getD e.on 0 ∨ (ext.take j).getD e.on 0 = 0 := by
          simp only [List.getD, List.getElem?_take]
          split
          · exact .inl rfl
          · exact .inr rfl
        rcases this with h6 | h6
        · rw [← h6]; exact h5
        · rw [h6] at h5; simp at h5
theorem edges_lt : ∀ {ops : List Oper} {k : Nat}, edgesOk ops k = true → ∀ {j : Nat} {o : Oper} {e : Edge}, ops[j]? = some o → e ∈ o.after.toList → Region.binds .any e = true → e.on < k + j
  | [], _, _, j, o, e, h, _, _ => by simp at h
  | o' :: ops, k, h, j, o, e, ho, he, hb => by
    simp only [edgesOk, Bool.and_eq_true] at h
    cases j with
    | zero =>
      simp at ho; subst ho
      have := (List.all_eq_true.1 h.1) e he
      simp [hb] at this
      omega
    | succ j =>
      have := edges_lt h.2 (j := j) (o := o) (by simpa using ho) he hb
      omega
end
section
variable {P : Program} {O : Orc} {c : Ctx}
theorem trace_of : ∀ {ros : List RO} {fr fr' : Fr} {h h' : AH}, evalOps O c ros fr h = some (fr', h') →
    ∃ (F : Nat → Fr) (H : Nat → AH) (V : Nat → AV), F 0 = fr ∧ H 0 = h ∧ F ros.length = fr' ∧ H ros.length = h' ∧
      ∀ (i : Nat) (ro : RO), ros[i]? = some ro → stepA O c ro (F i) (H i) = some (V i, H (i + 1)) ∧ F (i + 1) = put (F i) ro.dst (V i)
  | [], fr, fr', h, h', he => by
    simp only [evalOps] at he
    cases he
    exact ⟨fun _ => fr, fun _ => h, fun _ => .junk, rfl, rfl, rfl, rfl, fun i ro hr => by simp at hr⟩
  | o :: ros, fr, fr', h, h', he => by
    rw [evalOps_cons, Option.bind_eq_some_iff] at he
    obtain ⟨⟨v, h1⟩, hst, hrest⟩ := he
    obtain ⟨F, H, V, f0, f1, f2, f3, f4⟩ := trace_of hrest
    refine ⟨fun i => if i = 0 then fr else F (i - 1), fun i => if i = 0 then h else H (i - 1), fun i => if i = 0 then v else V (i - 1), by simp, by simp, by simpa using f2, by simpa using f3, fun i ro hr => ?_⟩
    cases i with
    | zero =>
      simp at hr; subst hr
      simp [f0, f1, hst]
    | succ i =>
      have := f4 i ro (by simpa using hr)
      simpa using this
theorem put_len (fr : Fr) (d : Option Nat) (v : AV) : (put fr d v).length = fr.length := by cases d <;> simp [put]
theorem put_getD_same {fr : Fr} {t : Nat} {v : AV} (h : t < fr.length) : (put fr (some t) v).getD t undefA = v := by simp [put, List.getD, h]
theorem put_getD_other {fr : Fr} {d : Option Nat} {t : Nat} {v : AV} (h : d ≠ some t) : (put fr d v).getD t undefA = fr.getD t undefA := by
  cases d with
  | none => rfl
  | some d =>
    have : d ≠ t := fun e => h (by rw [e])
    simp [put, List.getD, List.getElem?_set_ne this]
theorem step_congr {ro : RO} {fr fr' : Fr} {h h' h1 : AH} {v : AV} (hs : ∀ t ∈ ro.slots, fr'.getD t undefA = fr.getD t undefA) (hb : ro.op.looksB = true → ro.op.rdr c = false → h'.boxes = h.boxes) (hxb : ro.op.rdr c = true → ∃ ext, h'.boxes = h.boxes ++ ext) (hf : ro.op.looksF = true → h'.fams = h.fams)
    (he : stepA O c ro fr h = some (v, h1)) :
    ∃ h1', stepA O c ro fr' h' = some (v, h1') ∧ (ro.op.writesB c = true → h1'.boxes = h1.boxes) ∧ (ro.op.writesB c = false → h1'.boxes = h'.boxes) ∧ (ro.op.writesF c = true → h1'.fams = h1.fams) ∧ (ro.op.writesF c = false → h1'.fams = h'.fams) := by
  have hw : wantedA fr' ro.guard = wantedA fr ro.guard := by
    cases hg : ro.guard with
    | none => rfl
    | some g =>
      obtain ⟨s, want⟩ := g
      have := hs s (by simp [RO.slots, hg])
      simp only [wantedA, this]
  unfold stepA at he ⊢
  rw [hw]
  split at he
  · by_cases hrd : ro.op.rdr c = true
    · obtain ⟨ext, hext⟩ := hxb hrd
      obtain ⟨w1, w2⟩ := rdr_writes hrd
      exact ⟨h', rdr_congr hrd (fun t ht => hs t (by simp only [RO.slots, List.mem_append]; exact .inl ht)) hext hf he, fun w => (by rw [w1] at w; cases w), fun _ => rfl, fun w => (by rw [w2] at w; cases w), fun _ => rfl⟩
    · have hrd' : ro.op.rdr c = false := by simpa using hrd
      obtain ⟨h1', e1, e2, e3⟩ := op_congr (fun t ht => hs t (by simp only [RO.slots, List.mem_append]; exact .inl ht)) (fun q => hb q hrd') hf he
      exact ⟨h1', e1, e2, (op_heap e1).1, e3, (op_heap e1).2⟩
  · cases he
    refine ⟨h', rfl, fun w => hb (writes_looksB _ w) ?_, fun _ => rfl, fun w => hf (writes_looksF _ w), fun _ => rfl⟩
    cases hrd : ro.op.rdr c with
    | false => rfl
    | true => rw [(rdr_writes hrd).1] at w; cases w
  · cases he
theorem step_heap {ro : RO} {fr : Fr} {h h1 : AH} {v : AV} (he : stepA O c ro fr h = some (v, h1)) : (ro.op.writesB c = false → h1.boxes = h.boxes) ∧ (ro.op.writesF c = false → h1.fams = h.fams) := by
  unfold stepA at he
  split at he
  · exact op_heap he
  · cases he; exact ⟨fun _ => rfl, fun _ => rfl⟩
  · cases he
theorem pair_of {bs : List Nat} {ros : List RO} (h : pairsOkX c bs ros = true) {i j : Nat} {oi oj : RO} (hij : i < j) (hi : ros[i]? = some oi) (hj : ros[j]? = some oj) :
    pairOkX c (bs.getD j 0) i oi oj = true ∧ (∀ d, oi.dst = some d → oj.dst ≠ some d) := by
  unfold pairsOkX at h
  have hjl := (List.getElem?_eq_some_iff.1 hj).1
  have h1 := (List.all_eq_true.1 h) j (List.mem_range.2 hjl)
  have h2 := (List.all_eq_true.1 h1) i (List.mem_range.2 hij)
  simp only [hi, hj, Bool.and_eq_true] at h2
  refine ⟨h2.1, fun d hd hd' => ?_⟩
  have := h2.2
  rw [hd, hd'] at this
  simp at this
theorem apart_of {ops : List Oper} {ros : List RO} (h : pairsOkX c (before ops []) ros = true) {i j : Nat} {oi oj : RO} (hij : i < j) (hi : ros[i]? = some oi) (hj : ros[j]? = some oj) (hd : ¬ Dep ops i j) :
    (∀ d, oi.dst = some d → d ∉ oj.slots) ∧ (∀ d, oj.dst = some d → d ∉ oi.slots) ∧ (oi.op.writesB c = true → oj.op.looksB = false) ∧ (oi.op.looksB = true → oj.op.writesB c = false ∨ (oi.op.rdr c = true ∧ oj.op.apd = true)) ∧
      (oi.op.writesF c = true → oj.op.looksF = false) ∧ (oi.op.looksF = true → oj.op.writesF c = false) := by
  obtain ⟨h1, _⟩ := pair_of h hij hi hj
  unfold pairOkX at h1
  have hd' : ((before ops []).getD j 0).testBit i = false := by simpa [Dep] using hd
  rw [hd', Bool.false_or] at h1
  simp only [Bool.and_eq_true, Bool.or_eq_true, Bool.not_eq_true', Bool.and_eq_false_iff] at h1
  obtain ⟨⟨⟨⟨⟨a1, a2⟩, a3⟩, a4⟩, a5⟩, a6⟩ := h1
  refine ⟨fun d hd => ?_, fun d hd => ?_, fun hw => ?_, fun hw => ?_, fun hw => ?_, fun hw => ?_⟩
  · rw [hd] at a1; simp at a1; exact a1.1
  · rw [hd] at a2; simpa using a2
  · rcases a3 with h | h
    · rw [hw] at h; cases h
    · exact h
  · rcases a4 with (h | h) | h
    · rw [hw] at h; cases h
    · exact .inl h
    · exact .inr h
  · rcases a5 with h | h
    · rw [hw] at h; cases h
    · exact h
  · rcases a6 with h | h
    · rw [hw] at h; cases h
    · exact h
def Lst (listed : Array Bool) (i : Nat) : Prop := listed.getD i false = true
theorem Lst_set {listed : Array Bool} {j i : Nat} (hj : j < listed.size) : Lst (listed.setIfInBounds j true) i ↔ i = j ∨ Lst listed i := by
  unfold Lst
  by_cases h : i = j
  · subst h
    simp [Array.getD_eq_getD_getElem?, hj]
  · simp [Array.getD_eq_getD_getElem?, Array.getElem?_setIfInBounds_ne (Ne.symm h), h]
theorem ready_iff {ops : Array Oper} {listed : Array Bool} (hl : listed.size = ops.size) {j : Nat} : j ∈ Region.ready .any ops listed ↔ ∃ o, ops[j]? = some o ∧ ¬ Lst listed j ∧ ∀ e ∈ o.after.toList, Region.binds .any e = true → Lst listed e.on := by
  unfold Region.ready Lst
  simp only [List.mem_filter, List.mem_range, Bool.and_eq_true, Bool.not_eq_true']
  constructor
  · rintro ⟨h1, h2, h3⟩
    have ho : ops[j]? = some ops[j] := Array.getElem?_eq_getElem h1
    refine ⟨ops[j], ho, ?_, fun e he hb => ?_⟩
    · rw [Array.getD_eq_getD_getElem?] at h2 ⊢
      rw [Array.getElem?_eq_getElem (by omega)] at h2 ⊢
      simpa using h2
    · rw [ho] at h3
      simp only [Option.map_some, Option.getD_some, Array.all_eq_true_iff_forall_mem] at h3
      have := h3 e (by simpa using he)
      simpa [hb] using this
  · rintro ⟨o, h1, h2, h3⟩
    have hlt := (Array.getElem?_eq_some_iff.1 h1).1
    refine ⟨hlt, ?_, ?_⟩
    · rw [Array.getD_eq_getD_getElem?] at h2 ⊢
      rw [Array.getElem?_eq_getElem (by omega)] at h2 ⊢
      simpa using h2
    · rw [h1]
      simp only [Option.map_some, Option.getD_some, Array.all_eq_true_iff_forall_mem]
      intro e he
      cases hb : Region.binds .any e with
      | false => rfl
      | true => simpa using h3 e (by simpa using he) hb
structure Tr (O : Orc) (c : Ctx) (ops : Array Oper) (ros : List RO) (F : Nat → Fr) (H : Nat → AH) (V : Nat → AV) : Prop where
  len : ros.length = ops.size
  rel : ∀ (i : Nat) (o : Oper) (ro : RO), ops[i]? = some o → ros[i]? = some ro → RORel P ops.toList o ro
  edges : edgesOk ops.toList 0 = true
  pairs : pairsOkX c (before ops.toList []) ros = true
  step : ∀ (i : Nat) (ro : RO), ros[i]? = some ro → stepA O c ro (F i) (H i) = some (V i, H (i + 1)) ∧ F (i + 1) = put (F i) ro.dst (V i)
section
variable {ops : Array Oper} {ros : List RO} {F : Nat → Fr} {H : Nat → AH} {V : Nat → AV}
theorem Tr.flen (T : Tr (P := P) O c ops ros F H V) : ∀ i, i ≤ ros.length → (F i).length = (F 0).length
  | 0, _ => rfl
  | i + 1, h => by
    rw [(T.step i _ (List.getElem?_eq_getElem (by omega))).2, put_len]
    exact T.flen i (by omega)
theorem Tr.ghost (T : Tr (P := P) O c ops ros F H V) {t : Nat} : ∀ j, j ≤ ros.length → (∀ (i : Nat) (ro : RO), i < j → ros[i]? = some ro → ro.dst ≠ some t) → (F j).getD t undefA = (F 0).getD t undefA
  | 0, _, _ => rfl
  | j + 1, h, hn => by
    have hj : ros[j]? = some ros[j] := List.getElem?_eq_getElem (by omega)
    rw [(T.step j _ hj).2, put_getD_other (hn j _ (by omega) hj)]
    exact T.ghost j (by omega) fun i ro hi => hn i ro (by omega)
theorem Tr.written (T : Tr (P := P) O c ops ros F H V) {t i : Nat} {ri : RO} (hi : ros[i]? = some ri) (hd : ri.dst = some t) (ht : t < (F 0).length) : ∀ j, j ≤ ros.length → i < j → (F j).getD t undefA = V i
  | 0, _, h => by omega
  | j + 1, h, hij => by
    have hj : ros[j]? = some ros[j] := List.getElem?_eq_getElem (by omega)
    rw [(T.step j _ hj).2]
    by_cases he : i = j
    · subst he
      rw [hi] at hj
      have : ros[i] = ri := by simpa using hj.symm
      rw [this, hd]
      exact put_getD_same (by rw [T.flen i (by omega)]; exact ht)
    · rw [put_getD_other ((pair_of T.pairs (show i < j by omega) hi hj).2 t hd)]
      exact T.written hi hd ht j (by omega) (by omega)
theorem Tr.boxes (T : Tr (P := P) O c ops ros F H V) {i : Nat} : ∀ k, k ≤ ros.length → i ≤ k → (∀ (m : Nat) (rm : RO), i ≤ m → m < k → ros[m]? = some rm → rm.op.writesB c = false) → (H k).boxes = (H i).boxes
  | 0, _, h, _ => by have : i = 0 := by omega
                     subst this; rfl
  | k + 1, h, hik, hn => by
    by_cases he : i = k + 1
    · subst he; rfl
    · have hk : ros[k]? = some ros[k] := List.getElem?_eq_getElem (by omega)
      rw [(step_heap (T.step k _ hk).1).1 (hn k _ (by omega) (by omega) hk)]
      exact T.boxes k (by omega) (by omega) fun m rm h1 h2 => hn m rm h1 (by omega)
theorem Tr.fams (T : Tr (P := P) O c ops ros F H V) {i : Nat} : ∀ k, k ≤ ros.length → i ≤ k → (∀ (m : Nat) (rm : RO), i ≤ m → m < k → ros[m]? = some rm → rm.op.writesF c = false) → (H k).fams = (H i).fams
  | 0, _, h, _ => by have : i = 0 := by omega
                     subst this; rfl
  | k + 1, h, hik, hn => by
    by_cases he : i = k + 1
    · subst he; rfl
    · have hk : ros[k]? = some ros[k] := List.getElem?_eq_getElem (by omega)
      rw [(step_heap (T.step k _ hk).1).2 (hn k _ (by omega) (by omega) hk)]
      exact T.fams k (by omega) (by omega) fun m rm h1 h2 => hn m rm h1 (by omega)
structure Inv (ops : Array Oper) (ros : List RO) (F : Nat → Fr) (H : Nat → AH) (V : Nat → AV) (c : Ctx) (listed : Array Bool) (E : Env) (frS : Fr) : Prop where
  size : listed.size = ops.size
  closed : ∀ j, Lst listed j → ∀ i, Dep ops.toList i j → Lst listed i
  flen : frS.length = (F 0).length
  wrote : ∀ (i t : Nat) (ro : RO), ros[i]? = some ro → Lst listed i → ro.dst = some t → t < (F 0).length → frS.getD t undefA = V i
  kept : ∀ t : Nat, (∀ (i : Nat) (ro : RO), ros[i]? = some ro → Lst listed i → ro.dst ≠ some t) → frS.getD t undefA = (F 0).getD t undefA
  boxes : ∀ k, k ≤ ros.length → (∀ (m : Nat) (rm : RO), ros[m]? = some rm → rm.op.writesB c = true → (Lst listed m ↔ m < k)) → E.h.boxes = (H k).boxes
  fams : ∀ k, k ≤ ros.length → (∀ (m : Nat) (rm : RO), ros[m]? = some rm → rm.op.writesF c = true → (Lst listed m ↔ m < k)) → E.h.fams = (H k).fams
theorem rdr_looks {r : ROp} (h : r.rdr c = true) : r.looksB = true := by
  cases r <;> simp only [ROp.rdr] at h <;> first | (cases h; done) | rfl
theorem Inv.cut (T : Tr (P := P) O c ops ros F H V) {listed : Array Bool} {E : Env} {frS : Fr} (I : Inv ops ros F H V c listed E frS) : ∃ k, k ≤ ros.length ∧ ∀ (m : Nat) (rm : RO), ros[m]? = some rm → rm.op.writesB c = true → (Lst listed m ↔ m < k) := by
  have key : ∀ d : Nat, d ≤ ros.length → (∃ k, k ≤ d ∧ (∀ (m : Nat) (rm : RO), m < k → ros[m]? = some rm → rm.op.writesB c = true → Lst listed m) ∧ (k = d ∨ ∃ rk, ros[k]? = some rk ∧ rk.op.writesB c = true ∧ ¬ Lst listed k)) := by
    intro d
    induction d with
    | zero => exact fun _ => ⟨0, Nat.le_refl _, fun m rm h => absurd h (Nat.not_lt_zero _), .inl rfl⟩
    | succ d ih =>
      intro hd
      obtain ⟨k, k1, k2, k3⟩ := ih (by omega)
      rcases k3 with rfl | k3
      · have hk : ros[k]? = some ros[k] := List.getElem?_eq_getElem (by omega)
        by_cases hb : ros[k].op.writesB c = true ∧ ¬ Lst listed k
        · exact ⟨k, by omega, k2, .inr ⟨_, hk, hb.1, hb.2⟩⟩
        · refine ⟨k + 1, Nat.le_refl _, fun m rm hm hr hw => ?_, .inl rfl⟩
          rcases Nat.lt_or_ge m k with h | h
          · exact k2 m rm h hr hw
          · have : m = k := by omega
            subst this
            rw [hk] at hr
            have : ros[m] = rm := by simpa using hr
            rw [← this] at hw
            exact Classical.byContradiction fun hn => hb ⟨hw, hn⟩
      · exact ⟨k, by omega, k2, .inr k3⟩
  obtain ⟨k, k1, k2, k3⟩ := key ros.length (Nat.le_refl _)
  refine ⟨k, k1, fun m rm hm hw => ⟨fun hl => ?_, fun h => k2 m rm h hm hw⟩⟩
  rcases k3 with rfl | ⟨rk, hk, hkw, hkn⟩
  · exact (List.getElem?_eq_some_iff.1 hm).1
  · rcases Nat.lt_trichotomy m k with h | h | h
    · exact h
    · subst h; exact absurd hl hkn
    · exfalso
      have hd : Dep ops.toList k m := Classical.byContradiction fun hn => by
        have := (apart_of T.pairs h hk hm hn).2.2.1 hkw
        rw [writes_looksB _ hw] at this; cases this
      exact hkn (I.closed m hl k hd)
theorem Tr.boxesX (T : Tr (P := P) O c ops ros F H V) {i : Nat} : ∀ k, k ≤ ros.length → i ≤ k → (∀ (m : Nat) (rm : RO), i ≤ m → m < k → ros[m]? = some rm → rm.op.writesB c = true → rm.op.apd = true) → ∃ ext, (H k).boxes = (H i).boxes ++ ext
  | 0, _, h, _ => by have : i = 0 := by omega
                     subst this; exact ⟨[], by simp⟩
  | k + 1, h, hik, hn => by
    by_cases he : i = k + 1
    · subst he; exact ⟨[], by simp⟩
    · have hk : ros[k]? = some ros[k] := List.getElem?_eq_getElem (by omega)
      obtain ⟨ext, hext⟩ := T.boxesX k (by omega) (by omega) fun m rm h1 h2 => hn m rm h1 (by omega)
      have hst := (T.step k _ hk).1
      by_cases hw : ros[k].op.writesB c = true
      · have ha := hn k _ (by omega) (by omega) hk hw
        have h2 : ∃ e2, (H (k + 1)).boxes = (H k).boxes ++ e2 := by
          unfold stepA at hst
          split at hst
          · exact apd_ext ha hst
          · simp only [Option.some.injEq, Prod.mk.injEq] at hst
            rw [← hst.2]
            exact ⟨[], by simp⟩
          · cases hst
        obtain ⟨e2, h2⟩ := h2
        exact ⟨ext ++ e2, by rw [h2, hext, List.append_assoc]⟩
      · rw [(step_heap hst).1 (by simpa using hw)]
        exact ⟨ext, hext⟩
theorem Inv.view (T : Tr (P := P) O c ops ros F H V) {listed : Array Bool} {E : Env} {frS : Fr} (I : Inv ops ros F H V c listed E frS) {j : Nat} {rj : RO} (hj : ros[j]? = some rj) (hnl : ¬ Lst listed j) (hdeps : ∀ i, Dep ops.toList i j → Lst listed i) :
    (∀ t ∈ rj.slots, frS.getD t undefA = (F j).getD t undefA) ∧ (rj.op.looksB = true → rj.op.rdr c = false → E.h.boxes = (H j).boxes) ∧ (rj.op.rdr c = true → ∃ ext, E.h.boxes = (H j).boxes ++ ext) ∧ (rj.op.looksF = true → E.h.fams = (H j).fams) := by
  have hjl := (List.getElem?_eq_some_iff.1 hj).1
  have side : ∀ (m : Nat) (rm : RO), ros[m]? = some rm → m ≠ j → ((m < j → Dep ops.toList m j) ∧ (j < m → Dep ops.toList j m)) → (Lst listed m ↔ m < j) := by
    intro m rm hm hne hd
    constructor
    · intro hl
      rcases Nat.lt_or_gt_of_ne hne with h | h
      · exact h
      · exact absurd (I.closed m hl j (hd.2 h)) hnl
    · intro h
      exact hdeps m (hd.1 h)
  refine ⟨fun t ht => ?_, fun hB hrd => ?_, fun hrd => ?_, fun hF => ?_⟩
  · by_cases hw : ∃ (m : Nat) (rm : RO), ros[m]? = some rm ∧ rm.dst = some t
    · obtain ⟨m, rm, hm, hd⟩ := hw
      have hml := (List.getElem?_eq_some_iff.1 hm).1
      by_cases hmj : m = j
      · -- it writes the slot itself: not yet
        subst hmj
        have h1 : frS.getD t undefA = (F 0).getD t undefA := I.kept t fun i ro hi hl hdi => by
          rcases Nat.lt_trichotomy i m with h | h | h
          · exact (pair_of T.pairs h hi hm).2 t hdi hd
          · subst h; exact hnl hl
          · exact (pair_of T.pairs h hm hi).2 t hd hdi
        have h2 : (F m).getD t undefA = (F 0).getD t undefA := T.ghost m (by omega) fun i ro h hi hdi => (pair_of T.pairs h hi hm).2 t hdi hd
        rw [h1, h2]
      · have hs : Lst listed m ↔ m < j := by
          refine side m rm hm hmj ⟨fun h => ?_, fun h => ?_⟩
          · exact Classical.byContradiction fun hn => (apart_of T.pairs h hm hj hn).1 t hd ht
          · exact Classical.byContradiction fun hn => (apart_of T.pairs h hj hm hn).2.1 t hd ht
        by_cases htl : t < (F 0).length
        · by_cases hlt : m < j
          · rw [I.wrote m t rm hm (hs.2 hlt) hd htl, T.written hm hd htl j (by omega) hlt]
          · have h1 : frS.getD t undefA = (F 0).getD t undefA := I.kept t fun i ro hi hl hdi => by
              rcases Nat.lt_trichotomy i m with h | h | h
              · exact (pair_of T.pairs h hi hm).2 t hdi hd
              · subst h; exact hlt (hs.1 hl)
              · exact (pair_of T.pairs h hm hi).2 t hd hdi
            have h2 : (F j).getD t undefA = (F 0).getD t undefA := T.ghost j (by omega) fun i ro h hi hdi => by
              rcases Nat.lt_trichotomy i m with h' | h' | h'
              · exact (pair_of T.pairs h' hi hm).2 t hdi hd
              · omega
              · exact (pair_of T.pairs h' hm hi).2 t hd hdi
            rw [h1, h2]
        · have h1 : frS.getD t undefA = undefA := by simp [List.getD, List.getElem?_eq_none (show frS.length ≤ t by rw [I.flen]; omega)]
          have h2 : (F j).getD t undefA = undefA := by simp [List.getD, List.getElem?_eq_none (show (F j).length ≤ t by rw [T.flen j (by omega)]; omega)]
          rw [h1, h2]
    · have hw' : ∀ (i : Nat) (ro : RO), ros[i]? = some ro → ro.dst ≠ some t := fun i ro hi hd => hw ⟨i, ro, hi, hd⟩
      rw [I.kept t fun i ro hi _ => hw' i ro hi, T.ghost j (by omega) fun i ro _ hi => hw' i ro hi]
  · refine I.boxes j (by omega) fun m rm hm hwm => ?_
    by_cases hmj : m = j
    · subst hmj; exact ⟨fun h => absurd h hnl, fun h => by omega⟩
    · refine side m rm hm hmj ⟨fun h => ?_, fun h => ?_⟩
      · exact Classical.byContradiction fun hn => by have := (apart_of T.pairs h hm hj hn).2.2.1 hwm; rw [hB] at this; cases this
      · exact Classical.byContradiction fun hn => by
          rcases (apart_of T.pairs h hj hm hn).2.2.2.1 hB with this | this
          · rw [hwm] at this; cases this
          · rw [hrd] at this; cases this.1
  · -- a reader: boxes may have been added
    have hB : rj.op.looksB = true := rdr_looks hrd
    obtain ⟨k, hk, hcut⟩ := I.cut T
    rw [I.boxes k hk hcut]
    rcases Nat.lt_or_ge j k with hjk | hjk
    · refine T.boxesX k hk (by omega) fun m rm h1 h2 hmr hwm => ?_
      have hne : m ≠ j := by
        rintro rfl
        rw [hmr] at hj
        have : rm = rj := by simpa using hj
        subst this
        rw [(rdr_writes hrd).1] at hwm; cases hwm
      have hl := (hcut m rm hmr hwm).2 h2
      have hnd : ¬ Dep ops.toList j m := fun hd => hnl (I.closed m hl j hd)
      rcases (apart_of T.pairs (show j < m by omega) hj hmr hnd).2.2.2.1 hB with this | this
      · rw [hwm] at this; cases this
      · exact this.2
    · refine ⟨[], ?_⟩
      rw [List.append_nil]
      refine (T.boxes j (by omega) hjk fun m rm h1 h2 hmr => ?_).symm
      cases hwm : rm.op.writesB c with
      | false => rfl
      | true =>
        have hd : Dep ops.toList m j := Classical.byContradiction fun hn => by
          have := (apart_of T.pairs h2 hmr hj hn).2.2.1 hwm
          rw [hB] at this; cases this
        have := (hcut m rm hmr hwm).1 (hdeps m hd)
        omega
  · refine I.fams j (by omega) fun m rm hm hwm => ?_
    by_cases hmj : m = j
    · subst hmj; exact ⟨fun h => absurd h hnl, fun h => by omega⟩
    · refine side m rm hm hmj ⟨fun h => ?_, fun h => ?_⟩
      · exact Classical.byContradiction fun hn => by have := (apart_of T.pairs h hm hj hn).2.2.2.2.1 hwm; rw [hF] at this; cases this
      · exact Classical.byContradiction fun hn => by have := (apart_of T.pairs h hj hm hn).2.2.2.2.2 hF; rw [hwm] at this; cases this
end
end
end Go.Abs
