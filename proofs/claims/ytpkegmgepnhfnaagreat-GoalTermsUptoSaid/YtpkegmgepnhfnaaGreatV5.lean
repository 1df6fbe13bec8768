/- Code, loops, calls: the abstract interpreter is sound. -/
import Derived.Test.YtpkegmgepnhfnaaGreatV4
import Derived.Orders
/- What an operation looks at, and what it turns: the abstract step in another frame and heap. -/
namespace Go.Abs
section
variable {O : Orc} {c : Ctx}

theorem get_congr {fr fr' : Fr} {x : Opd} (h : ∀ t ∈ x.slots, fr'.getD t undefA = fr.getD t undefA) : get fr' x = get fr x := by
  cases x with
  | t n => exact h n (by simp [Opd.slots])
  | c v => rfl

theorem gets_congr {fr fr' : Fr} {xs : List Opd} (h : ∀ t ∈ xs.flatMap Opd.slots, fr'.getD t undefA = fr.getD t undefA) : xs.map (get fr') = xs.map (get fr) :=
  List.map_congr_left fun x hx => get_congr fun t ht => h t (List.mem_flatMap.2 ⟨x, hx, ht⟩)

theorem buildParts_congr {fr fr' : Fr} {n : Nat} : ∀ {ps : List (Nat × Nat × Opd)}, (∀ t ∈ ps.flatMap (fun p => p.2.2.slots), fr'.getD t undefA = fr.getD t undefA) → buildParts fr' n ps = buildParts fr n ps
  | [], _ => rfl
  | (off, k, x) :: ps, h => by
    have hx : get fr' x = get fr x := get_congr fun t ht => h t (by simp [ht])
    have hr := buildParts_congr (n := n) (ps := ps) fun t ht => h t (by simp only [List.flatMap_cons, List.mem_append]; exact .inr ht)
    simp only [buildParts, hx, hr]

theorem elems_fams {h h' : AH} (he : h'.fams = h.fams) (sz : Nat) (x : AV) : elems h' sz x = elems h sz x := by cases x <;> simp only [elems, he]

theorem sliceParts_congr {fr fr' : Fr} {h : AH} : ∀ {ps : List (Nat × Opd)} {xs : List AV}, (∀ t ∈ ps.flatMap (fun p => p.2.slots), fr'.getD t undefA = fr.getD t undefA) → sliceParts fr' h xs ps = sliceParts fr h xs ps
  | [], xs, _ => rfl
  | (i, x) :: ps, xs, hh => by
    have hx : get fr' x = get fr x := get_congr fun t ht => hh t (by simp [ht])
    simp only [sliceParts, hx]
    split
    · split
      · exact sliceParts_congr fun t ht => hh t (by simp only [List.flatMap_cons, List.mem_append]; exact .inr ht)
      · rfl
    · rfl

theorem flat_frz1 (h : AH) (am : Bool) {x : AV} (hx : x.flat = true) : frz1 h am x = some x := by
  cases x <;> simp [AV.flat] at hx <;> simp only [frz1]
  rename_i f cs
  subst hx
  rfl
theorem flat_frzL (h : AH) (am : Bool) : ∀ {xs : List AV}, xs.all AV.flat = true → frzL h am xs = some xs
  | [], _ => rfl
  | x :: xs, hx => by
    simp only [List.all_cons, Bool.and_eq_true] at hx
    simp [frzL, flat_frz1 h am hx.1, flat_frzL h am hx.2]
theorem flat_frz (h : AH) (am : Bool) {x : AV} (hx : flatA x = true) : frz h am x = some x := by
  unfold flatA at hx
  split at hx
  · rename_i cs
    simp [frz, flat_frzL h am hx]
  · cases hx
  · rename_i h1 h2
    have e : frz h am x = frz1 h am x := by
      unfold frz
      split
      · exact absurd rfl (h1 _)
      · rfl
    rw [e, flat_frz1 h am hx]
theorem sliceParts_flat {fr : Fr} (h h' : AH) : ∀ {ps : List (Nat × Opd)} {xs : List AV}, ps.all (fun p => flatA (get fr p.2)) = true → sliceParts fr h' xs ps = sliceParts fr h xs ps
  | [], xs, _ => rfl
  | (i, x) :: ps, xs, hp => by
    simp only [List.all_cons, Bool.and_eq_true] at hp
    simp only [sliceParts, flat_frz h false hp.1, flat_frz h' false hp.1]
    split
    · split
      · exact sliceParts_flat h h' hp.2
      · rfl
    · rfl
theorem flats_congr {fr fr' : Fr} : ∀ {ps : List (Nat × Opd)}, (∀ t ∈ ps.flatMap (fun p => p.2.slots), fr'.getD t undefA = fr.getD t undefA) → ps.all (fun p => flatA (get fr' p.2)) = ps.all (fun p => flatA (get fr p.2))
  | [], _ => rfl
  | (i, x) :: ps, hh => by
    have hx : get fr' x = get fr x := get_congr fun t ht => hh t (by simp [ht])
    simp only [List.all_cons, hx]
    rw [flats_congr (ps := ps) fun t ht => hh t (by simp only [List.flatMap_cons, List.mem_append]; exact .inr ht)]

theorem mapEnts_boxes {h h' : AH} (hb : h'.boxes = h.boxes) (x : AV) : mapEnts h' x = mapEnts h x := by cases x <;> simp only [mapEnts, hb]

theorem bound_congr {fr fr' : Fr} {x : Option Opd} (h : ∀ t ∈ optSlots x, fr'.getD t undefA = fr.getD t undefA) : boundA fr' x = boundA fr x := by
  cases x with
  | none => rfl
  | some x => simp only [boundA, get_congr (x := x) h]

theorem sliceA_fams {h h' : AH} (he : h'.fams = h.fams) (sz : Nat) (x : AV) (l u m : Option Int) : sliceA h' sz x l u m = sliceA h sz x l u m := by
  unfold sliceA; rw [he]

theorem loadA_boxes {h h' : AH} (hb : h'.boxes = h.boxes) {b : Bool} {n : Nat} {x : AV} (hx : ∀ k m i q s, x ≠ .ep k m i q s) : loadA h' b n x = loadA h b n x := by
  cases x <;> simp only [loadA, hb]
  exact absurd rfl (hx _ _ _ _ _)

theorem loadA_both {h h' : AH} (hb : h'.boxes = h.boxes) (hf : h'.fams = h.fams) {b : Bool} {n : Nat} {x : AV} : loadA h' b n x = loadA h b n x := by
  cases x <;> simp only [loadA, hb, hf]

theorem AH_eq {h h' : AH} (hb : h'.boxes = h.boxes) (hf : h'.fams = h.fams) : h' = h := by cases h; cases h'; simp_all

/-- What is left as it was. -/
def Moved (c : Ctx) (r : ROp) (h h1 h' h1' : AH) : Prop :=
  (r.writesB c = true → h1'.boxes = h1.boxes) ∧ (r.writesB c = false → h1'.boxes = h'.boxes ∧ h1.boxes = h.boxes) ∧
  (r.writesF c = true → h1'.fams = h1.fams) ∧ (r.writesF c = false → h1'.fams = h'.fams ∧ h1.fams = h.fams)

theorem moved_same {r : ROp} {h h' : AH} (hb : r.looksB = true → h'.boxes = h.boxes) (hf : r.looksF = true → h'.fams = h.fams) (wb : r.writesB c = true → r.looksB = true) (wf : r.writesF c = true → r.looksF = true) : Moved c r h h h' h' :=
  ⟨fun h => hb (wb h), fun _ => ⟨rfl, rfl⟩, fun h => hf (wf h), fun _ => ⟨rfl, rfl⟩⟩

theorem writes_looksB (r : ROp) : r.writesB c = true → r.looksB = true := by cases r <;> simp [ROp.writesB, ROp.looksB]
theorem writes_looksF (r : ROp) : r.writesF c = true → r.looksF = true := by cases r <;> simp [ROp.writesF, ROp.looksF]

theorem callA_heap {f : FuncId} {args : List AV} {h h1 : AH} {v : AV} (hr : c.raw f = false) (he : callA O c f args h = some (v, h1)) : h1 = h := by
  unfold callA at he
  rw [if_neg (by simp [hr])] at he
  split at he
  · cases he
  · split at he
    · cases he
    · split at he
      · cases he; rfl
      · cases he

theorem roCaps_fams : ∀ {xs : List AV} {h h' : AH} {ys : List AV}, roCaps h xs = some (ys, h') → h'.fams = h.fams
  | [], h, h', ys, he => by simp only [roCaps] at he; cases he; rfl
  | x :: xs, h, h', ys, he => by
    by_cases hp : ∃ b off, x = .ptr b off
    · obtain ⟨b, off, rfl⟩ := hp
      simp only [roCaps] at he
      split at he
      case isFalse => cases he
      split at he
      case h_2 => cases he
      split at he
      case isFalse => cases he
      simp only [Option.map_eq_some_iff] at he
      obtain ⟨⟨ys', h''⟩, hr, e⟩ := he
      cases e
      have q := roCaps_fams hr
      exact q
    · have hr : roCaps h (x :: xs) = (roCaps h xs).map fun p => (x :: p.1, p.2) := by
        cases x <;> first | rfl | exact absurd ⟨_, _, rfl⟩ hp
      rw [hr] at he
      simp only [Option.map_eq_some_iff] at he
      obtain ⟨⟨ys', h''⟩, hr, e⟩ := he
      cases e
      exact roCaps_fams hr

theorem op_heap {r : ROp} {fr : Fr} {h h1 : AH} {v : AV} (he : evalOp O c r fr h = some (v, h1)) : (r.writesB c = false → h1.boxes = h.boxes) ∧ (r.writesF c = false → h1.fams = h.fams) := by
  have same : h1 = h → (r.writesB c = false → h1.boxes = h.boxes) ∧ (r.writesF c = false → h1.fams = h.fams) := fun e => by subst e; exact ⟨fun _ => rfl, fun _ => rfl⟩
  cases r
  case st n a x => exact ⟨(fun h => nomatch h), (fun h => nomatch h)⟩
  case callv x aas =>
    have key : c.rawv = false → h1 = h := by
      intro hr
      simp only [evalOp] at he
      split at he
      · rename_i f caps hg
        split at he
        · cases he
        · rename_i hc
          exact callA_heap (O := O) (c := c) (by simpa [hr] using hc) he
      · cases he
    exact ⟨fun hr => by rw [key hr], fun hr => by rw [key hr]⟩
  case clos f cs =>
    simp only [evalOp] at he
    split at he
    · rename_i hro
      refine ⟨fun hr => ?_, fun _ => ?_⟩
      · simp only [ROp.writesB] at hr
        rw [hr] at hro
        cases hro
      · simp only [Option.map_eq_some_iff] at he
        obtain ⟨⟨ys, h2⟩, hq, he⟩ := he
        cases he
        exact roCaps_fams hq
    · cases he
      exact ⟨fun _ => rfl, fun _ => rfl⟩
  case mkmap => simp only [evalOp] at he; cases he; exact ⟨(fun h => nomatch h), (fun _ => rfl)⟩
  case mlook str ok z x k =>
    refine same ?_
    simp only [evalOp, mlookA] at he
    repeat' (split at he)
    all_goals first | (cases he; done) | (cases he; rfl)
  case bstr x =>
    refine same ?_
    simp only [evalOp, bstrA] at he
    repeat' (split at he)
    all_goals first | (cases he; done) | (cases he; rfl)
  case mup str x k w =>
    refine ⟨(fun h => nomatch h), fun _ => ?_⟩
    simp only [evalOp, mupA] at he
    repeat' (split at he)
    all_goals first | (cases he; done) | (cases he; rfl)
  case box x => simp only [evalOp] at he; split at he <;> cases he; exact ⟨(fun h => nomatch h), (fun _ => rfl)⟩
  case alloc z => simp only [evalOp] at he; cases he; exact ⟨(fun h => nomatch h), (fun _ => rfl)⟩
  case mkslice z b l q =>
    simp only [evalOp] at he
    split at he
    · split at he <;> cases he
      exact ⟨fun _ => rfl, (fun h => nomatch h)⟩
    · cases he
  case app sz b s x =>
    refine ⟨fun _ => ?_, fun h => nomatch h⟩
    simp only [evalOp, appendA] at he
    repeat' (split at he)
    all_goals first | (cases he; done) | (cases he; rfl)
  case len b x =>
    refine same ?_
    cases b <;> simp only [evalOp] at he <;> split at he <;> first | (cases he; done) | (cases he; rfl)
  case call f aas =>
    refine ⟨fun hr => ?_, fun hr => by rw [callA_heap (O := O) hr he]⟩
    cases hc : c.raw f with
    | false => rw [callA_heap (O := O) hc he]
    | true =>
      simp only [ROp.writesB, hc, Bool.true_and, Bool.not_eq_false'] at hr
      simp only [evalOp, callA, hc, if_true, hr] at he
      exact kpB_boxes he
  all_goals
    refine same ?_
    simp only [evalOp] at he
    repeat' (split at he)
    all_goals first | (cases he; done) | (cases he; rfl)

theorem op_fst {r : ROp} {fr fr' : Fr} {h h' : AH} (hs : ∀ t ∈ r.slots, fr'.getD t undefA = fr.getD t undefA) (hb : r.looksB = true → h'.boxes = h.boxes) (hf : r.looksF = true → h'.fams = h.fams) (hcall : r.isCall = false) :
    ((evalOp O c r fr h).isSome = true → (evalOp O c r fr' h').map Prod.fst = (evalOp O c r fr h).map Prod.fst) := by
  intro hsome
  cases r
  case call => simp [ROp.isCall] at hcall
  case callv => simp [ROp.isCall] at hcall
  case st n a x => obtain rfl : h' = h := AH_eq (hb rfl) (hf rfl); simp only [evalOp, get_congr (x := a) fun t ht => hs t (by simp [ROp.slots, ht]), get_congr (x := x) fun t ht => hs t (by simp [ROp.slots, ht])]
  case ld b n x => obtain rfl : h' = h := AH_eq (hb rfl) (hf rfl); simp only [evalOp, get_congr (x := x) fun t ht => hs t (by simp [ROp.slots, ht])]
  case mov x => simp only [evalOp, get_congr (x := x) fun t ht => hs t (by simp [ROp.slots, ht])]; rfl
  case pick q x y => simp only [evalOp, get_congr (x := q) fun t ht => hs t (by simp [ROp.slots, ht]), get_congr (x := x) fun t ht => hs t (by simp [ROp.slots, ht]), get_congr (x := y) fun t ht => hs t (by simp [ROp.slots, ht])]; cases get fr q <;> rfl
  case box x => simp only [evalOp, get_congr (x := x) fun t ht => hs t (by simp [ROp.slots, ht]), hb rfl]; split <;> rfl
  case alloc z => simp only [evalOp, hb rfl]; rfl
  case mkmap => simp only [evalOp, hb rfl]; rfl
  case mlook str ok z x k =>
    simp only [evalOp, mlookA, get_congr (x := x) fun t ht => hs t (by simp [ROp.slots, ht]), get_congr (x := k) fun t ht => hs t (by simp [ROp.slots, ht]), mapEnts_boxes (hb rfl)]
    repeat' split
    all_goals rfl
  case mup str x k w => obtain rfl : h' = h := AH_eq (hb rfl) (hf rfl); simp only [evalOp, get_congr (x := x) fun t ht => hs t (by simp [ROp.slots, ht]), get_congr (x := k) fun t ht => hs t (by simp [ROp.slots, ht]), get_congr (x := w) fun t ht => hs t (by simp [ROp.slots, ht])]
  case build z ps => simp only [evalOp, buildParts_congr (ps := ps) fun t ht => hs t (by simpa [ROp.slots] using ht)]; cases buildParts fr z.cells.length ps <;> rfl
  case bslice n z ps => obtain rfl : h' = h := AH_eq (hb rfl) (hf rfl); simp only [evalOp, sliceParts_congr (ps := ps) fun t ht => hs t (by simpa [ROp.slots] using ht)]
  case bslicev n z ps =>
    simp only [evalOp, flats_congr (ps := ps) fun t ht => hs t (by simpa [ROp.slots] using ht), sliceParts_congr (h := h') (ps := ps) fun t ht => hs t (by simpa [ROp.slots] using ht)]
    by_cases hc : (ps.all fun p => flatA (get fr p.2)) = true
    · rw [if_pos hc, if_pos hc, sliceParts_flat h h' hc]
      cases sliceParts fr h (List.replicate n z) ps <;> rfl
    · rw [if_neg hc, if_neg hc]
  case iaddrv sz x i =>
    simp only [evalOp, get_congr (x := x) fun t ht => hs t (by simp [ROp.slots, ht]), get_congr (x := i) fun t ht => hs t (by simp [ROp.slots, ht])]
    cases get fr x <;> first | rfl | (cases get fr i <;> first | rfl | (simp only []; split <;> first | rfl | (split <;> rfl)))
  case ldb b n x =>
    simp only [evalOp, get_congr (x := x) fun t ht => hs t (by simp [ROp.slots, ht])]
    cases hx : get fr x <;> simp only []
    all_goals
      rw [loadA_boxes (hb rfl) (by intro k m i q s h; cases h)]
      split <;> rfl
  case nilck x => simp only [evalOp, get_congr (x := x) fun t ht => hs t (by simp [ROp.slots, ht])]; cases get fr x <;> rfl
  case bin op x y => simp only [evalOp, get_congr (x := x) fun t ht => hs t (by simp [ROp.slots, ht]), get_congr (x := y) fun t ht => hs t (by simp [ROp.slots, ht])]; cases evalBin op (get fr x) (get fr y) <;> rfl
  case beq n x y =>
    simp only [evalOp, get_congr (x := x) fun t ht => hs t (by simp [ROp.slots, ht]), get_congr (x := y) fun t ht => hs t (by simp [ROp.slots, ht])]
    cases get fr x <;> first | rfl | (cases get fr y <;> rfl)
  case nileq n x => simp only [evalOp, get_congr (x := x) fun t ht => hs t (by simp [ROp.slots, ht])]; cases get fr x <;> rfl
  case un op x => simp only [evalOp, get_congr (x := x) fun t ht => hs t (by simp [ROp.slots, ht])]; cases evalUn op (get fr x) <;> rfl
  case conv k x => simp only [evalOp, get_congr (x := x) fun t ht => hs t (by simp [ROp.slots, ht])]; cases get fr x <;> rfl
  case cstr x => simp only [evalOp, get_congr (x := x) fun t ht => hs t (by simp [ROp.slots, ht])]; cases get fr x <;> rfl
  case bstr x => simp only [evalOp, bstrA, get_congr (x := x) fun t ht => hs t (by simp [ROp.slots, ht]), elems_fams (hf rfl)]; cases elems h 1 (get fr x) <;> first | rfl | (simp only []; split <;> rfl)
  case clos f cs => obtain rfl : h' = h := AH_eq (hb rfl) (hf rfl); simp only [evalOp, gets_congr (xs := cs) fun t ht => hs t (by simpa [ROp.slots] using ht)]
  case mkslice z b l q =>
    simp only [evalOp, get_congr (x := l) fun t ht => hs t (by simp [ROp.slots, ht]), get_congr (x := q) fun t ht => hs t (by simp [ROp.slots, ht]), hf rfl]
    cases get fr l <;> first | rfl | (cases get fr q <;> first | rfl | (simp only []; split <;> rfl))
  case slc sz x a b m =>
    simp only [evalOp, get_congr (x := x) fun t ht => hs t (by simp [ROp.slots, ht]), bound_congr (x := a) fun t ht => hs t (by simp [ROp.slots, ht]), bound_congr (x := b) fun t ht => hs t (by simp [ROp.slots, ht]), bound_congr (x := m) fun t ht => hs t (by simp [ROp.slots, ht]), sliceA_fams (hf rfl)]
    cases boundA fr a <;> first | rfl | (cases boundA fr b <;> first | rfl | (cases boundA fr m <;> first | rfl | (simp only []; split <;> rfl)))
  case faddr off x => simp only [evalOp, get_congr (x := x) fun t ht => hs t (by simp [ROp.slots, ht])]; cases get fr x <;> rfl
  case fld b off n x =>
    simp only [evalOp, get_congr (x := x) fun t ht => hs t (by simp [ROp.slots, ht])]
    cases get fr x <;> first | rfl | (simp only []; split <;> rfl)
  case iaddr sz x i =>
    simp only [evalOp, get_congr (x := x) fun t ht => hs t (by simp [ROp.slots, ht]), get_congr (x := i) fun t ht => hs t (by simp [ROp.slots, ht])]
    cases get fr x <;> first | rfl | (cases get fr i <;> first | rfl | (simp only []; split <;> first | rfl | (split <;> rfl)))
  case idx x i =>
    simp only [evalOp, get_congr (x := x) fun t ht => hs t (by simp [ROp.slots, ht]), get_congr (x := i) fun t ht => hs t (by simp [ROp.slots, ht])]
    cases get fr x <;> first | rfl | (cases get fr i <;> first | rfl | (simp only []; split <;> first | rfl | (split <;> rfl)))
  case ext x i =>
    simp only [evalOp, get_congr (x := x) fun t ht => hs t (by simp [ROp.slots, ht])]
    cases get fr x <;> first | rfl | (simp only []; split <;> rfl)
  case len b x => cases b <;> simp only [evalOp, get_congr (x := x) fun t ht => hs t (by simp [ROp.slots, ht])] <;> cases get fr x <;> rfl
  case app sz b s x =>
    simp only [evalOp, appendA, get_congr (x := s) fun t ht => hs t (by simp [ROp.slots, ht]), get_congr (x := x) fun t ht => hs t (by simp [ROp.slots, ht]), elems_fams (hf rfl), hf rfl]
    split
    · rfl
    · split
      · split
        · rfl
        · split <;> rfl
      · split
        · split <;> rfl
        · rfl
      · rfl
  case max x y =>
    simp only [evalOp, get_congr (x := x) fun t ht => hs t (by simp [ROp.slots, ht]), get_congr (x := y) fun t ht => hs t (by simp [ROp.slots, ht])]
    cases get fr x <;> first | rfl | (cases get fr y <;> first | rfl | (simp only []; split <;> rfl))

end
end Go.Abs

/- A statement whose order is open: whatever order comes, the end is that of the text's order. -/
namespace Go.Abs
open Go.RowKit (Below)
section
variable {O : Orc} {c : Ctx}

theorem op_congr {r : ROp} {fr fr' : Fr} {h h' h1 : AH} {v : AV} (hs : ∀ t ∈ r.slots, fr'.getD t undefA = fr.getD t undefA) (hb : r.looksB = true → h'.boxes = h.boxes) (hf : r.looksF = true → h'.fams = h.fams)
    (he : evalOp O c r fr h = some (v, h1)) : ∃ h1', evalOp O c r fr' h' = some (v, h1') ∧ (r.writesB c = true → h1'.boxes = h1.boxes) ∧ (r.writesF c = true → h1'.fams = h1.fams) := by
  by_cases hcall : r.isCall = false
  · have h2 := op_fst (O := O) hs hb hf hcall (by rw [he]; rfl)
    rw [he] at h2
    cases h3 : evalOp O c r fr' h' with
    | none => rw [h3] at h2; cases h2
    | some x =>
      obtain ⟨v', h1'⟩ := x
      rw [h3] at h2
      have : v' = v := by simpa using h2
      subst this
      refine ⟨h1', rfl, fun hw => ?_, fun hw => ?_⟩
      · cases r <;> simp only [ROp.writesB] at hw <;> try (cases hw; done)
        case call => simp [ROp.isCall] at hcall
        case callv => simp [ROp.isCall] at hcall
        case st n a x =>
          obtain rfl : h' = h := AH_eq (hb rfl) (hf rfl)
          simp only [evalOp, get_congr (x := a) fun t ht => hs t (by simp [ROp.slots, ht]), get_congr (x := x) fun t ht => hs t (by simp [ROp.slots, ht])] at h3 he
          rw [h3] at he; cases he; rfl
        case box x =>
          simp only [evalOp, get_congr (x := x) fun t ht => hs t (by simp [ROp.slots, ht]), hb rfl] at h3 he
          split at he
          · cases he
          · rename_i ht; rw [if_neg ht] at h3; cases he; cases h3; rfl
        case alloc z => simp only [evalOp, hb rfl] at h3 he; cases he; cases h3; rfl
        case clos f cs =>
          obtain rfl : h' = h := AH_eq (hb rfl) (hf rfl)
          simp only [evalOp, gets_congr (xs := cs) fun t ht => hs t (by simpa [ROp.slots] using ht)] at h3 he
          rw [h3] at he; cases he; rfl
        case mkmap => simp only [evalOp, hb rfl] at h3 he; cases he; cases h3; rfl
        case mup str x k w =>
          obtain rfl : h' = h := AH_eq (hb rfl) (hf rfl)
          simp only [evalOp, get_congr (x := x) fun t ht => hs t (by simp [ROp.slots, ht]), get_congr (x := k) fun t ht => hs t (by simp [ROp.slots, ht]), get_congr (x := w) fun t ht => hs t (by simp [ROp.slots, ht])] at h3 he
          rw [h3] at he; cases he; rfl
      · cases r <;> simp only [ROp.writesF] at hw <;> try (cases hw; done)
        case call => simp [ROp.isCall] at hcall
        case callv => simp [ROp.isCall] at hcall
        case st n a x =>
          obtain rfl : h' = h := AH_eq (hb rfl) (hf rfl)
          simp only [evalOp, get_congr (x := a) fun t ht => hs t (by simp [ROp.slots, ht]), get_congr (x := x) fun t ht => hs t (by simp [ROp.slots, ht])] at h3 he
          rw [h3] at he; cases he; rfl
        case mkslice z b l q =>
          simp only [evalOp, get_congr (x := l) fun t ht => hs t (by simp [ROp.slots, ht]), get_congr (x := q) fun t ht => hs t (by simp [ROp.slots, ht]), hf rfl] at h3 he
          split at he
          · rename_i e1 e2
            simp only [e1, e2] at h3
            split at he
            · rename_i hc; rw [if_pos hc] at h3; cases he; cases h3; rfl
            · cases he
          · cases he
        case app sz b s x =>
          simp only [evalOp, appendA, get_congr (x := s) fun t ht => hs t (by simp [ROp.slots, ht]), get_congr (x := x) fun t ht => hs t (by simp [ROp.slots, ht]), elems_fams (hf rfl), hf rfl] at h3 he
          cases hel : elems h sz (get fr x) with
          | none => rw [hel] at he; cases he
          | some ys =>
            rw [hel] at he h3
            dsimp only at he h3
            cases hg : get fr s <;> rw [hg] at he h3 <;> (try dsimp only at he h3) <;> try (cases he; done)
            case vs full z xs =>
              cases full <;> (try dsimp only at he h3)
              · cases he
              · split at he
                · rename_i hc; rw [if_pos hc] at h3; cases he; cases h3; exact hf rfl
                · rename_i hc; rw [if_neg hc] at h3
                  split at he
                  · rename_i hc2; rw [if_pos hc2] at h3; cases he; cases h3; rfl
                  · cases he
            case sl k n off len =>
              cases hk : h.fams[k]? with
              | none => rw [hk] at he; cases he
              | some f =>
                rw [hk] at he h3
                dsimp only at he h3
                split at he
                · rename_i hc; rw [if_pos hc] at h3; cases he; cases h3; rfl
                · cases he
  · cases r <;> simp only [ROp.isCall] at hcall <;> try (exact absurd trivial hcall)
    case callv x aas =>
      obtain rfl : h' = h := AH_eq (hb rfl) (hf rfl)
      refine ⟨h1, ?_, fun _ => rfl, fun _ => rfl⟩
      rw [← he]
      simp only [evalOp, get_congr (x := x) fun t ht => hs t (by simp only [ROp.slots, List.mem_append]; exact .inl ht), gets_congr (xs := aas) fun t ht => hs t (by simp only [ROp.slots, List.mem_append]; exact .inr ht)]
    case call f aas =>
      have ha : aas.map (get fr') = aas.map (get fr) := gets_congr (xs := aas) fun t ht => hs t (by simpa [ROp.slots] using ht)
      obtain rfl : h' = h := AH_eq (hb rfl) (hf rfl)
      exact ⟨h1, by rw [← he]; simp only [evalOp, ha], fun _ => rfl, fun _ => rfl⟩

/-! ### Which operations surely come before another -/

def deps (o : Oper) (acc : List Nat) : Nat := o.after.toList.foldl (fun s e => if Region.binds .any e then s ||| 2 ^ e.on ||| acc.getD e.on 0 else s) 0

theorem before_spec : ∀ (l : List Oper) (acc : List Nat), ∃ ext, before l acc = acc ++ ext ∧ ext.length = l.length ∧ ∀ (k : Nat) (o : Oper), l[k]? = some o → ext[k]? = some (deps o (acc ++ ext.take k))
  | [], acc => ⟨[], by simp [before], rfl, fun k o h => by simp at h⟩
  | o :: l, acc => by
    obtain ⟨ext, h1, h2, h3⟩ := before_spec l (acc ++ [deps o acc])
    refine ⟨deps o acc :: ext, ?_, by simp [h2], fun k o' hk => ?_⟩
    · rw [before]
      show before l (acc ++ [deps o acc]) = _
      rw [h1]; simp
    · cases k with
      | zero => simp at hk; subst hk; simp
      | succ k =>
        have := h3 k o' (by simpa using hk)
        simpa using this

theorem fold_bits {acc : List Nat} {i : Nat} : ∀ (l : List Edge) (s : Nat), (l.foldl (fun s e => if Region.binds .any e then s ||| 2 ^ e.on ||| acc.getD e.on 0 else s) s).testBit i = true →
    s.testBit i = true ∨ ∃ e ∈ l, Region.binds .any e = true ∧ (e.on = i ∨ (acc.getD e.on 0).testBit i = true)
  | [], s, h => .inl h
  | e :: l, s, h => by
    simp only [List.foldl_cons] at h
    rcases fold_bits l _ h with h1 | ⟨e', he', h1⟩
    · split at h1
      · rename_i hb
        rw [Nat.testBit_or, Nat.testBit_or] at h1
        simp only [Bool.or_eq_true] at h1
        rcases h1 with (h1 | h1) | h1
        · exact .inl h1
        · rw [Nat.testBit_two_pow] at h1
          exact .inr ⟨e, by simp, hb, .inl (by simpa using h1)⟩
        · exact .inr ⟨e, by simp, hb, .inr h1⟩
      · exact .inl h1
    · exact .inr ⟨e', by simp [he'], h1⟩

/-- Operation i surely comes before operation j. -/
def Dep (ops : List Oper) (i j : Nat) : Prop := ((before ops []).getD j 0).testBit i = true

theorem dep_edge {ops : List Oper} {i j : Nat} (h : Dep ops i j) : ∃ o e, ops[j]? = some o ∧ e ∈ o.after.toList ∧ Region.binds .any e = true ∧ (e.on = i ∨ Dep ops i e.on) := by
  obtain ⟨ext, h1, h2, h3⟩ := before_spec ops []
  simp only [List.nil_append] at h1 h3
  unfold Dep at h
  rw [h1] at h
  cases ho : ops[j]? with
  | none =>
    have : ext[j]? = none := by
      rw [List.getElem?_eq_none_iff] at ho ⊢
      omega
    simp [List.getD, this] at h
  | some o =>
    have h4 := h3 j o ho
    rw [List.getD, h4] at h
    simp only [Option.getD_some] at h
    unfold deps at h
    rcases fold_bits _ _ h with h5 | ⟨e, he, hb, h5⟩
    · simp at h5
    · refine ⟨o, e, rfl, he, hb, ?_⟩
      rcases h5 with h5 | h5
      · exact .inl h5
      · right
        unfold Dep
        rw [h1]
        have : (ext.take j).getD e.on 0 = ext.getD e.on 0 ∨ (ext.take j).getD e.on 0 = 0 := by
          simp only [List.getD, List.getElem?_take]
          split
          · exact .inl rfl
          · exact .inr rfl
        rcases this with h6 | h6
        · rw [← h6]; exact h5
        · rw [h6] at h5; simp at h5

theorem edges_lt : ∀ {ops : List Oper} {k : Nat}, edgesOk ops k = true → ∀ {j : Nat} {o : Oper} {e : Edge}, ops[j]? = some o → e ∈ o.after.toList → Region.binds .any e = true → e.on < k + j
  | [], _, _, j, o, e, h, _, _ => by simp at h
  | o' :: ops, k, h, j, o, e, ho, he, hb => by
    simp only [edgesOk, Bool.and_eq_true] at h
    cases j with
    | zero =>
      simp at ho; subst ho
      have := (List.all_eq_true.1 h.1) e he
      simp [hb] at this
      omega
    | succ j =>
      have := edges_lt h.2 (j := j) (o := o) (by simpa using ho) he hb
      omega

end
end Go.Abs

/- The theorem on a statement whose order is open. -/
namespace Go.Abs
open Go.RowKit (Below)
section
variable {P : Program} {O : Orc} {c : Ctx}

theorem trace_of : ∀ {ros : List RO} {fr fr' : Fr} {h h' : AH}, evalOps O c ros fr h = some (fr', h') →
    ∃ (F : Nat → Fr) (H : Nat → AH) (V : Nat → AV), F 0 = fr ∧ H 0 = h ∧ F ros.length = fr' ∧ H ros.length = h' ∧
      ∀ (i : Nat) (ro : RO), ros[i]? = some ro → stepA O c ro (F i) (H i) = some (V i, H (i + 1)) ∧ F (i + 1) = put (F i) ro.dst (V i)
  | [], fr, fr', h, h', he => by
    simp only [evalOps] at he
    cases he
    exact ⟨fun _ => fr, fun _ => h, fun _ => .junk, rfl, rfl, rfl, rfl, fun i ro hr => by simp at hr⟩
  | o :: ros, fr, fr', h, h', he => by
    rw [evalOps_cons, Option.bind_eq_some_iff] at he
    obtain ⟨⟨v, h1⟩, hst, hrest⟩ := he
    obtain ⟨F, H, V, f0, f1, f2, f3, f4⟩ := trace_of hrest
    refine ⟨fun i => if i = 0 then fr else F (i - 1), fun i => if i = 0 then h else H (i - 1), fun i => if i = 0 then v else V (i - 1), by simp, by simp, by simpa using f2, by simpa using f3, fun i ro hr => ?_⟩
    cases i with
    | zero =>
      simp at hr; subst hr
      simp [f0, f1, hst]
    | succ i =>
      have := f4 i ro (by simpa using hr)
      simpa using this

theorem put_len (fr : Fr) (d : Option Nat) (v : AV) : (put fr d v).length = fr.length := by cases d <;> simp [put]

theorem put_getD_same {fr : Fr} {t : Nat} {v : AV} (h : t < fr.length) : (put fr (some t) v).getD t undefA = v := by simp [put, List.getD, h]
theorem put_getD_other {fr : Fr} {d : Option Nat} {t : Nat} {v : AV} (h : d ≠ some t) : (put fr d v).getD t undefA = fr.getD t undefA := by
  cases d with
  | none => rfl
  | some d =>
    have : d ≠ t := fun e => h (by rw [e])
    simp [put, List.getD, List.getElem?_set_ne this]

theorem step_congr {ro : RO} {fr fr' : Fr} {h h' h1 : AH} {v : AV} (hs : ∀ t ∈ ro.slots, fr'.getD t undefA = fr.getD t undefA) (hb : ro.op.looksB = true → h'.boxes = h.boxes) (hf : ro.op.looksF = true → h'.fams = h.fams)
    (he : stepA O c ro fr h = some (v, h1)) :
    ∃ h1', stepA O c ro fr' h' = some (v, h1') ∧ (ro.op.writesB c = true → h1'.boxes = h1.boxes) ∧ (ro.op.writesB c = false → h1'.boxes = h'.boxes) ∧ (ro.op.writesF c = true → h1'.fams = h1.fams) ∧ (ro.op.writesF c = false → h1'.fams = h'.fams) := by
  have hw : wantedA fr' ro.guard = wantedA fr ro.guard := by
    cases hg : ro.guard with
    | none => rfl
    | some g =>
      obtain ⟨s, want⟩ := g
      have := hs s (by simp [RO.slots, hg])
      simp only [wantedA, this]
  unfold stepA at he ⊢
  rw [hw]
  split at he
  · obtain ⟨h1', e1, e2, e3⟩ := op_congr (fun t ht => hs t (by simp only [RO.slots, List.mem_append]; exact .inl ht)) hb hf he
    exact ⟨h1', e1, e2, (op_heap e1).1, e3, (op_heap e1).2⟩
  · cases he
    exact ⟨h', rfl, fun w => hb (writes_looksB _ w), fun _ => rfl, fun w => hf (writes_looksF _ w), fun _ => rfl⟩
  · cases he

theorem step_heap {ro : RO} {fr : Fr} {h h1 : AH} {v : AV} (he : stepA O c ro fr h = some (v, h1)) : (ro.op.writesB c = false → h1.boxes = h.boxes) ∧ (ro.op.writesF c = false → h1.fams = h.fams) := by
  unfold stepA at he
  split at he
  · exact op_heap he
  · cases he; exact ⟨fun _ => rfl, fun _ => rfl⟩
  · cases he

theorem pair_of {bs : List Nat} {ros : List RO} (h : pairsOk c bs ros = true) {i j : Nat} {oi oj : RO} (hij : i < j) (hi : ros[i]? = some oi) (hj : ros[j]? = some oj) :
    pairOk c (bs.getD j 0) i oi oj = true ∧ (∀ d, oi.dst = some d → oj.dst ≠ some d) := by
  unfold pairsOk at h
  have hjl := (List.getElem?_eq_some_iff.1 hj).1
  have h1 := (List.all_eq_true.1 h) j (List.mem_range.2 hjl)
  have h2 := (List.all_eq_true.1 h1) i (List.mem_range.2 hij)
  simp only [hi, hj, Bool.and_eq_true] at h2
  refine ⟨h2.1, fun d hd hd' => ?_⟩
  have := h2.2
  rw [hd, hd'] at this
  simp at this

/-- What the check of a pair gives where neither surely comes first. -/
theorem apart_of {ops : List Oper} {ros : List RO} (h : pairsOk c (before ops []) ros = true) {i j : Nat} {oi oj : RO} (hij : i < j) (hi : ros[i]? = some oi) (hj : ros[j]? = some oj) (hd : ¬ Dep ops i j) :
    (∀ d, oi.dst = some d → d ∉ oj.slots) ∧ (∀ d, oj.dst = some d → d ∉ oi.slots) ∧ (oi.op.writesB c = true → oj.op.looksB = false) ∧ (oi.op.looksB = true → oj.op.writesB c = false) ∧
      (oi.op.writesF c = true → oj.op.looksF = false) ∧ (oi.op.looksF = true → oj.op.writesF c = false) := by
  obtain ⟨h1, _⟩ := pair_of h hij hi hj
  unfold pairOk at h1
  have hd' : ((before ops []).getD j 0).testBit i = false := by simpa [Dep] using hd
  rw [hd', Bool.false_or] at h1
  simp only [Bool.and_eq_true, Bool.not_eq_true', Bool.and_eq_false_iff] at h1
  obtain ⟨⟨⟨⟨⟨a1, a2⟩, a3⟩, a4⟩, a5⟩, a6⟩ := h1
  refine ⟨fun d hd => ?_, fun d hd => ?_, fun hw => ?_, fun hw => ?_, fun hw => ?_, fun hw => ?_⟩
  · rw [hd] at a1; simp at a1; exact a1.1
  · rw [hd] at a2; simpa using a2
  · rcases a3 with h | h
    · rw [hw] at h; cases h
    · exact h
  · rcases a4 with h | h
    · rw [hw] at h; cases h
    · exact h
  · rcases a5 with h | h
    · rw [hw] at h; cases h
    · exact h
  · rcases a6 with h | h
    · rw [hw] at h; cases h
    · exact h

def Lst (listed : Array Bool) (i : Nat) : Prop := listed.getD i false = true

theorem Lst_set {listed : Array Bool} {j i : Nat} (hj : j < listed.size) : Lst (listed.setIfInBounds j true) i ↔ i = j ∨ Lst listed i := by
  unfold Lst
  by_cases h : i = j
  · subst h
    simp [Array.getD_eq_getD_getElem?, hj]
  · simp [Array.getD_eq_getD_getElem?, Array.getElem?_setIfInBounds_ne (Ne.symm h), h]

theorem ready_iff {ops : Array Oper} {listed : Array Bool} (hl : listed.size = ops.size) {j : Nat} : j ∈ Region.ready .any ops listed ↔ ∃ o, ops[j]? = some o ∧ ¬ Lst listed j ∧ ∀ e ∈ o.after.toList, Region.binds .any e = true → Lst listed e.on := by
  unfold Region.ready Lst
  simp only [List.mem_filter, List.mem_range, Bool.and_eq_true, Bool.not_eq_true']
  constructor
  · rintro ⟨h1, h2, h3⟩
    have ho : ops[j]? = some ops[j] := Array.getElem?_eq_getElem h1
    refine ⟨ops[j], ho, ?_, fun e he hb => ?_⟩
    · rw [Array.getD_eq_getD_getElem?] at h2 ⊢
      rw [Array.getElem?_eq_getElem (by omega)] at h2 ⊢
      simpa using h2
    · rw [ho] at h3
      simp only [Option.map_some, Option.getD_some, Array.all_eq_true_iff_forall_mem] at h3
      have := h3 e (by simpa using he)
      simpa [hb] using this
  · rintro ⟨o, h1, h2, h3⟩
    have hlt := (Array.getElem?_eq_some_iff.1 h1).1
    refine ⟨hlt, ?_, ?_⟩
    · rw [Array.getD_eq_getD_getElem?] at h2 ⊢
      rw [Array.getElem?_eq_getElem (by omega)] at h2 ⊢
      simpa using h2
    · rw [h1]
      simp only [Option.map_some, Option.getD_some, Array.all_eq_true_iff_forall_mem]
      intro e he
      cases hb : Region.binds .any e with
      | false => rfl
      | true => simpa using h3 e (by simpa using he) hb

/-- What a statement's evaluation in the text's order lays down. -/
structure Tr (O : Orc) (c : Ctx) (ops : Array Oper) (ros : List RO) (F : Nat → Fr) (H : Nat → AH) (V : Nat → AV) : Prop where
  len : ros.length = ops.size
  rel : ∀ (i : Nat) (o : Oper) (ro : RO), ops[i]? = some o → ros[i]? = some ro → RORel P ops.toList o ro
  edges : edgesOk ops.toList 0 = true
  pairs : pairsOk c (before ops.toList []) ros = true
  step : ∀ (i : Nat) (ro : RO), ros[i]? = some ro → stepA O c ro (F i) (H i) = some (V i, H (i + 1)) ∧ F (i + 1) = put (F i) ro.dst (V i)

section
variable {ops : Array Oper} {ros : List RO} {F : Nat → Fr} {H : Nat → AH} {V : Nat → AV}

theorem Tr.flen (T : Tr (P := P) O c ops ros F H V) : ∀ i, i ≤ ros.length → (F i).length = (F 0).length
  | 0, _ => rfl
  | i + 1, h => by
    rw [(T.step i _ (List.getElem?_eq_getElem (by omega))).2, put_len]
    exact T.flen i (by omega)

theorem Tr.ghost (T : Tr (P := P) O c ops ros F H V) {t : Nat} : ∀ j, j ≤ ros.length → (∀ (i : Nat) (ro : RO), i < j → ros[i]? = some ro → ro.dst ≠ some t) → (F j).getD t undefA = (F 0).getD t undefA
  | 0, _, _ => rfl
  | j + 1, h, hn => by
    have hj : ros[j]? = some ros[j] := List.getElem?_eq_getElem (by omega)
    rw [(T.step j _ hj).2, put_getD_other (hn j _ (by omega) hj)]
    exact T.ghost j (by omega) fun i ro hi => hn i ro (by omega)

theorem Tr.written (T : Tr (P := P) O c ops ros F H V) {t i : Nat} {ri : RO} (hi : ros[i]? = some ri) (hd : ri.dst = some t) (ht : t < (F 0).length) : ∀ j, j ≤ ros.length → i < j → (F j).getD t undefA = V i
  | 0, _, h => by omega
  | j + 1, h, hij => by
    have hj : ros[j]? = some ros[j] := List.getElem?_eq_getElem (by omega)
    rw [(T.step j _ hj).2]
    by_cases he : i = j
    · subst he
      rw [hi] at hj
      have : ros[i] = ri := by simpa using hj.symm
      rw [this, hd]
      exact put_getD_same (by rw [T.flen i (by omega)]; exact ht)
    · rw [put_getD_other ((pair_of T.pairs (show i < j by omega) hi hj).2 t hd)]
      exact T.written hi hd ht j (by omega) (by omega)

theorem Tr.boxes (T : Tr (P := P) O c ops ros F H V) {i : Nat} : ∀ k, k ≤ ros.length → i ≤ k → (∀ (m : Nat) (rm : RO), i ≤ m → m < k → ros[m]? = some rm → rm.op.writesB c = false) → (H k).boxes = (H i).boxes
  | 0, _, h, _ => by have : i = 0 := by omega
                     subst this; rfl
  | k + 1, h, hik, hn => by
    by_cases he : i = k + 1
    · subst he; rfl
    · have hk : ros[k]? = some ros[k] := List.getElem?_eq_getElem (by omega)
      rw [(step_heap (T.step k _ hk).1).1 (hn k _ (by omega) (by omega) hk)]
      exact T.boxes k (by omega) (by omega) fun m rm h1 h2 => hn m rm h1 (by omega)

theorem Tr.fams (T : Tr (P := P) O c ops ros F H V) {i : Nat} : ∀ k, k ≤ ros.length → i ≤ k → (∀ (m : Nat) (rm : RO), i ≤ m → m < k → ros[m]? = some rm → rm.op.writesF c = false) → (H k).fams = (H i).fams
  | 0, _, h, _ => by have : i = 0 := by omega
                     subst this; rfl
  | k + 1, h, hik, hn => by
    by_cases he : i = k + 1
    · subst he; rfl
    · have hk : ros[k]? = some ros[k] := List.getElem?_eq_getElem (by omega)
      rw [(step_heap (T.step k _ hk).1).2 (hn k _ (by omega) (by omega) hk)]
      exact T.fams k (by omega) (by omega) fun m rm h1 h2 => hn m rm h1 (by omega)

/-- Where the exploration stands. -/
structure Inv (ops : Array Oper) (ros : List RO) (F : Nat → Fr) (H : Nat → AH) (V : Nat → AV) (c : Ctx) (listed : Array Bool) (E : Env) (frS : Fr) : Prop where
  size : listed.size = ops.size
  closed : ∀ j, Lst listed j → ∀ i, Dep ops.toList i j → Lst listed i
  flen : frS.length = (F 0).length
  wrote : ∀ (i t : Nat) (ro : RO), ros[i]? = some ro → Lst listed i → ro.dst = some t → t < (F 0).length → frS.getD t undefA = V i
  kept : ∀ t : Nat, (∀ (i : Nat) (ro : RO), ros[i]? = some ro → Lst listed i → ro.dst ≠ some t) → frS.getD t undefA = (F 0).getD t undefA
  boxes : ∀ k, k ≤ ros.length → (∀ (m : Nat) (rm : RO), ros[m]? = some rm → rm.op.writesB c = true → (Lst listed m ↔ m < k)) → E.h.boxes = (H k).boxes
  fams : ∀ k, k ≤ ros.length → (∀ (m : Nat) (rm : RO), ros[m]? = some rm → rm.op.writesF c = true → (Lst listed m ↔ m < k)) → E.h.fams = (H k).fams

theorem Dep_lt (T : Tr (P := P) O c ops ros F H V) : ∀ {j i : Nat}, Dep ops.toList i j → i < j := by
  intro j
  induction j using Nat.strongRecOn with
  | _ j ih =>
    intro i h
    obtain ⟨o, e, ho, he, hb, h1⟩ := dep_edge h
    have hlt := edges_lt T.edges ho he hb
    rcases h1 with h1 | h1
    · omega
    · have := ih e.on (by omega) h1
      omega

/-- For an operation that comes up now: whatever disturbs it stands as it stood in the text's order. -/
theorem Inv.view (T : Tr (P := P) O c ops ros F H V) {listed : Array Bool} {E : Env} {frS : Fr} (I : Inv ops ros F H V c listed E frS) {j : Nat} {rj : RO} (hj : ros[j]? = some rj) (hnl : ¬ Lst listed j) (hdeps : ∀ i, Dep ops.toList i j → Lst listed i) :
    (∀ t ∈ rj.slots, frS.getD t undefA = (F j).getD t undefA) ∧ (rj.op.looksB = true → E.h.boxes = (H j).boxes) ∧ (rj.op.looksF = true → E.h.fams = (H j).fams) := by
  have hjl := (List.getElem?_eq_some_iff.1 hj).1
  -- for an operation m that must not be reordered with j
  have side : ∀ (m : Nat) (rm : RO), ros[m]? = some rm → m ≠ j → ((m < j → Dep ops.toList m j) ∧ (j < m → Dep ops.toList j m)) → (Lst listed m ↔ m < j) := by
    intro m rm hm hne hd
    constructor
    · intro hl
      rcases Nat.lt_or_gt_of_ne hne with h | h
      · exact h
      · exact absurd (I.closed m hl j (hd.2 h)) hnl
    · intro h
      exact hdeps m (hd.1 h)
  refine ⟨fun t ht => ?_, fun hB => ?_, fun hF => ?_⟩
  · by_cases hw : ∃ (m : Nat) (rm : RO), ros[m]? = some rm ∧ rm.dst = some t
    · obtain ⟨m, rm, hm, hd⟩ := hw
      have hml := (List.getElem?_eq_some_iff.1 hm).1
      by_cases hmj : m = j
      · -- it writes the slot itself: not yet
        subst hmj
        have h1 : frS.getD t undefA = (F 0).getD t undefA := I.kept t fun i ro hi hl hdi => by
          rcases Nat.lt_trichotomy i m with h | h | h
          · exact (pair_of T.pairs h hi hm).2 t hdi hd
          · subst h; exact hnl hl
          · exact (pair_of T.pairs h hm hi).2 t hd hdi
        have h2 : (F m).getD t undefA = (F 0).getD t undefA := T.ghost m (by omega) fun i ro h hi hdi => (pair_of T.pairs h hi hm).2 t hdi hd
        rw [h1, h2]
      · have hs : Lst listed m ↔ m < j := by
          refine side m rm hm hmj ⟨fun h => ?_, fun h => ?_⟩
          · exact Classical.byContradiction fun hn => (apart_of T.pairs h hm hj hn).1 t hd ht
          · exact Classical.byContradiction fun hn => (apart_of T.pairs h hj hm hn).2.1 t hd ht
        by_cases htl : t < (F 0).length
        · by_cases hlt : m < j
          · rw [I.wrote m t rm hm (hs.2 hlt) hd htl, T.written hm hd htl j (by omega) hlt]
          · have h1 : frS.getD t undefA = (F 0).getD t undefA := I.kept t fun i ro hi hl hdi => by
              rcases Nat.lt_trichotomy i m with h | h | h
              · exact (pair_of T.pairs h hi hm).2 t hdi hd
              · subst h; exact hlt (hs.1 hl)
              · exact (pair_of T.pairs h hm hi).2 t hd hdi
            have h2 : (F j).getD t undefA = (F 0).getD t undefA := T.ghost j (by omega) fun i ro h hi hdi => by
              rcases Nat.lt_trichotomy i m with h' | h' | h'
              · exact (pair_of T.pairs h' hi hm).2 t hdi hd
              · omega
              · exact (pair_of T.pairs h' hm hi).2 t hd hdi
            rw [h1, h2]
        · have h1 : frS.getD t undefA = undefA := by simp [List.getD, List.getElem?_eq_none (show frS.length ≤ t by rw [I.flen]; omega)]
          have h2 : (F j).getD t undefA = undefA := by simp [List.getD, List.getElem?_eq_none (show (F j).length ≤ t by rw [T.flen j (by omega)]; omega)]
          rw [h1, h2]
    · have hw' : ∀ (i : Nat) (ro : RO), ros[i]? = some ro → ro.dst ≠ some t := fun i ro hi hd => hw ⟨i, ro, hi, hd⟩
      rw [I.kept t fun i ro hi _ => hw' i ro hi, T.ghost j (by omega) fun i ro _ hi => hw' i ro hi]
  · refine I.boxes j (by omega) fun m rm hm hwm => ?_
    by_cases hmj : m = j
    · subst hmj; exact ⟨fun h => absurd h hnl, fun h => by omega⟩
    · refine side m rm hm hmj ⟨fun h => ?_, fun h => ?_⟩
      · exact Classical.byContradiction fun hn => by have := (apart_of T.pairs h hm hj hn).2.2.1 hwm; rw [hB] at this; cases this
      · exact Classical.byContradiction fun hn => by have := (apart_of T.pairs h hj hm hn).2.2.2.1 hB; rw [hwm] at this; cases this
  · refine I.fams j (by omega) fun m rm hm hwm => ?_
    by_cases hmj : m = j
    · subst hmj; exact ⟨fun h => absurd h hnl, fun h => by omega⟩
    · refine side m rm hm hmj ⟨fun h => ?_, fun h => ?_⟩
      · exact Classical.byContradiction fun hn => by have := (apart_of T.pairs h hm hj hn).2.2.2.2.1 hwm; rw [hF] at this; cases this
      · exact Classical.byContradiction fun hn => by have := (apart_of T.pairs h hj hm hn).2.2.2.2.2 hF; rw [hwm] at this; cases this

end
end
end Go.Abs

/- The theorem on a statement whose order is open, ended; the two kinds of statements. -/
namespace Go.Abs
open Go.RowKit (Below)
section
variable {P : Program} {O : Orc} {c : Ctx} {ops : Array Oper} {ros : List RO} {F : Nat → Fr} {H : Nat → AH} {V : Nat → AV}

theorem Inv.next (T : Tr (P := P) O c ops ros F H V) {listed : Array Bool} {E E' : Env} {frS : Fr} (I : Inv ops ros F H V c listed E frS) {j : Nat} {rj : RO} (hj : ros[j]? = some rj) (hnl : ¬ Lst listed j) (hdeps : ∀ i, Dep ops.toList i j → Lst listed i)
    {h1 : AH} (hE : E'.h = h1) (wB : rj.op.writesB c = true → h1.boxes = (H (j + 1)).boxes) (nB : rj.op.writesB c = false → h1.boxes = E.h.boxes) (wF : rj.op.writesF c = true → h1.fams = (H (j + 1)).fams) (nF : rj.op.writesF c = false → h1.fams = E.h.fams) :
    Inv ops ros F H V c (listed.setIfInBounds j true) E' (put frS rj.dst (V j)) := by
  have hjl := (List.getElem?_eq_some_iff.1 hj).1
  have hjs : j < listed.size := by rw [I.size, ← T.len]; exact hjl
  subst hE
  -- an operation that writes what j writes is not listed unless it comes before j
  have order : ∀ (m : Nat) (rm : RO), ros[m]? = some rm → m ≠ j → ((rm.op.writesB c = true ∧ rj.op.writesB c = true) ∨ (rm.op.writesF c = true ∧ rj.op.writesF c = true)) → Lst listed m → m < j := by
    intro m rm hm hne hw hl
    rcases Nat.lt_or_gt_of_ne hne with h | h
    · exact h
    · exfalso
      have hd : Dep ops.toList j m := Classical.byContradiction fun hn => by
        have ha := apart_of T.pairs h hj hm hn
        rcases hw with ⟨w1, w2⟩ | ⟨w1, w2⟩
        · have := ha.2.2.1 w2; rw [writes_looksB _ w1] at this; cases this
        · have := ha.2.2.2.2.1 w2; rw [writes_looksF _ w1] at this; cases this
      exact hnl (I.closed m hl j hd)
  refine ⟨by simpa using I.size, fun i hi k hk => ?_, by rw [put_len]; exact I.flen, fun i t ro hi hl hd ht => ?_, fun t hn => ?_, fun k hk hm => ?_, fun k hk hm => ?_⟩
  · rw [Lst_set hjs] at hi ⊢
    rcases hi with rfl | hi
    · exact .inr (hdeps k hk)
    · exact .inr (I.closed i hi k hk)
  · rw [Lst_set hjs] at hl
    by_cases hij : i = j
    · subst hij
      rw [hi] at hj
      have : ro = rj := by simpa using hj
      subst this
      rw [hd]
      exact put_getD_same (by rw [I.flen]; exact ht)
    · have hl' : Lst listed i := hl.resolve_left hij
      have hne : rj.dst ≠ some t := by
        rcases Nat.lt_or_gt_of_ne hij with h | h
        · exact (pair_of T.pairs h hi hj).2 t hd
        · exact fun hd' => (pair_of T.pairs h hj hi).2 t hd' hd
      rw [put_getD_other hne]
      exact I.wrote i t ro hi hl' hd ht
  · have h1 : rj.dst ≠ some t := hn j rj hj ((Lst_set hjs).2 (.inl rfl))
    rw [put_getD_other h1]
    exact I.kept t fun i ro hi hl => hn i ro hi ((Lst_set hjs).2 (.inr hl))
  · by_cases hw : rj.op.writesB c = true
    · rw [wB hw]
      have hjk : j < k := (hm j rj hj hw).1 ((Lst_set hjs).2 (.inl rfl))
      refine (T.boxes k hk (by omega) fun m rm h1 h2 hmr => ?_).symm
      cases hwm : rm.op.writesB c with
      | false => rfl
      | true =>
        have := (hm m rm hmr hwm).2 h2
        rw [Lst_set hjs] at this
        rcases this with h | h
        · omega
        · have := order m rm hmr (by omega) (.inl ⟨hwm, hw⟩) h
          omega
    · have hw' : rj.op.writesB c = false := by simpa using hw
      rw [nB hw']
      refine I.boxes k hk fun m rm hmr hwm => ?_
      rw [← hm m rm hmr hwm, Lst_set hjs]
      refine ⟨.inr, fun h => h.resolve_left fun e => ?_⟩
      subst e
      rw [hmr] at hj
      have : rm = rj := by simpa using hj
      subst this
      rw [hwm] at hw'; cases hw'
  · by_cases hw : rj.op.writesF c = true
    · rw [wF hw]
      have hjk : j < k := (hm j rj hj hw).1 ((Lst_set hjs).2 (.inl rfl))
      refine (T.fams k hk (by omega) fun m rm h1 h2 hmr => ?_).symm
      cases hwm : rm.op.writesF c with
      | false => rfl
      | true =>
        have := (hm m rm hmr hwm).2 h2
        rw [Lst_set hjs] at this
        rcases this with h | h
        · omega
        · have := order m rm hmr (by omega) (.inr ⟨hwm, hw⟩) h
          omega
    · have hw' : rj.op.writesF c = false := by simpa using hw
      rw [nF hw']
      refine I.fams k hk fun m rm hmr hwm => ?_
      rw [← hm m rm hmr hwm, Lst_set hjs]
      refine ⟨.inr, fun h => h.resolve_left fun e => ?_⟩
      subst e
      rw [hmr] at hj
      have : rm = rj := by simpa using hj
      subst this
      rw [hwm] at hw'; cases hw'

/-- How many operations are still to come. -/
def left (n : Nat) (listed : Array Bool) : Nat := ((List.range n).filter fun i => !listed.getD i false).length

theorem left_zero {n : Nat} {listed : Array Bool} (h : left n listed = 0) {i : Nat} (hi : i < n) : Lst listed i := by
  unfold left at h
  have h1 := List.eq_nil_of_length_eq_zero h
  rw [List.filter_eq_nil_iff] at h1
  have := h1 i (List.mem_range.2 hi)
  simpa [Lst] using this

theorem left_set {n j : Nat} {listed : Array Bool} (hj : j < n) (hs : listed.size = n) (hnl : ¬ Lst listed j) : left n (listed.setIfInBounds j true) + 1 = left n listed := by
  unfold left
  have h1 : ((List.range n).filter fun i => !(listed.setIfInBounds j true).getD i false) = ((List.range n).filter fun i => !listed.getD i false).erase j := by
    rw [List.Nodup.erase_eq_filter (List.Pairwise.filter _ List.nodup_range), List.filter_filter]
    refine List.filter_congr fun i _ => ?_
    by_cases h : i = j
    · subst h
      simp [Array.getD_eq_getD_getElem?, show i < listed.size by omega]
    · simp [Array.getD_eq_getD_getElem?, Array.getElem?_setIfInBounds_ne (Ne.symm h), h]
  have hmem : j ∈ (List.range n).filter fun i => !listed.getD i false := by
    rw [List.mem_filter]
    exact ⟨List.mem_range.2 hj, by simpa [Lst] using hnl⟩
  rw [h1, List.length_erase_of_mem hmem]
  have : 0 < ((List.range n).filter fun i => !listed.getD i false).length := List.length_pos_of_mem hmem
  omega

theorem all_listed (T : Tr (P := P) O c ops ros F H V) {listed : Array Bool} (hs : listed.size = ops.size) (hr : Region.ready .any ops listed = []) : ∀ i, i < ops.size → Lst listed i := by
  intro i
  induction i using Nat.strongRecOn with
  | _ i ih =>
    intro hi
    refine Classical.byContradiction fun hn => ?_
    have ho : ops[i]? = some ops[i] := Array.getElem?_eq_getElem hi
    have : i ∈ Region.ready .any ops listed := (ready_iff hs).2 ⟨ops[i], ho, hn, fun e he hb => by
      have := edges_lt T.edges (j := i) (o := ops[i]) (by simp) he hb
      exact ih e.on (by omega) (by omega)⟩
    rw [hr] at this
    cases this

theorem explore (hP : PureS P O) (hR : RawS P O) (T : Tr (P := P) O c ops ros F H V) {Q : Exit → Act → World → Prop} {E0 : Env} {a0 : Act}
    (hQ : ∀ a' E', Ext E0 E' → SR E' → E'.h = H ros.length → FR E' (F ros.length) a'.tmps → a'.defers = a0.defers → Q .normal a' E'.w) :
    ∀ (fuel : Nat) (listed : Array Bool) (a : Act) (E : Env) (frS : Fr), Inv ops ros F H V c listed E frS → Ext E0 E → SR E → FR E frS a.tmps → a.defers = a0.defers → left ops.size listed ≤ fuel → wpAny P .any ops Q fuel listed a E.w := by
  intro fuel
  -- at the end
  have done : ∀ (listed : Array Bool) (a : Act) (E : Env) (frS : Fr), Inv ops ros F H V c listed E frS → Ext E0 E → SR E → FR E frS a.tmps → a.defers = a0.defers → (∀ i, i < ops.size → Lst listed i) → Q .normal a E.w := by
    intro listed a E frS I hx hS hf hd hall
    have hlen := T.len
    have hb := I.boxes ros.length (Nat.le_refl _) fun m rm hm _ => by
      have := (List.getElem?_eq_some_iff.1 hm).1
      exact ⟨fun _ => this, fun _ => hall m (by omega)⟩
    have hfm := I.fams ros.length (Nat.le_refl _) fun m rm hm _ => by
      have := (List.getElem?_eq_some_iff.1 hm).1
      exact ⟨fun _ => this, fun _ => hall m (by omega)⟩
    refine hQ a E hx hS (AH_eq hb hfm) ⟨?_, fun t => ?_⟩ hd
    · rw [T.flen _ (Nat.le_refl _), ← I.flen]; exact hf.len
    · have hv := hf.val t
      have : (F ros.length).getD t undefA = frS.getD t undefA := by
        by_cases hw : ∃ (m : Nat) (rm : RO), ros[m]? = some rm ∧ rm.dst = some t
        · obtain ⟨m, rm, hm, hdm⟩ := hw
          have hml := (List.getElem?_eq_some_iff.1 hm).1
          by_cases htl : t < (F 0).length
          · rw [T.written hm hdm htl _ (Nat.le_refl _) hml, I.wrote m t rm hm (hall m (by omega)) hdm htl]
          · rw [show (F ros.length).getD t undefA = undefA from by simp [List.getD, List.getElem?_eq_none (show (F ros.length).length ≤ t by rw [T.flen _ (Nat.le_refl _)]; omega)],
              show frS.getD t undefA = undefA from by simp [List.getD, List.getElem?_eq_none (show frS.length ≤ t by rw [I.flen]; omega)]]
        · have hw' : ∀ (i : Nat) (ro : RO), ros[i]? = some ro → ro.dst ≠ some t := fun i ro hi hd => hw ⟨i, ro, hi, hd⟩
          rw [I.kept t fun i ro hi _ => hw' i ro hi, T.ghost _ (Nat.le_refl _) fun i ro _ hi => hw' i ro hi]
      rw [this]; exact hv
  induction fuel with
  | zero =>
    intro listed a E frS I hx hS hf hd hl
    have hall : ∀ i, i < ops.size → Lst listed i := fun i hi => left_zero (by omega) hi
    refine ⟨?_, done listed a E frS I hx hS hf hd hall⟩
    apply List.eq_nil_iff_forall_not_mem.2
    intro j hj
    obtain ⟨o, ho, hn, _⟩ := (ready_iff I.size).1 hj
    exact hn (hall j (Array.getElem?_eq_some_iff.1 ho).1)
  | succ fuel ih =>
    intro listed a E frS I hx hS hf hd hl
    refine ⟨fun hr => done listed a E frS I hx hS hf hd (all_listed T I.size hr), fun j hj => ?_⟩
    obtain ⟨o, ho, hnl, hedges⟩ := (ready_iff I.size).1 hj
    have hjl := (Array.getElem?_eq_some_iff.1 ho).1
    obtain ⟨rj, hjr⟩ : ∃ rj, ros[j]? = some rj := ⟨_, List.getElem?_eq_getElem (show j < ros.length by rw [T.len]; exact hjl)⟩
    have hdeps : ∀ i, Dep ops.toList i j → Lst listed i := by
      intro i hi
      obtain ⟨o', e, ho', he, hb, h1⟩ := dep_edge hi
      have : o' = o := by rw [Array.getElem?_toList, ho] at ho'; simpa using ho'.symm
      subst this
      have hle := hedges e he hb
      rcases h1 with h1 | h1
      · rw [← h1]; exact hle
      · exact I.closed _ hle i h1
    obtain ⟨v1, v2, v3⟩ := I.view T hjr hnl hdeps
    obtain ⟨hst, hput⟩ := T.step j _ hjr
    obtain ⟨h1, e1, e2, e3, e4, e5⟩ := step_congr v1 v2 v3 hst
    have hrel := T.rel j o _ ho hjr
    have hw := step_wp (Q := Q) hP hR hS hf hrel e1 (K := wpAny P .any ops Q fuel (listed.setIfInBounds j true)) (fun u E' hx' hS' he hv => by
      refine ih _ _ E' (put frS rj.dst (V j)) (I.next T hjr hnl hdeps he e2 e3 e4 e5) (hx.trans hx') hS' ?_ ?_ ?_
      · rw [hrel.dst]; exact FR.put (FR.ext hx' hf) o.dst hv
      · rw [← hd]; cases o.dst <;> rfl
      · have := left_set hjl I.size hnl
        omega)
    unfold wpOp
    simp only [ho]
    split
    · rename_i h; rw [if_pos h] at hw; exact .inl hw
    · rename_i h; rw [if_neg h] at hw; exact hw

/-- A statement, of whichever kind. -/
theorem region_sound (hP : PureS P O) (hR : RawS P O) (hm : P.follows .mixedOrders = true) {id : Nat} {draw draw' : Bool} {ros : List RO} (hr : resCode P c (.region id ops draw) = some (.region draw' ros)) {Q : Exit → Act → World → Prop} {E : Env} {fr fr' : Fr} {a : Act} {h' : AH}
    (hS : SR E) (hf : FR E fr a.tmps) (hev : evalOps O c ros fr E.h = some (fr', h'))
    (hQ : ∀ a' E', Ext E E' → SR E' → E'.h = h' → FR E' fr' a'.tmps → a'.defers = a.defers → Q .normal a' E'.w) : (Code.region id ops draw).wp P Q a E.w := by
  simp only [resCode] at hr
  split at hr
  · rename_i ros0 h0
    obtain ⟨hl0, hg0⟩ := mapO_spec h0
    have rel0 : ∀ (i : Nat) (o : Oper) (ro : RO), ops.toList[i]? = some o → ros0[i]? = some ro → resRO P ops.toList o = some ro := by
      intro i o ro ho hro
      obtain ⟨y, hy, hy'⟩ := hg0 i o ho
      rw [hro] at hy'
      have : ro = y := by simpa using hy'
      subst this; exact hy
    have drawn : ∀ (ros : List RO), ros.length = ops.size → (∀ (i : Nat) (o : Oper) (ro : RO), ops[i]? = some o → ros[i]? = some ro → RORel P ops.toList o ro) → orderOk c ops.toList ros = true → evalOps O c ros fr E.h = some (fr', h') → (Code.region id ops true).wp P Q a E.w := by
      intro ros hl hrel hok hev
      unfold orderOk at hok
      simp only [Bool.and_eq_true] at hok
      obtain ⟨F, H, V, f0, f1, f2, f3, f4⟩ := trace_of hev
      have T : Tr (P := P) O c ops ros F H V := ⟨hl, hrel, hok.1, hok.2, f4⟩
      refine wp_region_any hm ?_
      have hb : Below E.w.heap.size E.w E.w.drew := drew_below _
      have hx := grow_ext hS hb
      refine explore hP hR T (Q := Q) (E0 := { E with w := E.w.drew }) (a0 := a) (fun a' E' h1 h2 h3 h4 h5 => ?_) ops.size (Array.replicate ops.size false) a { E with w := E.w.drew } fr ?_ (Ext.refl _) (grow_SR hS hb) (FR.ext hx hf) rfl ?_
      · exact hQ a' E' (hx.trans h1) h2 (by rw [h3, f3]) (by rw [← f2]; exact h4) h5
      · have hno : ∀ i, ¬ Lst (Array.replicate ops.size false) i := by
          intro i h
          unfold Lst at h
          rw [Array.getD_eq_getD_getElem?, Array.getElem?_replicate] at h
          split at h <;> simp at h
        refine ⟨by simp, fun j hj => absurd hj (hno j), by rw [f0], fun i t ro _ hl => absurd hl (hno i), fun t _ => by rw [f0], fun k hk hm => ?_, fun k hk hm => ?_⟩
        · have hb := T.boxes (i := 0) k hk (Nat.zero_le _) fun m rm _ h2 hmr => by
            cases hw : rm.op.writesB c with
            | false => rfl
            | true => exact absurd ((hm m rm hmr hw).2 h2) (hno m)
          rw [hb, f1]
        · have hb := T.fams (i := 0) k hk (Nat.zero_le _) fun m rm _ h2 hmr => by
            cases hw : rm.op.writesF c with
            | false => rfl
            | true => exact absurd ((hm m rm hmr hw).2 h2) (hno m)
          rw [hb, f1]
      · unfold left
        refine Nat.le_trans (List.length_filter_le _ _) ?_
        simp
    split at hr
    · rename_i hc
      simp only [Option.some.injEq, RCode.region.injEq] at hr
      obtain ⟨rfl, rfl⟩ := hr
      cases draw with
      | false =>
        refine wp_region_list ?_
        exact ops_text hP hR ops.toList ros0 hl0 (fun i o ro h1 h2 => resRO_rel (rel0 i o ro h1 h2)) E fr a fr' h' hS hf hev hQ
      | true =>
        exact drawn ros0 (by simpa using hl0) (fun i o ro h1 h2 => resRO_rel (rel0 i o ro (by simpa using h1) h2)) (by simpa using hc) hev
    · rename_i hc
      split at hr
      · rename_i hok
        simp only [Option.some.injEq, RCode.region.injEq] at hr
        obtain ⟨_, rfl⟩ := hr
        have hd : draw = true := by
          cases draw with
          | true => rfl
          | false => simp at hc
        subst hd
        refine drawn (ros0.map RO.lax) (by simpa using hl0) (fun i o ro h1 h2 => ?_) hok hev
        rw [List.getElem?_map] at h2
        cases hro : ros0[i]? with
        | none => rw [hro] at h2; cases h2
        | some ro0 =>
          rw [hro] at h2
          have : ro0.lax = ro := by simpa using h2
          subst this
          exact RORel.lax (rel0 i o ro0 (by simpa using h1) hro)
      · cases hr
  · cases hr

end
end Go.Abs

namespace Go.Abs
open Go.RowKit (Below)

def exOf : Ex → Exit
  | .normal => .normal
  | .exit id => .exit id
  | .ret => .ret

/-- A loop that ends has ended after some rounds. -/
def LoopS (O : Orc) : Prop := ∀ (step : St → Option (Ex × St)) (s : St) (x : Ex × St), O.loop step s = some x → ∃ n, iter step n s = some x

section
variable {P : Program} {O : Orc} {c : Ctx}

theorem code_sound (hP : PureS P O) (hR : RawS P O) (hL : LoopS O) (hm : P.follows .mixedOrders = true) :
    ∀ (code : Code) (rc : RCode), resCode P c code = some rc → ∀ (E : Env) (fr : Fr) (a : Act), SR E → FR E fr a.tmps → ∀ (ex : Ex) (fr' : Fr) (h' : AH), evalCode O c rc (fr, E.h) = some (ex, (fr', h')) →
      ∀ Q : Exit → Act → World → Prop, (∀ a' E', Ext E E' → SR E' → E'.h = h' → FR E' fr' a'.tmps → a'.defers = a.defers → Q (exOf ex) a' E'.w) → code.wp P Q a E.w := by
  intro code
  induction code with
  | skip =>
    intro rc hr E fr a hS hf ex fr' h' hev Q hQ
    simp only [resCode] at hr; cases hr
    simp only [evalCode] at hev; cases hev
    exact wp_skip (hQ a E (Ext.refl E) hS rfl hf rfl)
  | region id ops draw =>
    intro rc hr E fr a hS hf ex fr' h' hev Q hQ
    have hr' := hr
    simp only [resCode] at hr'
    obtain ⟨d, ros, rfl⟩ : ∃ d ros, rc = .region d ros := by
      split at hr'
      · split at hr'
        · cases hr'; exact ⟨_, _, rfl⟩
        · split at hr'
          · cases hr'; exact ⟨_, _, rfl⟩
          · cases hr'
      · cases hr'
    simp only [evalCode] at hev
    split at hev
    · rename_i s hs
      cases hev
      exact region_sound hP hR hm hr hS hf hs hQ
    · cases hev
  | seq x y ihx ihy =>
    intro rc hr E fr a hS hf ex fr' h' hev Q hQ
    simp only [resCode] at hr
    split at hr
    · rename_i x' y' hx hy
      cases hr
      simp only [evalCode] at hev
      refine wp_seq ?_
      split at hev
      · rename_i s hs
        obtain ⟨fr1, h1⟩ := s
        refine ihx x' hx E fr a hS hf .normal fr1 h1 hs _ fun a' E' k1 k2 k3 k4 k5 => ?_
        show y.wp P Q a' E'.w
        refine ihy y' hy E' fr1 a' k2 k4 ex fr' h' (by rw [k3]; exact hev) Q fun a'' E'' m1 m2 m3 m4 m5 => ?_
        exact hQ a'' E'' (k1.trans m1) m2 m3 m4 (m5.trans k5)
      · rename_i hne
        refine ihx x' hx E fr a hS hf ex fr' h' hev _ fun a' E' k1 k2 k3 k4 k5 => ?_
        have := hQ a' E' k1 k2 k3 k4 k5
        cases ex with
        | normal => exact absurd hev (hne _)
        | exit id => exact this
        | ret => exact this
    · cases hr
  | cond q x y ihx ihy =>
    intro rc hr E fr a hS hf ex fr' h' hev Q hQ
    simp only [resCode] at hr
    split at hr
    · rename_i q' x' y' hq hx hy
      cases hr
      simp only [evalCode] at hev
      have hv := opd_sound hf hq
      split at hev
      · rename_i hg
        rw [hg] at hv
        simp only [VR] at hv
        exact wp_cond_true hv (ihx x' hx E fr a hS hf ex fr' h' hev Q hQ)
      · rename_i hg
        rw [hg] at hv
        simp only [VR] at hv
        exact wp_cond_false hv (ihy y' hy E fr a hS hf ex fr' h' hev Q hQ)
      · cases hev
    · cases hr
  | block id x ih =>
    intro rc hr E fr a hS hf ex fr' h' hev Q hQ
    simp only [resCode, Option.map_eq_some_iff] at hr
    obtain ⟨x', hx, rfl⟩ := hr
    simp only [evalCode] at hev
    refine wp_block ?_
    split at hev
    · rename_i id' s hs
      obtain ⟨fr1, h1⟩ := s
      refine ih x' hx E fr a hS hf (.exit id') fr1 h1 hs _ fun a' E' k1 k2 k3 k4 k5 => ?_
      show if id' = id then Q .normal a' E'.w else Q (.exit id') a' E'.w
      split at hev
      · rename_i he
        cases hev
        rw [if_pos he]
        exact hQ a' E' k1 k2 k3 k4 k5
      · rename_i he
        cases hev
        rw [if_neg he]
        exact hQ a' E' k1 k2 k3 k4 k5
    · rename_i hne
      refine ih x' hx E fr a hS hf ex fr' h' hev _ fun a' E' k1 k2 k3 k4 k5 => ?_
      have := hQ a' E' k1 k2 k3 k4 k5
      cases ex with
      | normal => exact this
      | exit id' => exact absurd hev (hne _ _)
      | ret => exact this
  | loop x ih =>
    intro rc hr E fr a hS hf ex fr' h' hev Q hQ
    simp only [resCode, Option.map_eq_some_iff] at hr
    obtain ⟨x', hx, rfl⟩ := hr
    simp only [evalCode] at hev
    obtain ⟨n, hn⟩ := hL _ _ _ hev
    refine wp_loop_rounds n ?_
    clear hev
    induction n generalizing E fr a with
    | zero => simp only [iter] at hn; cases hn
    | succ n ihn =>
      simp only [iter] at hn
      rw [rounds_succ]
      split at hn
      · rename_i s hs
        obtain ⟨fr1, h1⟩ := s
        refine ih x' hx E fr a hS hf .normal fr1 h1 hs _ fun a' E' k1 k2 k3 k4 k5 => ?_
        show Code.rounds P x Q n a' E'.w
        exact ihn E' fr1 a' k2 k4 (fun a'' E'' m1 m2 m3 m4 m5 => hQ a'' E'' (k1.trans m1) m2 m3 m4 (m5.trans k5)) (by rw [k3]; exact hn)
      · rename_i hne
        refine ih x' hx E fr a hS hf ex fr' h' hn _ fun a' E' k1 k2 k3 k4 k5 => ?_
        have := hQ a' E' k1 k2 k3 k4 k5
        cases ex with
        | normal => exact absurd hn (hne _)
        | exit id => exact this
        | ret => exact this
  | exit id =>
    intro rc hr E fr a hS hf ex fr' h' hev Q hQ
    simp only [resCode] at hr; cases hr
    simp only [evalCode] at hev; cases hev
    exact wp_exit (hQ a E (Ext.refl E) hS rfl hf rfl)
  | ret =>
    intro rc hr E fr a hS hf ex fr' h' hev Q hQ
    simp only [resCode] at hr; cases hr
    simp only [evalCode] at hev; cases hev
    exact wp_ret (hQ a E (Ext.refl E) hS rfl hf rfl)
  | rangeFunc _ _ _ _ _ _ => intro rc hr; simp [resCode] at hr
  | scope _ _ => intro rc hr; simp [resCode] at hr
  | label _ => intro rc hr; simp [resCode] at hr
  | goto _ => intro rc hr; simp [resCode] at hr
  | refuse _ => intro rc hr; simp [resCode] at hr

theorem start_FR {E : Env} {args : List AV} {vs : Array Value} (hv : VRs E args vs.toList) (rf : RFunc) : FR E (startFr rf args) (vs ++ Array.replicate (rf.ntmps - vs.size) undef) := by
  obtain ⟨hl, hg⟩ := VRs_get hv
  have hl' : vs.size = args.length := by simpa using hl
  refine ⟨by simp [startFr, hl'], fun t => ?_⟩
  unfold startFr
  by_cases ht : t < args.length
  · obtain ⟨u, h1, h2⟩ := hg (List.getElem?_eq_getElem ht)
    have e1 : (args ++ List.replicate (rf.ntmps - args.length) undefA).getD t undefA = args[t] := by simp [List.getD, List.getElem?_append_left ht, ht]
    have e2 : (vs ++ Array.replicate (rf.ntmps - vs.size) undef).getD t undef = u := by
      rw [Array.getD_eq_getD_getElem?, Array.getElem?_append_left (by omega)]
      rw [Array.getElem?_toList] at h1
      rw [h1]; rfl
    rw [e1, e2]; exact h2
  · have e1 : (args ++ List.replicate (rf.ntmps - args.length) undefA).getD t undefA = undefA := by
      rw [List.getD, List.getElem?_append_right (by omega), List.getElem?_replicate]
      split <;> rfl
    have e2 : (vs ++ Array.replicate (rf.ntmps - vs.size) undef).getD t undef = undef := by
      rw [Array.getD_eq_getD_getElem?, Array.getElem?_append_right (by omega), Array.getElem?_replicate]
      split <;> rfl
    rw [e1, e2]; exact VR_undef E

theorem results_sound {E : Env} {fr : Fr} {tmps : Array Value} (hS : SR E) (hf : FR E fr tmps) (g : ResultVar → Sem Value) (g1 : ∀ t, g (.tmp t) = pure (tmps.getD t undef)) (g2 : ∀ a t, g (.cell a t) = (do loadVar t (← asAddr (tmps.getD a undef)))) : ∀ {rs : List ResultVar} {rrs : List RRes} {vs : List AV}, mapO (resRes P) rs = some rrs → resA fr E.h rrs = some vs →
    ∃ us : List Value, (rs.mapM g).run P E.w = .ok us E.w ∧ VRs E vs us
  | [], rrs, vs, hr, he => by
    simp [mapO] at hr; subst hr
    simp [resA] at he; subst he
    exact ⟨[], by simp, by simp [VRs]⟩
  | r :: rs, rrs, vs, hr, he => by
    simp only [mapO] at hr
    split at hr
    · rename_i rr rrs' h1 h2
      cases hr
      cases r with
      | tmp t =>
        simp only [resRes] at h1; cases h1
        simp only [resA, Option.map_eq_some_iff] at he
        obtain ⟨vs', hvs', rfl⟩ := he
        obtain ⟨us, u1, u2⟩ := results_sound hS hf g g1 g2 h2 hvs'
        refine ⟨tmps.getD t undef :: us, ?_, by simp only [VRs]; exact ⟨_, _, rfl, hf.val t, u2⟩⟩
        rw [List.mapM_cons, g1]
        simp only [Sem.run_bind, Sem.run_pure, Result.andThen_ok]
        rw [u1]
        simp
      | cell a t =>
        simp only [resRes] at h1
        split at h1
        · rename_i b n hb hn
          cases h1
          simp only [resA, Option.bind_eq_some_iff, Option.map_eq_some_iff] at he
          obtain ⟨v, hv, vs', hvs', rfl⟩ := he
          obtain ⟨us, u1, u2⟩ := results_sound hS hf g g1 g2 h2 hvs'
          obtain ⟨bl, of, cs, e1, e2, e3⟩ := loadA_cells hS (hf.val a) hv
          obtain ⟨u, h3, h4⟩ := run_load_cells (P := P) e2 e3 hb hn
          refine ⟨u :: us, ?_, by simp only [VRs]; exact ⟨_, _, rfl, h4, u2⟩⟩
          rw [List.mapM_cons, g2]
          have hadr : (asAddr (tmps.getD a undef)).run P E.w = .ok ⟨bl, of, none⟩ E.w := by rw [e1]; rfl
          simp only [Sem.run_bind, hadr, Sem.run_pure, Result.andThen_ok, h3]
          rw [u1]
          simp
        · cases h1
    · cases hr

theorem tupled_VR {E : Env} {vs : List AV} {us : List Value} (h : VRs E vs us) : VR E (tupled vs) (if h : us.toArray.size = 1 then us.toArray[0] else .tuple us.toArray) := by
  cases vs with
  | nil =>
    simp only [VRs] at h; subst h
    simp [tupled, VR, VRs]
  | cons v vs =>
    simp only [VRs] at h
    obtain ⟨u, us', rfl, h1, h2⟩ := h
    cases vs with
    | nil =>
      simp only [VRs] at h2; subst h2
      simpa [tupled] using h1
    | cons v' vs =>
      simp only [VRs] at h2
      obtain ⟨u', us'', rfl, h3, h4⟩ := h2
      simp only [tupled]
      rw [dif_neg (by simp)]
      simp only [VR]
      refine ⟨_, rfl, ?_⟩
      simp only [VRs]
      exact ⟨u, _, rfl, h1, u', us'', rfl, h3, h4⟩

end

/-- A function's text, resolved, and its settings, are this program's. -/
structure CfgS (P : Program) (C : Cfg) : Prop where
  code : ∀ f rf, C.code f = some rf → resFunc P C.ctx f = some rf
  spec : ∀ (f : FuncId) (s : List AV → Option AV), C.spec f = some s → ∀ (args : List AV) (r : AV), s args = some r → Program.enterable P f = true ∧
    ∀ (w : World) (ok0 : Nat → Nat → Prop) (vs : Array Value), (∀ b o, ok0 b o → b < w.heap.size) → PVs w ok0 args vs.toList →
      Calls P f vs w fun e w' => ∃ u, e = .returned u ∧ Below w.heap.size w w' ∧ PV w' (fun b o => ok0 b o ∨ (w.heap.size ≤ b ∧ b < w'.heap.size)) r u
  mixed : P.follows .mixedOrders = true

section
variable {P : Program} {C : Cfg} {O : Orc}

theorem rawA_sound (hC : CfgS P C) (hP : PureS P O) (hR : RawS P O) (hL : LoopS O) {f : FuncId} {args : List AV} {h h' : AH} {r : AV} (he : rawA C O f args h = some (r, h')) :
    Program.enterable P f = true ∧ ∀ (E : Env) (vs : Array Value), SR E → E.h = h → VRs E args vs.toList →
      Calls P f vs E.w fun e w' => ∃ u E', e = .returned u ∧ w' = E'.w ∧ Ext E E' ∧ SR E' ∧ E'.h = h' ∧ VR E' r u := by
  unfold rawA at he
  split at he
  · rename_i rf hrf
    have h1 := hC.code f rf hrf
    unfold resFunc at h1
    split at h1
    · rename_i hent
      refine ⟨hent, fun E vs hS hh hv => ?_⟩
      split at h1
      · rename_i fn hfn
        split at h1
        · rename_i b hb
          split at h1
          · rename_i rs rb hrs hrb
            cases h1
            refine calls_of_wp hfn hb ?_
            subst hh
            -- the end of the body, on either of its two ways
            have fin : ∀ (s : St) (a' : Act) (E' : Env), Ext E E' → SR E' → E'.h = s.2 → FR E' s.1 a'.tmps → a'.defers = [] → (resA s.1 s.2 rs).map (fun vs => (tupled vs, s.2)) = some (r, h') →
                a'.defers = [] ∧ ∃ v, (results fn a'.tmps).run P E'.w = .ok v E'.w ∧ ∃ u E'', Ending.returned v = .returned u ∧ E'.w = E''.w ∧ Ext E E'' ∧ SR E'' ∧ E''.h = h' ∧ VR E'' r u := by
              intro s a' E' k1 k2 k3 k4 k5 k6
              simp only [Option.map_eq_some_iff] at k6
              obtain ⟨avs, k7, k8⟩ := k6
              cases k8
              rw [← k3] at k7
              obtain ⟨us, u1, u2⟩ := results_sound (P := P) k2 k4 (fun | .tmp t => pure (a'.tmps.getD t undef) | .cell a t => do loadVar t (← asAddr (a'.tmps.getD a undef))) (fun _ => rfl) (fun _ _ => rfl) hrs k7
              refine ⟨k5, _, ?_, _, E', rfl, rfl, k1, k2, k3, tupled_VR u2⟩
              unfold results
              rw [Array.mapM_eq_mapM_toList]
              simp only [bind_map_left, Sem.run_bind]
              refine Eq.trans (congrArg (fun r => Result.andThen r _) u1) ?_
              rfl
            unfold evalBody at he
            split at he
            · rename_i s hs
              refine code_sound hP hR hL hC.mixed b rb hrb E _ _ hS (start_FR hv ⟨fn.ntmps, rs, rb⟩) .normal s.1 s.2 hs _ fun a' E' k1 k2 k3 k4 k5 => ?_
              exact fin s a' E' k1 k2 k3 k4 k5 he
            · rename_i s hs
              refine code_sound hP hR hL hC.mixed b rb hrb E _ _ hS (start_FR hv ⟨fn.ntmps, rs, rb⟩) .ret s.1 s.2 hs _ fun a' E' k1 k2 k3 k4 k5 => ?_
              exact fin s a' E' k1 k2 k3 k4 k5 he
            · cases he
          · cases h1
        · cases h1
      · cases h1
    · cases h1
  · cases he

theorem pureA_sound (hC : CfgS P C) (hP : PureS P O) (hR : RawS P O) (hL : LoopS O) {f : FuncId} {args : List AV} {r : AV} (he : pureA C O f args = some r) :
    Program.enterable P f = true ∧ ∀ (w : World) (ok0 : Nat → Nat → Prop) (vs : Array Value), (∀ b o, ok0 b o → b < w.heap.size) → PVs w ok0 args vs.toList →
      Calls P f vs w fun e w' => ∃ u, e = .returned u ∧ Below w.heap.size w w' ∧ PV w' (fun b o => ok0 b o ∨ (w.heap.size ≤ b ∧ b < w'.heap.size)) r u := by
  unfold pureA at he
  split at he
  · rename_i s hs
    exact hC.spec f s hs args r he
  · split at he
    · rename_i r0 h0 hr
      obtain ⟨h1, h2⟩ := rawA_sound hC hP hR hL hr
      refine ⟨h1, fun w ok0 vs hok hv => ?_⟩
      have hS : SR ⟨w, w.heap.size, ok0, fun _ => 0, fun _ => ⟨0, 0, 0, 0⟩, AH.empty⟩ :=
        ⟨Nat.le_refl _, fun i cs hi => by simp [AH.empty] at hi, fun k f hk => by simp [AH.empty] at hk, fun i j hi => by simp [AH.empty] at hi, fun i j hi => by simp [AH.empty] at hi, fun i j hi => by simp [AH.empty] at hi⟩
      have hv' : VRs ⟨w, w.heap.size, ok0, fun _ => 0, fun _ => ⟨0, 0, 0, 0⟩, AH.empty⟩ args vs.toList :=
        VRs_of_PVs _ _ (PVs_mono (fun b o ho => ⟨.inl ⟨hok b o ho, ho⟩, Stay.refl _ _ _⟩) _ _ hv)
      refine (h2 _ vs hS rfl hv').mono fun e w' ⟨u, E', k1, k2, k3, k4, k5, k6⟩ => ?_
      subst k2
      refine ⟨u, k1, k3.below, ?_⟩
      rw [← k5] at he
      have hbase : E'.base = w.heap.size := k3.base
      have hok0 : E'.ok0 = ok0 := k3.ok0
      refine frzRes_sound k4 ⟨fun b o ho => ?_, fun _ b o hb hlt => .inr ⟨by rw [← hbase]; exact hb, hlt⟩⟩ k6 he
      rcases ho with ⟨_, ho⟩ | ⟨ho1, ho2, _⟩
      · rw [hok0] at ho; exact .inl ho
      · rw [hbase] at ho1; exact .inr ⟨ho1, ho2⟩
    · cases he

theorem orc_sound (hC : CfgS P C) : ∀ n, PureS P (orc C n) ∧ RawS P (orc C n) ∧ LoopS (orc C n)
  | 0 => ⟨fun f args r h => (nomatch h), fun f args h r h' he => (nomatch he), fun step s x h => (nomatch h)⟩
  | n + 1 => by
    obtain ⟨h1, h2, h3⟩ := orc_sound hC n
    exact ⟨fun f args r he => pureA_sound hC h1 h2 h3 he, fun f args h r h' he => rawA_sound hC h1 h2 h3 he, fun step s x he => ⟨n + 1, he⟩⟩

end
end Go.Abs
