/- What an operation looks at, and what it turns: the abstract step in another frame and heap. -/
import Derived.Test.YtpkegmgepnhfnaaA16
namespace Go.Abs
section
variable {O : Orc} {c : Ctx}

theorem get_congr {fr fr' : Fr} {x : Opd} (h : ∀ t ∈ x.slots, fr'.getD t undefA = fr.getD t undefA) : get fr' x = get fr x := by
  cases x with
  | t n => exact h n (by simp [Opd.slots])
  | c v => rfl

theorem gets_congr {fr fr' : Fr} {xs : List Opd} (h : ∀ t ∈ xs.flatMap Opd.slots, fr'.getD t undefA = fr.getD t undefA) : xs.map (get fr') = xs.map (get fr) :=
  List.map_congr_left fun x hx => get_congr fun t ht => h t (List.mem_flatMap.2 ⟨x, hx, ht⟩)

theorem buildParts_congr {fr fr' : Fr} {n : Nat} : ∀ {ps : List (Nat × Nat × Opd)}, (∀ t ∈ ps.flatMap (fun p => p.2.2.slots), fr'.getD t undefA = fr.getD t undefA) → buildParts fr' n ps = buildParts fr n ps
  | [], _ => rfl
  | (off, k, x) :: ps, h => by
    have hx : get fr' x = get fr x := get_congr fun t ht => h t (by simp [ht])
    have hr := buildParts_congr (n := n) (ps := ps) fun t ht => h t (by simp only [List.flatMap_cons, List.mem_append]; exact .inr ht)
    simp only [buildParts, hx, hr]

theorem frz1_fams {h h' : AH} (he : h'.fams = h.fams) (am : Bool) (x : AV) : frz1 h' am x = frz1 h am x := by cases x <;> simp only [frz1, he]
theorem frzL_fams {h h' : AH} (he : h'.fams = h.fams) (am : Bool) : ∀ xs : List AV, frzL h' am xs = frzL h am xs
  | [] => rfl
  | x :: xs => by simp only [frzL, frz1_fams he, frzL_fams he am xs]
theorem frz_fams {h h' : AH} (he : h'.fams = h.fams) (am : Bool) (x : AV) : frz h' am x = frz h am x := by
  unfold frz; split
  · rw [frzL_fams he]
  · exact frz1_fams he am _
theorem frzAll_fams {h h' : AH} (he : h'.fams = h.fams) (am : Bool) : ∀ xs : List AV, frzAll h' am xs = frzAll h am xs
  | [] => rfl
  | x :: xs => by simp only [frzAll, frz_fams he, frzAll_fams he am xs]
theorem tame_fams {h h' : AH} (he : h'.fams = h.fams) (x : AV) : tame h' x = tame h x := by
  have h1 : tame1 h' = tame1 h := by funext y; cases y <;> simp only [tame1, he]
  unfold tame; split <;> rw [h1]
theorem elems_fams {h h' : AH} (he : h'.fams = h.fams) (sz : Nat) (x : AV) : elems h' sz x = elems h sz x := by cases x <;> simp only [elems, he]

theorem sliceParts_congr {fr fr' : Fr} {h h' : AH} (he : h'.fams = h.fams) : ∀ {ps : List (Nat × Opd)} {xs : List AV}, (∀ t ∈ ps.flatMap (fun p => p.2.slots), fr'.getD t undefA = fr.getD t undefA) → sliceParts fr' h' xs ps = sliceParts fr h xs ps
  | [], xs, _ => rfl
  | (i, x) :: ps, xs, hh => by
    have hx : get fr' x = get fr x := get_congr fun t ht => hh t (by simp [ht])
    simp only [sliceParts, hx, frz_fams he]
    split
    · split
      · exact sliceParts_congr he fun t ht => hh t (by simp only [List.flatMap_cons, List.mem_append]; exact .inr ht)
      · rfl
    · rfl

theorem bound_congr {fr fr' : Fr} {x : Option Opd} (h : ∀ t ∈ optSlots x, fr'.getD t undefA = fr.getD t undefA) : boundA fr' x = boundA fr x := by
  cases x with
  | none => rfl
  | some x => simp only [boundA, get_congr (x := x) h]

theorem sliceA_fams {h h' : AH} (he : h'.fams = h.fams) (sz : Nat) (x : AV) (l u m : Option Int) : sliceA h' sz x l u m = sliceA h sz x l u m := by
  unfold sliceA; rw [he]

theorem loadA_boxes {h h' : AH} (hb : h'.boxes = h.boxes) {b : Bool} {n : Nat} {x : AV} (hx : ∀ k m i q, x ≠ .ep k m i q) : loadA h' b n x = loadA h b n x := by
  cases x <;> simp only [loadA, hb]
  exact absurd rfl (hx _ _ _ _)

theorem loadA_both {h h' : AH} (hb : h'.boxes = h.boxes) (hf : h'.fams = h.fams) {b : Bool} {n : Nat} {x : AV} : loadA h' b n x = loadA h b n x := by
  cases x <;> simp only [loadA, hb, hf]

theorem AH_eq {h h' : AH} (hb : h'.boxes = h.boxes) (hf : h'.fams = h.fams) : h' = h := by cases h; cases h'; simp_all

/-- What is left as it was. -/
def Moved (c : Ctx) (r : ROp) (h h1 h' h1' : AH) : Prop :=
  (r.writesB c = true → h1'.boxes = h1.boxes) ∧ (r.writesB c = false → h1'.boxes = h'.boxes ∧ h1.boxes = h.boxes) ∧
  (r.writesF c = true → h1'.fams = h1.fams) ∧ (r.writesF c = false → h1'.fams = h'.fams ∧ h1.fams = h.fams)

theorem moved_same {r : ROp} {h h' : AH} (hb : r.looksB c = true → h'.boxes = h.boxes) (hf : r.looksF = true → h'.fams = h.fams) (wb : r.writesB c = true → r.looksB c = true) (wf : r.writesF c = true → r.looksF = true) : Moved c r h h h' h' :=
  ⟨fun h => hb (wb h), fun _ => ⟨rfl, rfl⟩, fun h => hf (wf h), fun _ => ⟨rfl, rfl⟩⟩

theorem writes_looksB (r : ROp) : r.writesB c = true → r.looksB c = true := by cases r <;> simp [ROp.writesB, ROp.looksB]
theorem writes_looksF (r : ROp) : r.writesF c = true → r.looksF = true := by cases r <;> simp [ROp.writesF, ROp.looksF]

theorem callA_heap {f : FuncId} {args : List AV} {h h1 : AH} {v : AV} (hr : c.raw f = false) (he : callA O c f args h = some (v, h1)) : h1 = h := by
  unfold callA at he
  rw [if_neg (by simp [hr])] at he
  split at he
  · cases he
  · split at he
    · cases he
    · split at he
      · cases he; rfl
      · cases he

theorem callA_congr {f : FuncId} {args : List AV} {h h' h1 : AH} {v : AV} (hr : c.raw f = false) (hf : h'.fams = h.fams) (he : callA O c f args h = some (v, h1)) : callA O c f args h' = some (v, h') := by
  unfold callA at he ⊢
  rw [if_neg (by simp [hr])] at he ⊢
  rw [frzAll_fams hf]
  cases has : frzAll h true args with
  | none => rw [has] at he; cases he
  | some as =>
    rw [has] at he
    dsimp only at he ⊢
    cases hp : O.pure f as with
    | none => rw [hp] at he; cases he
    | some r =>
      rw [hp] at he
      dsimp only at he ⊢
      split at he
      · rename_i hc
        cases he
        have : args.all (tame h') = args.all (tame h) := by
          congr 1; funext x; exact tame_fams hf x
        rw [this, if_pos hc]
      · cases he

theorem op_heap {r : ROp} {fr : Fr} {h h1 : AH} {v : AV} (he : evalOp O c r fr h = some (v, h1)) : (r.writesB c = false → h1.boxes = h.boxes) ∧ (r.writesF c = false → h1.fams = h.fams) := by
  have same : h1 = h → (r.writesB c = false → h1.boxes = h.boxes) ∧ (r.writesF c = false → h1.fams = h.fams) := fun e => by subst e; exact ⟨fun _ => rfl, fun _ => rfl⟩
  cases r
  case st n a x => exact ⟨(fun h => nomatch h), (fun h => nomatch h)⟩
  case callv x as => exact ⟨(fun h => nomatch h), (fun h => nomatch h)⟩
  case box x => simp only [evalOp] at he; split at he <;> cases he; exact ⟨(fun h => nomatch h), (fun _ => rfl)⟩
  case alloc z => simp only [evalOp] at he; cases he; exact ⟨(fun h => nomatch h), (fun _ => rfl)⟩
  case mkslice z b l q =>
    simp only [evalOp] at he
    split at he
    · split at he <;> cases he
      exact ⟨fun _ => rfl, (fun h => nomatch h)⟩
    · cases he
  case app sz b s x =>
    refine ⟨fun _ => ?_, fun h => nomatch h⟩
    simp only [evalOp, appendA] at he
    repeat' (split at he)
    all_goals first | (cases he; done) | (cases he; rfl)
  case len b x =>
    refine same ?_
    cases b <;> simp only [evalOp] at he <;> split at he <;> first | (cases he; done) | (cases he; rfl)
  case call f as =>
    refine ⟨fun hr => ?_, fun hr => ?_⟩ <;> rw [callA_heap (O := O) hr he]
  all_goals
    refine same ?_
    simp only [evalOp] at he
    repeat' (split at he)
    all_goals first | (cases he; done) | (cases he; rfl)

theorem op_fst {r : ROp} {fr fr' : Fr} {h h' : AH} (hs : ∀ t ∈ r.slots, fr'.getD t undefA = fr.getD t undefA) (hb : r.looksB c = true → h'.boxes = h.boxes) (hf : r.looksF = true → h'.fams = h.fams) (hcall : r.isCall = false) :
    ((evalOp O c r fr h).isSome = true → (evalOp O c r fr' h').map Prod.fst = (evalOp O c r fr h).map Prod.fst) := by
  intro hsome
  cases r
  case call => simp [ROp.isCall] at hcall
  case callv => simp [ROp.isCall] at hcall
  case st n a x => obtain rfl : h' = h := AH_eq (hb rfl) (hf rfl); simp only [evalOp, get_congr (x := a) fun t ht => hs t (by simp [ROp.slots, ht]), get_congr (x := x) fun t ht => hs t (by simp [ROp.slots, ht])]
  case ld b n x => obtain rfl : h' = h := AH_eq (hb rfl) (hf rfl); simp only [evalOp, get_congr (x := x) fun t ht => hs t (by simp [ROp.slots, ht])]
  case mov x => simp only [evalOp, get_congr (x := x) fun t ht => hs t (by simp [ROp.slots, ht])]; rfl
  case pick q x y => simp only [evalOp, get_congr (x := q) fun t ht => hs t (by simp [ROp.slots, ht]), get_congr (x := x) fun t ht => hs t (by simp [ROp.slots, ht]), get_congr (x := y) fun t ht => hs t (by simp [ROp.slots, ht])]; cases get fr q <;> rfl
  case box x => simp only [evalOp, get_congr (x := x) fun t ht => hs t (by simp [ROp.slots, ht]), hb rfl]; split <;> rfl
  case alloc z => simp only [evalOp, hb rfl]; rfl
  case build z ps => simp only [evalOp, buildParts_congr (ps := ps) fun t ht => hs t (by simpa [ROp.slots] using ht)]; cases buildParts fr z.cells.length ps <;> rfl
  case bslice n z ps => simp only [evalOp, sliceParts_congr (hf rfl) (ps := ps) fun t ht => hs t (by simpa [ROp.slots] using ht)]; cases sliceParts fr h (List.replicate n z) ps <;> rfl
  case ldb b n x =>
    simp only [evalOp, get_congr (x := x) fun t ht => hs t (by simp [ROp.slots, ht])]
    cases hx : get fr x <;> simp only []
    all_goals
      rw [loadA_boxes (hb rfl) (by intro k m i q h; cases h)]
      split <;> rfl
  case nilck x => simp only [evalOp, get_congr (x := x) fun t ht => hs t (by simp [ROp.slots, ht])]; cases get fr x <;> rfl
  case bin op x y => simp only [evalOp, get_congr (x := x) fun t ht => hs t (by simp [ROp.slots, ht]), get_congr (x := y) fun t ht => hs t (by simp [ROp.slots, ht])]; cases evalBin op (get fr x) (get fr y) <;> rfl
  case beq n x y =>
    simp only [evalOp, get_congr (x := x) fun t ht => hs t (by simp [ROp.slots, ht]), get_congr (x := y) fun t ht => hs t (by simp [ROp.slots, ht])]
    cases get fr x <;> first | rfl | (cases get fr y <;> rfl)
  case nileq n x => simp only [evalOp, get_congr (x := x) fun t ht => hs t (by simp [ROp.slots, ht])]; cases get fr x <;> rfl
  case un op x => simp only [evalOp, get_congr (x := x) fun t ht => hs t (by simp [ROp.slots, ht])]; cases evalUn op (get fr x) <;> rfl
  case conv k x => simp only [evalOp, get_congr (x := x) fun t ht => hs t (by simp [ROp.slots, ht])]; cases get fr x <;> rfl
  case cstr x => simp only [evalOp, get_congr (x := x) fun t ht => hs t (by simp [ROp.slots, ht])]; cases get fr x <;> rfl
  case clos f cs => simp only [evalOp, gets_congr (xs := cs) fun t ht => hs t (by simpa [ROp.slots] using ht)]; rfl
  case mkslice z b l q =>
    simp only [evalOp, get_congr (x := l) fun t ht => hs t (by simp [ROp.slots, ht]), get_congr (x := q) fun t ht => hs t (by simp [ROp.slots, ht]), hf rfl]
    cases get fr l <;> first | rfl | (cases get fr q <;> first | rfl | (simp only []; split <;> rfl))
  case slc sz x a b m =>
    simp only [evalOp, get_congr (x := x) fun t ht => hs t (by simp [ROp.slots, ht]), bound_congr (x := a) fun t ht => hs t (by simp [ROp.slots, ht]), bound_congr (x := b) fun t ht => hs t (by simp [ROp.slots, ht]), bound_congr (x := m) fun t ht => hs t (by simp [ROp.slots, ht]), sliceA_fams (hf rfl)]
    cases boundA fr a <;> first | rfl | (cases boundA fr b <;> first | rfl | (cases boundA fr m <;> first | rfl | (simp only []; split <;> rfl)))
  case faddr off x => simp only [evalOp, get_congr (x := x) fun t ht => hs t (by simp [ROp.slots, ht])]; cases get fr x <;> rfl
  case fld b off n x =>
    simp only [evalOp, get_congr (x := x) fun t ht => hs t (by simp [ROp.slots, ht])]
    cases get fr x <;> first | rfl | (simp only []; split <;> rfl)
  case iaddr sz x i =>
    simp only [evalOp, get_congr (x := x) fun t ht => hs t (by simp [ROp.slots, ht]), get_congr (x := i) fun t ht => hs t (by simp [ROp.slots, ht]), hf rfl]
    cases get fr x <;> first | rfl | (cases get fr i <;> first | rfl | (simp only []; split <;> first | rfl | (split <;> rfl)))
  case idx x i =>
    simp only [evalOp, get_congr (x := x) fun t ht => hs t (by simp [ROp.slots, ht]), get_congr (x := i) fun t ht => hs t (by simp [ROp.slots, ht])]
    cases get fr x <;> first | rfl | (cases get fr i <;> first | rfl | (simp only []; split <;> first | rfl | (split <;> rfl)))
  case ext x i =>
    simp only [evalOp, get_congr (x := x) fun t ht => hs t (by simp [ROp.slots, ht])]
    cases get fr x <;> first | rfl | (simp only []; split <;> rfl)
  case len b x => cases b <;> simp only [evalOp, get_congr (x := x) fun t ht => hs t (by simp [ROp.slots, ht])] <;> cases get fr x <;> rfl
  case app sz b s x =>
    simp only [evalOp, appendA, get_congr (x := s) fun t ht => hs t (by simp [ROp.slots, ht]), get_congr (x := x) fun t ht => hs t (by simp [ROp.slots, ht]), elems_fams (hf rfl), hf rfl]
    split
    · rfl
    · split
      · split
        · rfl
        · split <;> rfl
      · split
        · split <;> rfl
        · rfl
      · rfl
  case max x y =>
    simp only [evalOp, get_congr (x := x) fun t ht => hs t (by simp [ROp.slots, ht]), get_congr (x := y) fun t ht => hs t (by simp [ROp.slots, ht])]
    cases get fr x <;> first | rfl | (cases get fr y <;> first | rfl | (simp only []; split <;> rfl))

end
end Go.Abs
