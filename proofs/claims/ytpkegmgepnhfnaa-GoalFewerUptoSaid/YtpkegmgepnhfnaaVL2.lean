/- From the statement's readings of the arguments to abstract values; and back to the statement. -/
import Derived.Test.YtpkegmgepnhfnaaVL1
import Derived.Orders
import Derived.Test.YtpkegmgepnhfnaaRows
import Derived.ProofKit
import Derived.OpenShut
import Derived.JoinedCond
import Derived.Deep.Slices
import Derived.Carry
/- What an operation looks at, and what it turns: the abstract step in another frame and heap. -/
namespace Go.Abs
section
variable {O : Orc} {c : Ctx}

theorem get_congr {fr fr' : Fr} {x : Opd} (h : ∀ t ∈ x.slots, fr'.getD t undefA = fr.getD t undefA) : get fr' x = get fr x := by
  cases x with
  | t n => exact h n (by simp [Opd.slots])
  | c v => rfl

theorem gets_congr {fr fr' : Fr} {xs : List Opd} (h : ∀ t ∈ xs.flatMap Opd.slots, fr'.getD t undefA = fr.getD t undefA) : xs.map (get fr') = xs.map (get fr) :=
  List.map_congr_left fun x hx => get_congr fun t ht => h t (List.mem_flatMap.2 ⟨x, hx, ht⟩)

theorem buildParts_congr {fr fr' : Fr} {n : Nat} : ∀ {ps : List (Nat × Nat × Opd)}, (∀ t ∈ ps.flatMap (fun p => p.2.2.slots), fr'.getD t undefA = fr.getD t undefA) → buildParts fr' n ps = buildParts fr n ps
  | [], _ => rfl
  | (off, k, x) :: ps, h => by
    have hx : get fr' x = get fr x := get_congr fun t ht => h t (by simp [ht])
    have hr := buildParts_congr (n := n) (ps := ps) fun t ht => h t (by simp only [List.flatMap_cons, List.mem_append]; exact .inr ht)
    simp only [buildParts, hx, hr]

theorem frz1_fams {h h' : AH} (he : h'.fams = h.fams) (am : Bool) (x : AV) : frz1 h' am x = frz1 h am x := by cases x <;> simp only [frz1, he]
theorem frzL_fams {h h' : AH} (he : h'.fams = h.fams) (am : Bool) : ∀ xs : List AV, frzL h' am xs = frzL h am xs
  | [] => rfl
  | x :: xs => by simp only [frzL, frz1_fams he, frzL_fams he am xs]
theorem frz_fams {h h' : AH} (he : h'.fams = h.fams) (am : Bool) (x : AV) : frz h' am x = frz h am x := by
  unfold frz; split
  · rw [frzL_fams he]
  · exact frz1_fams he am _
theorem frzAll_fams {h h' : AH} (he : h'.fams = h.fams) (am : Bool) : ∀ xs : List AV, frzAll h' am xs = frzAll h am xs
  | [] => rfl
  | x :: xs => by simp only [frzAll, frz_fams he, frzAll_fams he am xs]
theorem tame_fams {h h' : AH} (he : h'.fams = h.fams) (x : AV) : tame h' x = tame h x := by
  have h1 : tame1 h' = tame1 h := by funext y; cases y <;> simp only [tame1, he]
  unfold tame; split <;> rw [h1]
theorem elems_fams {h h' : AH} (he : h'.fams = h.fams) (sz : Nat) (x : AV) : elems h' sz x = elems h sz x := by cases x <;> simp only [elems, he]

theorem sliceParts_congr {fr fr' : Fr} {h h' : AH} (he : h'.fams = h.fams) : ∀ {ps : List (Nat × Opd)} {xs : List AV}, (∀ t ∈ ps.flatMap (fun p => p.2.slots), fr'.getD t undefA = fr.getD t undefA) → sliceParts fr' h' xs ps = sliceParts fr h xs ps
  | [], xs, _ => rfl
  | (i, x) :: ps, xs, hh => by
    have hx : get fr' x = get fr x := get_congr fun t ht => hh t (by simp [ht])
    simp only [sliceParts, hx, frz_fams he]
    split
    · split
      · exact sliceParts_congr he fun t ht => hh t (by simp only [List.flatMap_cons, List.mem_append]; exact .inr ht)
      · rfl
    · rfl

theorem bound_congr {fr fr' : Fr} {x : Option Opd} (h : ∀ t ∈ optSlots x, fr'.getD t undefA = fr.getD t undefA) : boundA fr' x = boundA fr x := by
  cases x with
  | none => rfl
  | some x => simp only [boundA, get_congr (x := x) h]

theorem sliceA_fams {h h' : AH} (he : h'.fams = h.fams) (sz : Nat) (x : AV) (l u m : Option Int) : sliceA h' sz x l u m = sliceA h sz x l u m := by
  unfold sliceA; rw [he]

theorem loadA_boxes {h h' : AH} (hb : h'.boxes = h.boxes) {b : Bool} {n : Nat} {x : AV} (hx : ∀ k m i q, x ≠ .ep k m i q) : loadA h' b n x = loadA h b n x := by
  cases x <;> simp only [loadA, hb]
  exact absurd rfl (hx _ _ _ _)

theorem loadA_both {h h' : AH} (hb : h'.boxes = h.boxes) (hf : h'.fams = h.fams) {b : Bool} {n : Nat} {x : AV} : loadA h' b n x = loadA h b n x := by
  cases x <;> simp only [loadA, hb, hf]

theorem AH_eq {h h' : AH} (hb : h'.boxes = h.boxes) (hf : h'.fams = h.fams) : h' = h := by cases h; cases h'; simp_all

/-- What is left as it was. -/
def Moved (c : Ctx) (r : ROp) (h h1 h' h1' : AH) : Prop :=
  (r.writesB c = true → h1'.boxes = h1.boxes) ∧ (r.writesB c = false → h1'.boxes = h'.boxes ∧ h1.boxes = h.boxes) ∧
  (r.writesF c = true → h1'.fams = h1.fams) ∧ (r.writesF c = false → h1'.fams = h'.fams ∧ h1.fams = h.fams)

theorem moved_same {r : ROp} {h h' : AH} (hb : r.looksB c = true → h'.boxes = h.boxes) (hf : r.looksF = true → h'.fams = h.fams) (wb : r.writesB c = true → r.looksB c = true) (wf : r.writesF c = true → r.looksF = true) : Moved c r h h h' h' :=
  ⟨fun h => hb (wb h), fun _ => ⟨rfl, rfl⟩, fun h => hf (wf h), fun _ => ⟨rfl, rfl⟩⟩

theorem writes_looksB (r : ROp) : r.writesB c = true → r.looksB c = true := by cases r <;> simp [ROp.writesB, ROp.looksB]
theorem writes_looksF (r : ROp) : r.writesF c = true → r.looksF = true := by cases r <;> simp [ROp.writesF, ROp.looksF]

theorem callA_heap {f : FuncId} {args : List AV} {h h1 : AH} {v : AV} (hr : c.raw f = false) (he : callA O c f args h = some (v, h1)) : h1 = h := by
  unfold callA at he
  rw [if_neg (by simp [hr])] at he
  split at he
  · cases he
  · split at he
    · cases he
    · split at he
      · cases he; rfl
      · cases he

theorem callA_congr {f : FuncId} {args : List AV} {h h' h1 : AH} {v : AV} (hr : c.raw f = false) (hf : h'.fams = h.fams) (he : callA O c f args h = some (v, h1)) : callA O c f args h' = some (v, h') := by
  unfold callA at he ⊢
  rw [if_neg (by simp [hr])] at he ⊢
  rw [frzAll_fams hf]
  cases has : frzAll h true args with
  | none => rw [has] at he; cases he
  | some aas =>
    rw [has] at he
    dsimp only at he ⊢
    cases hp : O.pure f aas with
    | none => rw [hp] at he; cases he
    | some r =>
      rw [hp] at he
      dsimp only at he ⊢
      split at he
      · rename_i hc
        cases he
        have : args.all (tame h') = args.all (tame h) := by
          congr 1; funext x; exact tame_fams hf x
        rw [this, if_pos hc]
      · cases he

theorem op_heap {r : ROp} {fr : Fr} {h h1 : AH} {v : AV} (he : evalOp O c r fr h = some (v, h1)) : (r.writesB c = false → h1.boxes = h.boxes) ∧ (r.writesF c = false → h1.fams = h.fams) := by
  have same : h1 = h → (r.writesB c = false → h1.boxes = h.boxes) ∧ (r.writesF c = false → h1.fams = h.fams) := fun e => by subst e; exact ⟨fun _ => rfl, fun _ => rfl⟩
  cases r
  case st n a x => exact ⟨(fun h => nomatch h), (fun h => nomatch h)⟩
  case callv x aas => exact ⟨(fun h => nomatch h), (fun h => nomatch h)⟩
  case box x => simp only [evalOp] at he; split at he <;> cases he; exact ⟨(fun h => nomatch h), (fun _ => rfl)⟩
  case alloc z => simp only [evalOp] at he; cases he; exact ⟨(fun h => nomatch h), (fun _ => rfl)⟩
  case mkslice z b l q =>
    simp only [evalOp] at he
    split at he
    · split at he <;> cases he
      exact ⟨fun _ => rfl, (fun h => nomatch h)⟩
    · cases he
  case app sz b s x =>
    refine ⟨fun _ => ?_, fun h => nomatch h⟩
    simp only [evalOp, appendA] at he
    repeat' (split at he)
    all_goals first | (cases he; done) | (cases he; rfl)
  case len b x =>
    refine same ?_
    cases b <;> simp only [evalOp] at he <;> split at he <;> first | (cases he; done) | (cases he; rfl)
  case call f aas =>
    refine ⟨fun hr => ?_, fun hr => ?_⟩ <;> rw [callA_heap (O := O) hr he]
  all_goals
    refine same ?_
    simp only [evalOp] at he
    repeat' (split at he)
    all_goals first | (cases he; done) | (cases he; rfl)

theorem op_fst {r : ROp} {fr fr' : Fr} {h h' : AH} (hs : ∀ t ∈ r.slots, fr'.getD t undefA = fr.getD t undefA) (hb : r.looksB c = true → h'.boxes = h.boxes) (hf : r.looksF = true → h'.fams = h.fams) (hcall : r.isCall = false) :
    ((evalOp O c r fr h).isSome = true → (evalOp O c r fr' h').map Prod.fst = (evalOp O c r fr h).map Prod.fst) := by
  intro hsome
  cases r
  case call => simp [ROp.isCall] at hcall
  case callv => simp [ROp.isCall] at hcall
  case st n a x => obtain rfl : h' = h := AH_eq (hb rfl) (hf rfl); simp only [evalOp, get_congr (x := a) fun t ht => hs t (by simp [ROp.slots, ht]), get_congr (x := x) fun t ht => hs t (by simp [ROp.slots, ht])]
  case ld b n x => obtain rfl : h' = h := AH_eq (hb rfl) (hf rfl); simp only [evalOp, get_congr (x := x) fun t ht => hs t (by simp [ROp.slots, ht])]
  case mov x => simp only [evalOp, get_congr (x := x) fun t ht => hs t (by simp [ROp.slots, ht])]; rfl
  case pick q x y => simp only [evalOp, get_congr (x := q) fun t ht => hs t (by simp [ROp.slots, ht]), get_congr (x := x) fun t ht => hs t (by simp [ROp.slots, ht]), get_congr (x := y) fun t ht => hs t (by simp [ROp.slots, ht])]; cases get fr q <;> rfl
  case box x => simp only [evalOp, get_congr (x := x) fun t ht => hs t (by simp [ROp.slots, ht]), hb rfl]; split <;> rfl
  case alloc z => simp only [evalOp, hb rfl]; rfl
  case build z ps => simp only [evalOp, buildParts_congr (ps := ps) fun t ht => hs t (by simpa [ROp.slots] using ht)]; cases buildParts fr z.cells.length ps <;> rfl
  case bslice n z ps => simp only [evalOp, sliceParts_congr (hf rfl) (ps := ps) fun t ht => hs t (by simpa [ROp.slots] using ht)]; cases sliceParts fr h (List.replicate n z) ps <;> rfl
  case ldb b n x =>
    simp only [evalOp, get_congr (x := x) fun t ht => hs t (by simp [ROp.slots, ht])]
    cases hx : get fr x <;> simp only []
    all_goals
      rw [loadA_boxes (hb rfl) (by intro k m i q h; cases h)]
      split <;> rfl
  case nilck x => simp only [evalOp, get_congr (x := x) fun t ht => hs t (by simp [ROp.slots, ht])]; cases get fr x <;> rfl
  case bin op x y => simp only [evalOp, get_congr (x := x) fun t ht => hs t (by simp [ROp.slots, ht]), get_congr (x := y) fun t ht => hs t (by simp [ROp.slots, ht])]; cases evalBin op (get fr x) (get fr y) <;> rfl
  case beq n x y =>
    simp only [evalOp, get_congr (x := x) fun t ht => hs t (by simp [ROp.slots, ht]), get_congr (x := y) fun t ht => hs t (by simp [ROp.slots, ht])]
    cases get fr x <;> first | rfl | (cases get fr y <;> rfl)
  case nileq n x => simp only [evalOp, get_congr (x := x) fun t ht => hs t (by simp [ROp.slots, ht])]; cases get fr x <;> rfl
  case un op x => simp only [evalOp, get_congr (x := x) fun t ht => hs t (by simp [ROp.slots, ht])]; cases evalUn op (get fr x) <;> rfl
  case conv k x => simp only [evalOp, get_congr (x := x) fun t ht => hs t (by simp [ROp.slots, ht])]; cases get fr x <;> rfl
  case cstr x => simp only [evalOp, get_congr (x := x) fun t ht => hs t (by simp [ROp.slots, ht])]; cases get fr x <;> rfl
  case clos f cs => simp only [evalOp, gets_congr (xs := cs) fun t ht => hs t (by simpa [ROp.slots] using ht)]; rfl
  case mkslice z b l q =>
    simp only [evalOp, get_congr (x := l) fun t ht => hs t (by simp [ROp.slots, ht]), get_congr (x := q) fun t ht => hs t (by simp [ROp.slots, ht]), hf rfl]
    cases get fr l <;> first | rfl | (cases get fr q <;> first | rfl | (simp only []; split <;> rfl))
  case slc sz x a b m =>
    simp only [evalOp, get_congr (x := x) fun t ht => hs t (by simp [ROp.slots, ht]), bound_congr (x := a) fun t ht => hs t (by simp [ROp.slots, ht]), bound_congr (x := b) fun t ht => hs t (by simp [ROp.slots, ht]), bound_congr (x := m) fun t ht => hs t (by simp [ROp.slots, ht]), sliceA_fams (hf rfl)]
    cases boundA fr a <;> first | rfl | (cases boundA fr b <;> first | rfl | (cases boundA fr m <;> first | rfl | (simp only []; split <;> rfl)))
  case faddr off x => simp only [evalOp, get_congr (x := x) fun t ht => hs t (by simp [ROp.slots, ht])]; cases get fr x <;> rfl
  case fld b off n x =>
    simp only [evalOp, get_congr (x := x) fun t ht => hs t (by simp [ROp.slots, ht])]
    cases get fr x <;> first | rfl | (simp only []; split <;> rfl)
  case iaddr sz x i =>
    simp only [evalOp, get_congr (x := x) fun t ht => hs t (by simp [ROp.slots, ht]), get_congr (x := i) fun t ht => hs t (by simp [ROp.slots, ht]), hf rfl]
    cases get fr x <;> first | rfl | (cases get fr i <;> first | rfl | (simp only []; split <;> first | rfl | (split <;> rfl)))
  case idx x i =>
    simp only [evalOp, get_congr (x := x) fun t ht => hs t (by simp [ROp.slots, ht]), get_congr (x := i) fun t ht => hs t (by simp [ROp.slots, ht])]
    cases get fr x <;> first | rfl | (cases get fr i <;> first | rfl | (simp only []; split <;> first | rfl | (split <;> rfl)))
  case ext x i =>
    simp only [evalOp, get_congr (x := x) fun t ht => hs t (by simp [ROp.slots, ht])]
    cases get fr x <;> first | rfl | (simp only []; split <;> rfl)
  case len b x => cases b <;> simp only [evalOp, get_congr (x := x) fun t ht => hs t (by simp [ROp.slots, ht])] <;> cases get fr x <;> rfl
  case app sz b s x =>
    simp only [evalOp, appendA, get_congr (x := s) fun t ht => hs t (by simp [ROp.slots, ht]), get_congr (x := x) fun t ht => hs t (by simp [ROp.slots, ht]), elems_fams (hf rfl), hf rfl]
    split
    · rfl
    · split
      · split
        · rfl
        · split <;> rfl
      · split
        · split <;> rfl
        · rfl
      · rfl
  case max x y =>
    simp only [evalOp, get_congr (x := x) fun t ht => hs t (by simp [ROp.slots, ht]), get_congr (x := y) fun t ht => hs t (by simp [ROp.slots, ht])]
    cases get fr x <;> first | rfl | (cases get fr y <;> first | rfl | (simp only []; split <;> rfl))

end
end Go.Abs

/- A statement whose order is open: whatever order comes, the end is that of the text's order. -/
namespace Go.Abs
open Go.RowKit (Below)
section
variable {O : Orc} {c : Ctx}

theorem op_congr {r : ROp} {fr fr' : Fr} {h h' h1 : AH} {v : AV} (hs : ∀ t ∈ r.slots, fr'.getD t undefA = fr.getD t undefA) (hb : r.looksB c = true → h'.boxes = h.boxes) (hf : r.looksF = true → h'.fams = h.fams)
    (he : evalOp O c r fr h = some (v, h1)) : ∃ h1', evalOp O c r fr' h' = some (v, h1') ∧ (r.writesB c = true → h1'.boxes = h1.boxes) ∧ (r.writesF c = true → h1'.fams = h1.fams) := by
  by_cases hcall : r.isCall = false
  · have h2 := op_fst (O := O) hs hb hf hcall (by rw [he]; rfl)
    rw [he] at h2
    cases h3 : evalOp O c r fr' h' with
    | none => rw [h3] at h2; cases h2
    | some x =>
      obtain ⟨v', h1'⟩ := x
      rw [h3] at h2
      have : v' = v := by simpa using h2
      subst this
      refine ⟨h1', rfl, fun hw => ?_, fun hw => ?_⟩
      · cases r <;> simp only [ROp.writesB] at hw <;> try (cases hw; done)
        case call => simp [ROp.isCall] at hcall
        case callv => simp [ROp.isCall] at hcall
        case st n a x =>
          obtain rfl : h' = h := AH_eq (hb rfl) (hf rfl)
          simp only [evalOp, get_congr (x := a) fun t ht => hs t (by simp [ROp.slots, ht]), get_congr (x := x) fun t ht => hs t (by simp [ROp.slots, ht])] at h3 he
          rw [h3] at he; cases he; rfl
        case box x =>
          simp only [evalOp, get_congr (x := x) fun t ht => hs t (by simp [ROp.slots, ht]), hb rfl] at h3 he
          split at he
          · cases he
          · rename_i ht; rw [if_neg ht] at h3; cases he; cases h3; rfl
        case alloc z => simp only [evalOp, hb rfl] at h3 he; cases he; cases h3; rfl
      · cases r <;> simp only [ROp.writesF] at hw <;> try (cases hw; done)
        case call => simp [ROp.isCall] at hcall
        case callv => simp [ROp.isCall] at hcall
        case st n a x =>
          obtain rfl : h' = h := AH_eq (hb rfl) (hf rfl)
          simp only [evalOp, get_congr (x := a) fun t ht => hs t (by simp [ROp.slots, ht]), get_congr (x := x) fun t ht => hs t (by simp [ROp.slots, ht])] at h3 he
          rw [h3] at he; cases he; rfl
        case mkslice z b l q =>
          simp only [evalOp, get_congr (x := l) fun t ht => hs t (by simp [ROp.slots, ht]), get_congr (x := q) fun t ht => hs t (by simp [ROp.slots, ht]), hf rfl] at h3 he
          split at he
          · rename_i e1 e2
            simp only [e1, e2] at h3
            split at he
            · rename_i hc; rw [if_pos hc] at h3; cases he; cases h3; rfl
            · cases he
          · cases he
        case app sz b s x =>
          simp only [evalOp, appendA, get_congr (x := s) fun t ht => hs t (by simp [ROp.slots, ht]), get_congr (x := x) fun t ht => hs t (by simp [ROp.slots, ht]), elems_fams (hf rfl), hf rfl] at h3 he
          cases hel : elems h sz (get fr x) with
          | none => rw [hel] at he; cases he
          | some ys =>
            rw [hel] at he h3
            dsimp only at he h3
            cases hg : get fr s <;> rw [hg] at he h3 <;> (try dsimp only at he h3) <;> try (cases he; done)
            case vs full z xs =>
              cases full <;> (try dsimp only at he h3)
              · cases he
              · split at he
                · rename_i hc; rw [if_pos hc] at h3; cases he; cases h3; exact hf rfl
                · rename_i hc; rw [if_neg hc] at h3
                  split at he
                  · rename_i hc2; rw [if_pos hc2] at h3; cases he; cases h3; rfl
                  · cases he
            case sl k n off len =>
              cases hk : h.fams[k]? with
              | none => rw [hk] at he; cases he
              | some f =>
                rw [hk] at he h3
                dsimp only at he h3
                split at he
                · rename_i hc; rw [if_pos hc] at h3; cases he; cases h3; rfl
                · cases he
  · cases r <;> simp only [ROp.isCall] at hcall <;> try (exact absurd trivial hcall)
    case callv x aas =>
      obtain rfl : h' = h := AH_eq (hb rfl) (hf rfl)
      refine ⟨h1, ?_, fun _ => rfl, fun _ => rfl⟩
      rw [← he]
      simp only [evalOp, get_congr (x := x) fun t ht => hs t (by simp only [ROp.slots, List.mem_append]; exact .inl ht), gets_congr (xs := aas) fun t ht => hs t (by simp only [ROp.slots, List.mem_append]; exact .inr ht)]
    case call f aas =>
      have ha : aas.map (get fr') = aas.map (get fr) := gets_congr (xs := aas) fun t ht => hs t (by simpa [ROp.slots] using ht)
      cases hr : c.raw f with
      | true =>
        obtain rfl : h' = h := AH_eq (hb (by simp [ROp.looksB, hr])) (hf rfl)
        exact ⟨h1, by rw [← he]; simp only [evalOp, ha], fun _ => rfl, fun _ => rfl⟩
      | false =>
        simp only [evalOp] at he ⊢
        refine ⟨h', by rw [ha]; exact callA_congr hr (hf rfl) he, fun hw => ?_, fun hw => ?_⟩
        · simp [ROp.writesB, hr] at hw
        · simp [ROp.writesF, hr] at hw

/-! ### Which operations surely come before another -/

def deps (o : Oper) (acc : List Nat) : Nat := o.after.toList.foldl (fun s e => if Region.binds .any e then s ||| 2 ^ e.on ||| acc.getD e.on 0 else s) 0

theorem before_spec : ∀ (l : List Oper) (acc : List Nat), ∃ ext, before l acc = acc ++ ext ∧ ext.length = l.length ∧ ∀ (k : Nat) (o : Oper), l[k]? = some o → ext[k]? = some (deps o (acc ++ ext.take k))
  | [], acc => ⟨[], by simp [before], rfl, fun k o h => by simp at h⟩
  | o :: l, acc => by
    obtain ⟨ext, h1, h2, h3⟩ := before_spec l (acc ++ [deps o acc])
    refine ⟨deps o acc :: ext, ?_, by simp [h2], fun k o' hk => ?_⟩
    · rw [before]
      show before l (acc ++ [deps o acc]) = _
      rw [h1]; simp
    · cases k with
      | zero => simp at hk; subst hk; simp
      | succ k =>
        have := h3 k o' (by simpa using hk)
        simpa using this

theorem fold_bits {acc : List Nat} {i : Nat} : ∀ (l : List Edge) (s : Nat), (l.foldl (fun s e => if Region.binds .any e then s ||| 2 ^ e.on ||| acc.getD e.on 0 else s) s).testBit i = true →
    s.testBit i = true ∨ ∃ e ∈ l, Region.binds .any e = true ∧ (e.on = i ∨ (acc.getD e.on 0).testBit i = true)
  | [], s, h => .inl h
  | e :: l, s, h => by
    simp only [List.foldl_cons] at h
    rcases fold_bits l _ h with h1 | ⟨e', he', h1⟩
    · split at h1
      · rename_i hb
        rw [Nat.testBit_or, Nat.testBit_or] at h1
        simp only [Bool.or_eq_true] at h1
        rcases h1 with (h1 | h1) | h1
        · exact .inl h1
        · rw [Nat.testBit_two_pow] at h1
          exact .inr ⟨e, by simp, hb, .inl (by simpa using h1)⟩
        · exact .inr ⟨e, by simp, hb, .inr h1⟩
      · exact .inl h1
    · exact .inr ⟨e', by simp [he'], h1⟩

/-- Operation i surely comes before operation j. -/
def Dep (ops : List Oper) (i j : Nat) : Prop := ((before ops []).getD j 0).testBit i = true

theorem dep_edge {ops : List Oper} {i j : Nat} (h : Dep ops i j) : ∃ o e, ops[j]? = some o ∧ e ∈ o.after.toList ∧ Region.binds .any e = true ∧ (e.on = i ∨ Dep ops i e.on) := by
  obtain ⟨ext, h1, h2, h3⟩ := before_spec ops []
  simp only [List.nil_append] at h1 h3
  unfold Dep at h
  rw [h1] at h
  cases ho : ops[j]? with
  | none =>
    have : ext[j]? = none := by
      rw [List.getElem?_eq_none_iff] at ho ⊢
      omega
    simp [List.getD, this] at h
  | some o =>
    have h4 := h3 j o ho
    rw [List.getD, h4] at h
    simp only [Option.getD_some] at h
    unfold deps at h
    rcases fold_bits _ _ h with h5 | ⟨e, he, hb, h5⟩
    · simp at h5
    · refine ⟨o, e, rfl, he, hb, ?_⟩
      rcases h5 with h5 | h5
      · exact .inl h5
      · right
        unfold Dep
        rw [h1]
        have : (ext.take j).getD e.on 0 = ext.getD e.on 0 ∨ (ext.take j).getD e.on 0 = 0 := by
          simp only [List.getD, List.getElem?_take]
          split
          · exact .inl rfl
          · exact .inr rfl
        rcases this with h6 | h6
        · rw [← h6]; exact h5
        · rw [h6] at h5; simp at h5

theorem edges_lt : ∀ {ops : List Oper} {k : Nat}, edgesOk ops k = true → ∀ {j : Nat} {o : Oper} {e : Edge}, ops[j]? = some o → e ∈ o.after.toList → Region.binds .any e = true → e.on < k + j
  | [], _, _, j, o, e, h, _, _ => by simp at h
  | o' :: ops, k, h, j, o, e, ho, he, hb => by
    simp only [edgesOk, Bool.and_eq_true] at h
    cases j with
    | zero =>
      simp at ho; subst ho
      have := (List.all_eq_true.1 h.1) e he
      simp [hb] at this
      omega
    | succ j =>
      have := edges_lt h.2 (j := j) (o := o) (by simpa using ho) he hb
      omega

end
end Go.Abs

/- The theorem on a statement whose order is open. -/
namespace Go.Abs
open Go.RowKit (Below)
section
variable {P : Program} {O : Orc} {c : Ctx}

theorem trace_of : ∀ {ros : List RO} {fr fr' : Fr} {h h' : AH}, evalOps O c ros fr h = some (fr', h') →
    ∃ (F : Nat → Fr) (H : Nat → AH) (V : Nat → AV), F 0 = fr ∧ H 0 = h ∧ F ros.length = fr' ∧ H ros.length = h' ∧
      ∀ (i : Nat) (ro : RO), ros[i]? = some ro → stepA O c ro (F i) (H i) = some (V i, H (i + 1)) ∧ F (i + 1) = put (F i) ro.dst (V i)
  | [], fr, fr', h, h', he => by
    simp only [evalOps] at he
    cases he
    exact ⟨fun _ => fr, fun _ => h, fun _ => .junk, rfl, rfl, rfl, rfl, fun i ro hr => by simp at hr⟩
  | o :: ros, fr, fr', h, h', he => by
    rw [evalOps_cons, Option.bind_eq_some_iff] at he
    obtain ⟨⟨v, h1⟩, hst, hrest⟩ := he
    obtain ⟨F, H, V, f0, f1, f2, f3, f4⟩ := trace_of hrest
    refine ⟨fun i => if i = 0 then fr else F (i - 1), fun i => if i = 0 then h else H (i - 1), fun i => if i = 0 then v else V (i - 1), by simp, by simp, by simpa using f2, by simpa using f3, fun i ro hr => ?_⟩
    cases i with
    | zero =>
      simp at hr; subst hr
      simp [f0, f1, hst]
    | succ i =>
      have := f4 i ro (by simpa using hr)
      simpa using this

theorem put_len (fr : Fr) (d : Option Nat) (v : AV) : (put fr d v).length = fr.length := by cases d <;> simp [put]

theorem put_getD_same {fr : Fr} {t : Nat} {v : AV} (h : t < fr.length) : (put fr (some t) v).getD t undefA = v := by simp [put, List.getD, h]
theorem put_getD_other {fr : Fr} {d : Option Nat} {t : Nat} {v : AV} (h : d ≠ some t) : (put fr d v).getD t undefA = fr.getD t undefA := by
  cases d with
  | none => rfl
  | some d =>
    have : d ≠ t := fun e => h (by rw [e])
    simp [put, List.getD, List.getElem?_set_ne this]

theorem step_congr {ro : RO} {fr fr' : Fr} {h h' h1 : AH} {v : AV} (hs : ∀ t ∈ ro.slots, fr'.getD t undefA = fr.getD t undefA) (hb : ro.op.looksB c = true → h'.boxes = h.boxes) (hf : ro.op.looksF = true → h'.fams = h.fams)
    (he : stepA O c ro fr h = some (v, h1)) :
    ∃ h1', stepA O c ro fr' h' = some (v, h1') ∧ (ro.op.writesB c = true → h1'.boxes = h1.boxes) ∧ (ro.op.writesB c = false → h1'.boxes = h'.boxes) ∧ (ro.op.writesF c = true → h1'.fams = h1.fams) ∧ (ro.op.writesF c = false → h1'.fams = h'.fams) := by
  have hw : wantedA fr' ro.guard = wantedA fr ro.guard := by
    cases hg : ro.guard with
    | none => rfl
    | some g =>
      obtain ⟨s, want⟩ := g
      have := hs s (by simp [RO.slots, hg])
      simp only [wantedA, this]
  unfold stepA at he ⊢
  rw [hw]
  split at he
  · obtain ⟨h1', e1, e2, e3⟩ := op_congr (fun t ht => hs t (by simp only [RO.slots, List.mem_append]; exact .inl ht)) hb hf he
    exact ⟨h1', e1, e2, (op_heap e1).1, e3, (op_heap e1).2⟩
  · cases he
    exact ⟨h', rfl, fun w => hb (writes_looksB _ w), fun _ => rfl, fun w => hf (writes_looksF _ w), fun _ => rfl⟩
  · cases he

theorem step_heap {ro : RO} {fr : Fr} {h h1 : AH} {v : AV} (he : stepA O c ro fr h = some (v, h1)) : (ro.op.writesB c = false → h1.boxes = h.boxes) ∧ (ro.op.writesF c = false → h1.fams = h.fams) := by
  unfold stepA at he
  split at he
  · exact op_heap he
  · cases he; exact ⟨fun _ => rfl, fun _ => rfl⟩
  · cases he

theorem pair_of {bs : List Nat} {ros : List RO} (h : pairsOk c bs ros = true) {i j : Nat} {oi oj : RO} (hij : i < j) (hi : ros[i]? = some oi) (hj : ros[j]? = some oj) :
    pairOk c (bs.getD j 0) i oi oj = true ∧ (∀ d, oi.dst = some d → oj.dst ≠ some d) := by
  unfold pairsOk at h
  have hjl := (List.getElem?_eq_some_iff.1 hj).1
  have h1 := (List.all_eq_true.1 h) j (List.mem_range.2 hjl)
  have h2 := (List.all_eq_true.1 h1) i (List.mem_range.2 hij)
  simp only [hi, hj, Bool.and_eq_true] at h2
  refine ⟨h2.1, fun d hd hd' => ?_⟩
  have := h2.2
  rw [hd, hd'] at this
  simp at this

/-- What the check of a pair gives where neither surely comes first. -/
theorem apart_of {ops : List Oper} {ros : List RO} (h : pairsOk c (before ops []) ros = true) {i j : Nat} {oi oj : RO} (hij : i < j) (hi : ros[i]? = some oi) (hj : ros[j]? = some oj) (hd : ¬ Dep ops i j) :
    (∀ d, oi.dst = some d → d ∉ oj.slots) ∧ (∀ d, oj.dst = some d → d ∉ oi.slots) ∧ (oi.op.writesB c = true → oj.op.looksB c = false) ∧ (oi.op.looksB c = true → oj.op.writesB c = false) ∧
      (oi.op.writesF c = true → oj.op.looksF = false) ∧ (oi.op.looksF = true → oj.op.writesF c = false) := by
  obtain ⟨h1, _⟩ := pair_of h hij hi hj
  unfold pairOk at h1
  have hd' : ((before ops []).getD j 0).testBit i = false := by simpa [Dep] using hd
  rw [hd', Bool.false_or] at h1
  simp only [Bool.and_eq_true, Bool.not_eq_true', Bool.and_eq_false_iff] at h1
  obtain ⟨⟨⟨⟨⟨a1, a2⟩, a3⟩, a4⟩, a5⟩, a6⟩ := h1
  refine ⟨fun d hd => ?_, fun d hd => ?_, fun hw => ?_, fun hw => ?_, fun hw => ?_, fun hw => ?_⟩
  · rw [hd] at a1; simp at a1; exact a1.1
  · rw [hd] at a2; simpa using a2
  · rcases a3 with h | h
    · rw [hw] at h; cases h
    · exact h
  · rcases a4 with h | h
    · rw [hw] at h; cases h
    · exact h
  · rcases a5 with h | h
    · rw [hw] at h; cases h
    · exact h
  · rcases a6 with h | h
    · rw [hw] at h; cases h
    · exact h

def Lst (listed : Array Bool) (i : Nat) : Prop := listed.getD i false = true

theorem Lst_set {listed : Array Bool} {j i : Nat} (hj : j < listed.size) : Lst (listed.setIfInBounds j true) i ↔ i = j ∨ Lst listed i := by
  unfold Lst
  by_cases h : i = j
  · subst h
    simp [Array.getD_eq_getD_getElem?, hj]
  · simp [Array.getD_eq_getD_getElem?, Array.getElem?_setIfInBounds_ne (Ne.symm h), h]

theorem ready_iff {ops : Array Oper} {listed : Array Bool} (hl : listed.size = ops.size) {j : Nat} : j ∈ Region.ready .any ops listed ↔ ∃ o, ops[j]? = some o ∧ ¬ Lst listed j ∧ ∀ e ∈ o.after.toList, Region.binds .any e = true → Lst listed e.on := by
  unfold Region.ready Lst
  simp only [List.mem_filter, List.mem_range, Bool.and_eq_true, Bool.not_eq_true']
  constructor
  · rintro ⟨h1, h2, h3⟩
    have ho : ops[j]? = some ops[j] := Array.getElem?_eq_getElem h1
    refine ⟨ops[j], ho, ?_, fun e he hb => ?_⟩
    · rw [Array.getD_eq_getD_getElem?] at h2 ⊢
      rw [Array.getElem?_eq_getElem (by omega)] at h2 ⊢
      simpa using h2
    · rw [ho] at h3
      simp only [Option.map_some, Option.getD_some, Array.all_eq_true_iff_forall_mem] at h3
      have := h3 e (by simpa using he)
      simpa [hb] using this
  · rintro ⟨o, h1, h2, h3⟩
    have hlt := (Array.getElem?_eq_some_iff.1 h1).1
    refine ⟨hlt, ?_, ?_⟩
    · rw [Array.getD_eq_getD_getElem?] at h2 ⊢
      rw [Array.getElem?_eq_getElem (by omega)] at h2 ⊢
      simpa using h2
    · rw [h1]
      simp only [Option.map_some, Option.getD_some, Array.all_eq_true_iff_forall_mem]
      intro e he
      cases hb : Region.binds .any e with
      | false => rfl
      | true => simpa using h3 e (by simpa using he) hb

/-- What a statement's evaluation in the text's order lays down. -/
structure Tr (O : Orc) (c : Ctx) (ops : Array Oper) (ros : List RO) (F : Nat → Fr) (H : Nat → AH) (V : Nat → AV) : Prop where
  len : ros.length = ops.size
  rel : ∀ (i : Nat) (o : Oper) (ro : RO), ops[i]? = some o → ros[i]? = some ro → RORel P ops.toList o ro
  edges : edgesOk ops.toList 0 = true
  pairs : pairsOk c (before ops.toList []) ros = true
  step : ∀ (i : Nat) (ro : RO), ros[i]? = some ro → stepA O c ro (F i) (H i) = some (V i, H (i + 1)) ∧ F (i + 1) = put (F i) ro.dst (V i)

section
variable {ops : Array Oper} {ros : List RO} {F : Nat → Fr} {H : Nat → AH} {V : Nat → AV}

theorem Tr.flen (T : Tr (P := P) O c ops ros F H V) : ∀ i, i ≤ ros.length → (F i).length = (F 0).length
  | 0, _ => rfl
  | i + 1, h => by
    rw [(T.step i _ (List.getElem?_eq_getElem (by omega))).2, put_len]
    exact T.flen i (by omega)

theorem Tr.ghost (T : Tr (P := P) O c ops ros F H V) {t : Nat} : ∀ j, j ≤ ros.length → (∀ (i : Nat) (ro : RO), i < j → ros[i]? = some ro → ro.dst ≠ some t) → (F j).getD t undefA = (F 0).getD t undefA
  | 0, _, _ => rfl
  | j + 1, h, hn => by
    have hj : ros[j]? = some ros[j] := List.getElem?_eq_getElem (by omega)
    rw [(T.step j _ hj).2, put_getD_other (hn j _ (by omega) hj)]
    exact T.ghost j (by omega) fun i ro hi => hn i ro (by omega)

theorem Tr.written (T : Tr (P := P) O c ops ros F H V) {t i : Nat} {ri : RO} (hi : ros[i]? = some ri) (hd : ri.dst = some t) (ht : t < (F 0).length) : ∀ j, j ≤ ros.length → i < j → (F j).getD t undefA = V i
  | 0, _, h => by omega
  | j + 1, h, hij => by
    have hj : ros[j]? = some ros[j] := List.getElem?_eq_getElem (by omega)
    rw [(T.step j _ hj).2]
    by_cases he : i = j
    · subst he
      rw [hi] at hj
      have : ros[i] = ri := by simpa using hj.symm
      rw [this, hd]
      exact put_getD_same (by rw [T.flen i (by omega)]; exact ht)
    · rw [put_getD_other ((pair_of T.pairs (show i < j by omega) hi hj).2 t hd)]
      exact T.written hi hd ht j (by omega) (by omega)

theorem Tr.boxes (T : Tr (P := P) O c ops ros F H V) {i : Nat} : ∀ k, k ≤ ros.length → i ≤ k → (∀ (m : Nat) (rm : RO), i ≤ m → m < k → ros[m]? = some rm → rm.op.writesB c = false) → (H k).boxes = (H i).boxes
  | 0, _, h, _ => by have : i = 0 := by omega
                     subst this; rfl
  | k + 1, h, hik, hn => by
    by_cases he : i = k + 1
    · subst he; rfl
    · have hk : ros[k]? = some ros[k] := List.getElem?_eq_getElem (by omega)
      rw [(step_heap (T.step k _ hk).1).1 (hn k _ (by omega) (by omega) hk)]
      exact T.boxes k (by omega) (by omega) fun m rm h1 h2 => hn m rm h1 (by omega)

theorem Tr.fams (T : Tr (P := P) O c ops ros F H V) {i : Nat} : ∀ k, k ≤ ros.length → i ≤ k → (∀ (m : Nat) (rm : RO), i ≤ m → m < k → ros[m]? = some rm → rm.op.writesF c = false) → (H k).fams = (H i).fams
  | 0, _, h, _ => by have : i = 0 := by omega
                     subst this; rfl
  | k + 1, h, hik, hn => by
    by_cases he : i = k + 1
    · subst he; rfl
    · have hk : ros[k]? = some ros[k] := List.getElem?_eq_getElem (by omega)
      rw [(step_heap (T.step k _ hk).1).2 (hn k _ (by omega) (by omega) hk)]
      exact T.fams k (by omega) (by omega) fun m rm h1 h2 => hn m rm h1 (by omega)

/-- Where the exploration stands. -/
structure Inv (ops : Array Oper) (ros : List RO) (F : Nat → Fr) (H : Nat → AH) (V : Nat → AV) (c : Ctx) (listed : Array Bool) (E : Env) (frS : Fr) : Prop where
  size : listed.size = ops.size
  closed : ∀ j, Lst listed j → ∀ i, Dep ops.toList i j → Lst listed i
  flen : frS.length = (F 0).length
  wrote : ∀ (i t : Nat) (ro : RO), ros[i]? = some ro → Lst listed i → ro.dst = some t → t < (F 0).length → frS.getD t undefA = V i
  kept : ∀ t : Nat, (∀ (i : Nat) (ro : RO), ros[i]? = some ro → Lst listed i → ro.dst ≠ some t) → frS.getD t undefA = (F 0).getD t undefA
  boxes : ∀ k, k ≤ ros.length → (∀ (m : Nat) (rm : RO), ros[m]? = some rm → rm.op.writesB c = true → (Lst listed m ↔ m < k)) → E.h.boxes = (H k).boxes
  fams : ∀ k, k ≤ ros.length → (∀ (m : Nat) (rm : RO), ros[m]? = some rm → rm.op.writesF c = true → (Lst listed m ↔ m < k)) → E.h.fams = (H k).fams

theorem Dep_lt (T : Tr (P := P) O c ops ros F H V) : ∀ {j i : Nat}, Dep ops.toList i j → i < j := by
  intro j
  induction j using Nat.strongRecOn with
  | _ j ih =>
    intro i h
    obtain ⟨o, e, ho, he, hb, h1⟩ := dep_edge h
    have hlt := edges_lt T.edges ho he hb
    rcases h1 with h1 | h1
    · omega
    · have := ih e.on (by omega) h1
      omega

/-- For an operation that comes up now: whatever disturbs it stands as it stood in the text's order. -/
theorem Inv.view (T : Tr (P := P) O c ops ros F H V) {listed : Array Bool} {E : Env} {frS : Fr} (I : Inv ops ros F H V c listed E frS) {j : Nat} {rj : RO} (hj : ros[j]? = some rj) (hnl : ¬ Lst listed j) (hdeps : ∀ i, Dep ops.toList i j → Lst listed i) :
    (∀ t ∈ rj.slots, frS.getD t undefA = (F j).getD t undefA) ∧ (rj.op.looksB c = true → E.h.boxes = (H j).boxes) ∧ (rj.op.looksF = true → E.h.fams = (H j).fams) := by
  have hjl := (List.getElem?_eq_some_iff.1 hj).1
  -- for an operation m that must not be reordered with j
  have side : ∀ (m : Nat) (rm : RO), ros[m]? = some rm → m ≠ j → ((m < j → Dep ops.toList m j) ∧ (j < m → Dep ops.toList j m)) → (Lst listed m ↔ m < j) := by
    intro m rm hm hne hd
    constructor
    · intro hl
      rcases Nat.lt_or_gt_of_ne hne with h | h
      · exact h
      · exact absurd (I.closed m hl j (hd.2 h)) hnl
    · intro h
      exact hdeps m (hd.1 h)
  refine ⟨fun t ht => ?_, fun hB => ?_, fun hF => ?_⟩
  · by_cases hw : ∃ (m : Nat) (rm : RO), ros[m]? = some rm ∧ rm.dst = some t
    · obtain ⟨m, rm, hm, hd⟩ := hw
      have hml := (List.getElem?_eq_some_iff.1 hm).1
      by_cases hmj : m = j
      · -- it writes the slot itself: not yet
        subst hmj
        have h1 : frS.getD t undefA = (F 0).getD t undefA := I.kept t fun i ro hi hl hdi => by
          rcases Nat.lt_trichotomy i m with h | h | h
          · exact (pair_of T.pairs h hi hm).2 t hdi hd
          · subst h; exact hnl hl
          · exact (pair_of T.pairs h hm hi).2 t hd hdi
        have h2 : (F m).getD t undefA = (F 0).getD t undefA := T.ghost m (by omega) fun i ro h hi hdi => (pair_of T.pairs h hi hm).2 t hdi hd
        rw [h1, h2]
      · have hs : Lst listed m ↔ m < j := by
          refine side m rm hm hmj ⟨fun h => ?_, fun h => ?_⟩
          · exact Classical.byContradiction fun hn => (apart_of T.pairs h hm hj hn).1 t hd ht
          · exact Classical.byContradiction fun hn => (apart_of T.pairs h hj hm hn).2.1 t hd ht
        by_cases htl : t < (F 0).length
        · by_cases hlt : m < j
          · rw [I.wrote m t rm hm (hs.2 hlt) hd htl, T.written hm hd htl j (by omega) hlt]
          · have h1 : frS.getD t undefA = (F 0).getD t undefA := I.kept t fun i ro hi hl hdi => by
              rcases Nat.lt_trichotomy i m with h | h | h
              · exact (pair_of T.pairs h hi hm).2 t hdi hd
              · subst h; exact hlt (hs.1 hl)
              · exact (pair_of T.pairs h hm hi).2 t hd hdi
            have h2 : (F j).getD t undefA = (F 0).getD t undefA := T.ghost j (by omega) fun i ro h hi hdi => by
              rcases Nat.lt_trichotomy i m with h' | h' | h'
              · exact (pair_of T.pairs h' hi hm).2 t hdi hd
              · omega
              · exact (pair_of T.pairs h' hm hi).2 t hd hdi
            rw [h1, h2]
        · have h1 : frS.getD t undefA = undefA := by simp [List.getD, List.getElem?_eq_none (show frS.length ≤ t by rw [I.flen]; omega)]
          have h2 : (F j).getD t undefA = undefA := by simp [List.getD, List.getElem?_eq_none (show (F j).length ≤ t by rw [T.flen j (by omega)]; omega)]
          rw [h1, h2]
    · have hw' : ∀ (i : Nat) (ro : RO), ros[i]? = some ro → ro.dst ≠ some t := fun i ro hi hd => hw ⟨i, ro, hi, hd⟩
      rw [I.kept t fun i ro hi _ => hw' i ro hi, T.ghost j (by omega) fun i ro _ hi => hw' i ro hi]
  · refine I.boxes j (by omega) fun m rm hm hwm => ?_
    by_cases hmj : m = j
    · subst hmj; exact ⟨fun h => absurd h hnl, fun h => by omega⟩
    · refine side m rm hm hmj ⟨fun h => ?_, fun h => ?_⟩
      · exact Classical.byContradiction fun hn => by have := (apart_of T.pairs h hm hj hn).2.2.1 hwm; rw [hB] at this; cases this
      · exact Classical.byContradiction fun hn => by have := (apart_of T.pairs h hj hm hn).2.2.2.1 hB; rw [hwm] at this; cases this
  · refine I.fams j (by omega) fun m rm hm hwm => ?_
    by_cases hmj : m = j
    · subst hmj; exact ⟨fun h => absurd h hnl, fun h => by omega⟩
    · refine side m rm hm hmj ⟨fun h => ?_, fun h => ?_⟩
      · exact Classical.byContradiction fun hn => by have := (apart_of T.pairs h hm hj hn).2.2.2.2.1 hwm; rw [hF] at this; cases this
      · exact Classical.byContradiction fun hn => by have := (apart_of T.pairs h hj hm hn).2.2.2.2.2 hF; rw [hwm] at this; cases this

end
end
end Go.Abs

/- The theorem on a statement whose order is open, ended; the two kinds of statements. -/
namespace Go.Abs
open Go.RowKit (Below)
section
variable {P : Program} {O : Orc} {c : Ctx} {ops : Array Oper} {ros : List RO} {F : Nat → Fr} {H : Nat → AH} {V : Nat → AV}

theorem Inv.next (T : Tr (P := P) O c ops ros F H V) {listed : Array Bool} {E E' : Env} {frS : Fr} (I : Inv ops ros F H V c listed E frS) {j : Nat} {rj : RO} (hj : ros[j]? = some rj) (hnl : ¬ Lst listed j) (hdeps : ∀ i, Dep ops.toList i j → Lst listed i)
    {h1 : AH} (hE : E'.h = h1) (wB : rj.op.writesB c = true → h1.boxes = (H (j + 1)).boxes) (nB : rj.op.writesB c = false → h1.boxes = E.h.boxes) (wF : rj.op.writesF c = true → h1.fams = (H (j + 1)).fams) (nF : rj.op.writesF c = false → h1.fams = E.h.fams) :
    Inv ops ros F H V c (listed.setIfInBounds j true) E' (put frS rj.dst (V j)) := by
  have hjl := (List.getElem?_eq_some_iff.1 hj).1
  have hjs : j < listed.size := by rw [I.size, ← T.len]; exact hjl
  subst hE
  -- an operation that writes what j writes is not listed unless it comes before j
  have order : ∀ (m : Nat) (rm : RO), ros[m]? = some rm → m ≠ j → ((rm.op.writesB c = true ∧ rj.op.writesB c = true) ∨ (rm.op.writesF c = true ∧ rj.op.writesF c = true)) → Lst listed m → m < j := by
    intro m rm hm hne hw hl
    rcases Nat.lt_or_gt_of_ne hne with h | h
    · exact h
    · exfalso
      have hd : Dep ops.toList j m := Classical.byContradiction fun hn => by
        have ha := apart_of T.pairs h hj hm hn
        rcases hw with ⟨w1, w2⟩ | ⟨w1, w2⟩
        · have := ha.2.2.1 w2; rw [writes_looksB _ w1] at this; cases this
        · have := ha.2.2.2.2.1 w2; rw [writes_looksF _ w1] at this; cases this
      exact hnl (I.closed m hl j hd)
  refine ⟨by simpa using I.size, fun i hi k hk => ?_, by rw [put_len]; exact I.flen, fun i t ro hi hl hd ht => ?_, fun t hn => ?_, fun k hk hm => ?_, fun k hk hm => ?_⟩
  · rw [Lst_set hjs] at hi ⊢
    rcases hi with rfl | hi
    · exact .inr (hdeps k hk)
    · exact .inr (I.closed i hi k hk)
  · rw [Lst_set hjs] at hl
    by_cases hij : i = j
    · subst hij
      rw [hi] at hj
      have : ro = rj := by simpa using hj
      subst this
      rw [hd]
      exact put_getD_same (by rw [I.flen]; exact ht)
    · have hl' : Lst listed i := hl.resolve_left hij
      have hne : rj.dst ≠ some t := by
        rcases Nat.lt_or_gt_of_ne hij with h | h
        · exact (pair_of T.pairs h hi hj).2 t hd
        · exact fun hd' => (pair_of T.pairs h hj hi).2 t hd' hd
      rw [put_getD_other hne]
      exact I.wrote i t ro hi hl' hd ht
  · have h1 : rj.dst ≠ some t := hn j rj hj ((Lst_set hjs).2 (.inl rfl))
    rw [put_getD_other h1]
    exact I.kept t fun i ro hi hl => hn i ro hi ((Lst_set hjs).2 (.inr hl))
  · by_cases hw : rj.op.writesB c = true
    · rw [wB hw]
      have hjk : j < k := (hm j rj hj hw).1 ((Lst_set hjs).2 (.inl rfl))
      refine (T.boxes k hk (by omega) fun m rm h1 h2 hmr => ?_).symm
      cases hwm : rm.op.writesB c with
      | false => rfl
      | true =>
        have := (hm m rm hmr hwm).2 h2
        rw [Lst_set hjs] at this
        rcases this with h | h
        · omega
        · have := order m rm hmr (by omega) (.inl ⟨hwm, hw⟩) h
          omega
    · have hw' : rj.op.writesB c = false := by simpa using hw
      rw [nB hw']
      refine I.boxes k hk fun m rm hmr hwm => ?_
      rw [← hm m rm hmr hwm, Lst_set hjs]
      refine ⟨.inr, fun h => h.resolve_left fun e => ?_⟩
      subst e
      rw [hmr] at hj
      have : rm = rj := by simpa using hj
      subst this
      rw [hwm] at hw'; cases hw'
  · by_cases hw : rj.op.writesF c = true
    · rw [wF hw]
      have hjk : j < k := (hm j rj hj hw).1 ((Lst_set hjs).2 (.inl rfl))
      refine (T.fams k hk (by omega) fun m rm h1 h2 hmr => ?_).symm
      cases hwm : rm.op.writesF c with
      | false => rfl
      | true =>
        have := (hm m rm hmr hwm).2 h2
        rw [Lst_set hjs] at this
        rcases this with h | h
        · omega
        · have := order m rm hmr (by omega) (.inr ⟨hwm, hw⟩) h
          omega
    · have hw' : rj.op.writesF c = false := by simpa using hw
      rw [nF hw']
      refine I.fams k hk fun m rm hmr hwm => ?_
      rw [← hm m rm hmr hwm, Lst_set hjs]
      refine ⟨.inr, fun h => h.resolve_left fun e => ?_⟩
      subst e
      rw [hmr] at hj
      have : rm = rj := by simpa using hj
      subst this
      rw [hwm] at hw'; cases hw'

/-- How many operations are still to come. -/
def left (n : Nat) (listed : Array Bool) : Nat := ((List.range n).filter fun i => !listed.getD i false).length

theorem left_zero {n : Nat} {listed : Array Bool} (h : left n listed = 0) {i : Nat} (hi : i < n) : Lst listed i := by
  unfold left at h
  have h1 := List.eq_nil_of_length_eq_zero h
  rw [List.filter_eq_nil_iff] at h1
  have := h1 i (List.mem_range.2 hi)
  simpa [Lst] using this

theorem left_set {n j : Nat} {listed : Array Bool} (hj : j < n) (hs : listed.size = n) (hnl : ¬ Lst listed j) : left n (listed.setIfInBounds j true) + 1 = left n listed := by
  unfold left
  have h1 : ((List.range n).filter fun i => !(listed.setIfInBounds j true).getD i false) = ((List.range n).filter fun i => !listed.getD i false).erase j := by
    rw [List.Nodup.erase_eq_filter (List.Pairwise.filter _ List.nodup_range), List.filter_filter]
    refine List.filter_congr fun i _ => ?_
    by_cases h : i = j
    · subst h
      simp [Array.getD_eq_getD_getElem?, show i < listed.size by omega]
    · simp [Array.getD_eq_getD_getElem?, Array.getElem?_setIfInBounds_ne (Ne.symm h), h]
  have hmem : j ∈ (List.range n).filter fun i => !listed.getD i false := by
    rw [List.mem_filter]
    exact ⟨List.mem_range.2 hj, by simpa [Lst] using hnl⟩
  rw [h1, List.length_erase_of_mem hmem]
  have : 0 < ((List.range n).filter fun i => !listed.getD i false).length := List.length_pos_of_mem hmem
  omega

theorem all_listed (T : Tr (P := P) O c ops ros F H V) {listed : Array Bool} (hs : listed.size = ops.size) (hr : Region.ready .any ops listed = []) : ∀ i, i < ops.size → Lst listed i := by
  intro i
  induction i using Nat.strongRecOn with
  | _ i ih =>
    intro hi
    refine Classical.byContradiction fun hn => ?_
    have ho : ops[i]? = some ops[i] := Array.getElem?_eq_getElem hi
    have : i ∈ Region.ready .any ops listed := (ready_iff hs).2 ⟨ops[i], ho, hn, fun e he hb => by
      have := edges_lt T.edges (j := i) (o := ops[i]) (by simp) he hb
      exact ih e.on (by omega) (by omega)⟩
    rw [hr] at this
    cases this

theorem explore (hP : PureS P O) (hR : RawS P O) (T : Tr (P := P) O c ops ros F H V) {Q : Exit → Act → World → Prop} {E0 : Env} {a0 : Act}
    (hQ : ∀ a' E', Ext E0 E' → SR E' → E'.h = H ros.length → FR E' (F ros.length) a'.tmps → a'.defers = a0.defers → Q .normal a' E'.w) :
    ∀ (fuel : Nat) (listed : Array Bool) (a : Act) (E : Env) (frS : Fr), Inv ops ros F H V c listed E frS → Ext E0 E → SR E → FR E frS a.tmps → a.defers = a0.defers → left ops.size listed ≤ fuel → wpAny P .any ops Q fuel listed a E.w := by
  intro fuel
  -- at the end
  have done : ∀ (listed : Array Bool) (a : Act) (E : Env) (frS : Fr), Inv ops ros F H V c listed E frS → Ext E0 E → SR E → FR E frS a.tmps → a.defers = a0.defers → (∀ i, i < ops.size → Lst listed i) → Q .normal a E.w := by
    intro listed a E frS I hx hS hf hd hall
    have hlen := T.len
    have hb := I.boxes ros.length (Nat.le_refl _) fun m rm hm _ => by
      have := (List.getElem?_eq_some_iff.1 hm).1
      exact ⟨fun _ => this, fun _ => hall m (by omega)⟩
    have hfm := I.fams ros.length (Nat.le_refl _) fun m rm hm _ => by
      have := (List.getElem?_eq_some_iff.1 hm).1
      exact ⟨fun _ => this, fun _ => hall m (by omega)⟩
    refine hQ a E hx hS (AH_eq hb hfm) ⟨?_, fun t => ?_⟩ hd
    · rw [T.flen _ (Nat.le_refl _), ← I.flen]; exact hf.len
    · have hv := hf.val t
      have : (F ros.length).getD t undefA = frS.getD t undefA := by
        by_cases hw : ∃ (m : Nat) (rm : RO), ros[m]? = some rm ∧ rm.dst = some t
        · obtain ⟨m, rm, hm, hdm⟩ := hw
          have hml := (List.getElem?_eq_some_iff.1 hm).1
          by_cases htl : t < (F 0).length
          · rw [T.written hm hdm htl _ (Nat.le_refl _) hml, I.wrote m t rm hm (hall m (by omega)) hdm htl]
          · rw [show (F ros.length).getD t undefA = undefA from by simp [List.getD, List.getElem?_eq_none (show (F ros.length).length ≤ t by rw [T.flen _ (Nat.le_refl _)]; omega)],
              show frS.getD t undefA = undefA from by simp [List.getD, List.getElem?_eq_none (show frS.length ≤ t by rw [I.flen]; omega)]]
        · have hw' : ∀ (i : Nat) (ro : RO), ros[i]? = some ro → ro.dst ≠ some t := fun i ro hi hd => hw ⟨i, ro, hi, hd⟩
          rw [I.kept t fun i ro hi _ => hw' i ro hi, T.ghost _ (Nat.le_refl _) fun i ro _ hi => hw' i ro hi]
      rw [this]; exact hv
  induction fuel with
  | zero =>
    intro listed a E frS I hx hS hf hd hl
    have hall : ∀ i, i < ops.size → Lst listed i := fun i hi => left_zero (by omega) hi
    refine ⟨?_, done listed a E frS I hx hS hf hd hall⟩
    apply List.eq_nil_iff_forall_not_mem.2
    intro j hj
    obtain ⟨o, ho, hn, _⟩ := (ready_iff I.size).1 hj
    exact hn (hall j (Array.getElem?_eq_some_iff.1 ho).1)
  | succ fuel ih =>
    intro listed a E frS I hx hS hf hd hl
    refine ⟨fun hr => done listed a E frS I hx hS hf hd (all_listed T I.size hr), fun j hj => ?_⟩
    obtain ⟨o, ho, hnl, hedges⟩ := (ready_iff I.size).1 hj
    have hjl := (Array.getElem?_eq_some_iff.1 ho).1
    obtain ⟨rj, hjr⟩ : ∃ rj, ros[j]? = some rj := ⟨_, List.getElem?_eq_getElem (show j < ros.length by rw [T.len]; exact hjl)⟩
    have hdeps : ∀ i, Dep ops.toList i j → Lst listed i := by
      intro i hi
      obtain ⟨o', e, ho', he, hb, h1⟩ := dep_edge hi
      have : o' = o := by rw [Array.getElem?_toList, ho] at ho'; simpa using ho'.symm
      subst this
      have hle := hedges e he hb
      rcases h1 with h1 | h1
      · rw [← h1]; exact hle
      · exact I.closed _ hle i h1
    obtain ⟨v1, v2, v3⟩ := I.view T hjr hnl hdeps
    obtain ⟨hst, hput⟩ := T.step j _ hjr
    obtain ⟨h1, e1, e2, e3, e4, e5⟩ := step_congr v1 v2 v3 hst
    have hrel := T.rel j o _ ho hjr
    have hw := step_wp (Q := Q) hP hR hS hf hrel e1 (K := wpAny P .any ops Q fuel (listed.setIfInBounds j true)) (fun u E' hx' hS' he hv => by
      refine ih _ _ E' (put frS rj.dst (V j)) (I.next T hjr hnl hdeps he e2 e3 e4 e5) (hx.trans hx') hS' ?_ ?_ ?_
      · rw [hrel.dst]; exact FR.put (FR.ext hx' hf) o.dst hv
      · rw [← hd]; cases o.dst <;> rfl
      · have := left_set hjl I.size hnl
        omega)
    unfold wpOp
    simp only [ho]
    split
    · rename_i h; rw [if_pos h] at hw; exact .inl hw
    · rename_i h; rw [if_neg h] at hw; exact hw

/-- A statement, of whichever kind. -/
theorem region_sound (hP : PureS P O) (hR : RawS P O) (hm : P.follows .mixedOrders = true) {id : Nat} {draw draw' : Bool} {ros : List RO} (hr : resCode P c (.region id ops draw) = some (.region draw' ros)) {Q : Exit → Act → World → Prop} {E : Env} {fr fr' : Fr} {a : Act} {h' : AH}
    (hS : SR E) (hf : FR E fr a.tmps) (hev : evalOps O c ros fr E.h = some (fr', h'))
    (hQ : ∀ a' E', Ext E E' → SR E' → E'.h = h' → FR E' fr' a'.tmps → a'.defers = a.defers → Q .normal a' E'.w) : (Code.region id ops draw).wp P Q a E.w := by
  simp only [resCode] at hr
  split at hr
  · rename_i ros0 h0
    obtain ⟨hl0, hg0⟩ := mapO_spec h0
    have rel0 : ∀ (i : Nat) (o : Oper) (ro : RO), ops.toList[i]? = some o → ros0[i]? = some ro → resRO P ops.toList o = some ro := by
      intro i o ro ho hro
      obtain ⟨y, hy, hy'⟩ := hg0 i o ho
      rw [hro] at hy'
      have : ro = y := by simpa using hy'
      subst this; exact hy
    have drawn : ∀ (ros : List RO), ros.length = ops.size → (∀ (i : Nat) (o : Oper) (ro : RO), ops[i]? = some o → ros[i]? = some ro → RORel P ops.toList o ro) → orderOk c ops.toList ros = true → evalOps O c ros fr E.h = some (fr', h') → (Code.region id ops true).wp P Q a E.w := by
      intro ros hl hrel hok hev
      unfold orderOk at hok
      simp only [Bool.and_eq_true] at hok
      obtain ⟨F, H, V, f0, f1, f2, f3, f4⟩ := trace_of hev
      have T : Tr (P := P) O c ops ros F H V := ⟨hl, hrel, hok.1, hok.2, f4⟩
      refine wp_region_any hm ?_
      have hb : Below E.w.heap.size E.w E.w.drew := drew_below _
      have hx := grow_ext hS hb
      refine explore hP hR T (Q := Q) (E0 := { E with w := E.w.drew }) (a0 := a) (fun a' E' h1 h2 h3 h4 h5 => ?_) ops.size (Array.replicate ops.size false) a { E with w := E.w.drew } fr ?_ (Ext.refl _) (grow_SR hS hb) (FR.ext hx hf) rfl ?_
      · exact hQ a' E' (hx.trans h1) h2 (by rw [h3, f3]) (by rw [← f2]; exact h4) h5
      · have hno : ∀ i, ¬ Lst (Array.replicate ops.size false) i := by
          intro i h
          unfold Lst at h
          rw [Array.getD_eq_getD_getElem?, Array.getElem?_replicate] at h
          split at h <;> simp at h
        refine ⟨by simp, fun j hj => absurd hj (hno j), by rw [f0], fun i t ro _ hl => absurd hl (hno i), fun t _ => by rw [f0], fun k hk hm => ?_, fun k hk hm => ?_⟩
        · have hb := T.boxes (i := 0) k hk (Nat.zero_le _) fun m rm _ h2 hmr => by
            cases hw : rm.op.writesB c with
            | false => rfl
            | true => exact absurd ((hm m rm hmr hw).2 h2) (hno m)
          rw [hb, f1]
        · have hb := T.fams (i := 0) k hk (Nat.zero_le _) fun m rm _ h2 hmr => by
            cases hw : rm.op.writesF c with
            | false => rfl
            | true => exact absurd ((hm m rm hmr hw).2 h2) (hno m)
          rw [hb, f1]
      · unfold left
        refine Nat.le_trans (List.length_filter_le _ _) ?_
        simp
    split at hr
    · rename_i hc
      simp only [Option.some.injEq, RCode.region.injEq] at hr
      obtain ⟨rfl, rfl⟩ := hr
      cases draw with
      | false =>
        refine wp_region_list ?_
        exact ops_text hP hR ops.toList ros0 hl0 (fun i o ro h1 h2 => resRO_rel (rel0 i o ro h1 h2)) E fr a fr' h' hS hf hev hQ
      | true =>
        exact drawn ros0 (by simpa using hl0) (fun i o ro h1 h2 => resRO_rel (rel0 i o ro (by simpa using h1) h2)) (by simpa using hc) hev
    · rename_i hc
      split at hr
      · rename_i hok
        simp only [Option.some.injEq, RCode.region.injEq] at hr
        obtain ⟨_, rfl⟩ := hr
        have hd : draw = true := by
          cases draw with
          | true => rfl
          | false => simp at hc
        subst hd
        refine drawn (ros0.map RO.lax) (by simpa using hl0) (fun i o ro h1 h2 => ?_) hok hev
        rw [List.getElem?_map] at h2
        cases hro : ros0[i]? with
        | none => rw [hro] at h2; cases h2
        | some ro0 =>
          rw [hro] at h2
          have : ro0.lax = ro := by simpa using h2
          subst this
          exact RORel.lax (rel0 i o ro0 (by simpa using h1) hro)
      · cases hr
  · cases hr

end
end Go.Abs

/- Code, loops, calls: the abstract interpreter is sound. -/
namespace Go.Abs
open Go.RowKit (Below)

def exOf : Ex → Exit
  | .normal => .normal
  | .exit id => .exit id
  | .ret => .ret

/-- A loop that ends has ended after some rounds. -/
def LoopS (O : Orc) : Prop := ∀ (step : St → Option (Ex × St)) (s : St) (x : Ex × St), O.loop step s = some x → ∃ n, iter step n s = some x

section
variable {P : Program} {O : Orc} {c : Ctx}

theorem code_sound (hP : PureS P O) (hR : RawS P O) (hL : LoopS O) (hm : P.follows .mixedOrders = true) :
    ∀ (code : Code) (rc : RCode), resCode P c code = some rc → ∀ (E : Env) (fr : Fr) (a : Act), SR E → FR E fr a.tmps → ∀ (ex : Ex) (fr' : Fr) (h' : AH), evalCode O c rc (fr, E.h) = some (ex, (fr', h')) →
      ∀ Q : Exit → Act → World → Prop, (∀ a' E', Ext E E' → SR E' → E'.h = h' → FR E' fr' a'.tmps → a'.defers = a.defers → Q (exOf ex) a' E'.w) → code.wp P Q a E.w := by
  intro code
  induction code with
  | skip =>
    intro rc hr E fr a hS hf ex fr' h' hev Q hQ
    simp only [resCode] at hr; cases hr
    simp only [evalCode] at hev; cases hev
    exact wp_skip (hQ a E (Ext.refl E) hS rfl hf rfl)
  | region id ops draw =>
    intro rc hr E fr a hS hf ex fr' h' hev Q hQ
    have hr' := hr
    simp only [resCode] at hr'
    obtain ⟨d, ros, rfl⟩ : ∃ d ros, rc = .region d ros := by
      split at hr'
      · split at hr'
        · cases hr'; exact ⟨_, _, rfl⟩
        · split at hr'
          · cases hr'; exact ⟨_, _, rfl⟩
          · cases hr'
      · cases hr'
    simp only [evalCode] at hev
    split at hev
    · rename_i s hs
      cases hev
      exact region_sound hP hR hm hr hS hf hs hQ
    · cases hev
  | seq x y ihx ihy =>
    intro rc hr E fr a hS hf ex fr' h' hev Q hQ
    simp only [resCode] at hr
    split at hr
    · rename_i x' y' hx hy
      cases hr
      simp only [evalCode] at hev
      refine wp_seq ?_
      split at hev
      · rename_i s hs
        obtain ⟨fr1, h1⟩ := s
        refine ihx x' hx E fr a hS hf .normal fr1 h1 hs _ fun a' E' k1 k2 k3 k4 k5 => ?_
        show y.wp P Q a' E'.w
        refine ihy y' hy E' fr1 a' k2 k4 ex fr' h' (by rw [k3]; exact hev) Q fun a'' E'' m1 m2 m3 m4 m5 => ?_
        exact hQ a'' E'' (k1.trans m1) m2 m3 m4 (m5.trans k5)
      · rename_i hne
        refine ihx x' hx E fr a hS hf ex fr' h' hev _ fun a' E' k1 k2 k3 k4 k5 => ?_
        have := hQ a' E' k1 k2 k3 k4 k5
        cases ex with
        | normal => exact absurd hev (hne _)
        | exit id => exact this
        | ret => exact this
    · cases hr
  | cond q x y ihx ihy =>
    intro rc hr E fr a hS hf ex fr' h' hev Q hQ
    simp only [resCode] at hr
    split at hr
    · rename_i q' x' y' hq hx hy
      cases hr
      simp only [evalCode] at hev
      have hv := opd_sound hf hq
      split at hev
      · rename_i hg
        rw [hg] at hv
        simp only [VR] at hv
        exact wp_cond_true hv (ihx x' hx E fr a hS hf ex fr' h' hev Q hQ)
      · rename_i hg
        rw [hg] at hv
        simp only [VR] at hv
        exact wp_cond_false hv (ihy y' hy E fr a hS hf ex fr' h' hev Q hQ)
      · cases hev
    · cases hr
  | block id x ih =>
    intro rc hr E fr a hS hf ex fr' h' hev Q hQ
    simp only [resCode, Option.map_eq_some_iff] at hr
    obtain ⟨x', hx, rfl⟩ := hr
    simp only [evalCode] at hev
    refine wp_block ?_
    split at hev
    · rename_i id' s hs
      obtain ⟨fr1, h1⟩ := s
      refine ih x' hx E fr a hS hf (.exit id') fr1 h1 hs _ fun a' E' k1 k2 k3 k4 k5 => ?_
      show if id' = id then Q .normal a' E'.w else Q (.exit id') a' E'.w
      split at hev
      · rename_i he
        cases hev
        rw [if_pos he]
        exact hQ a' E' k1 k2 k3 k4 k5
      · rename_i he
        cases hev
        rw [if_neg he]
        exact hQ a' E' k1 k2 k3 k4 k5
    · rename_i hne
      refine ih x' hx E fr a hS hf ex fr' h' hev _ fun a' E' k1 k2 k3 k4 k5 => ?_
      have := hQ a' E' k1 k2 k3 k4 k5
      cases ex with
      | normal => exact this
      | exit id' => exact absurd hev (hne _ _)
      | ret => exact this
  | loop x ih =>
    intro rc hr E fr a hS hf ex fr' h' hev Q hQ
    simp only [resCode, Option.map_eq_some_iff] at hr
    obtain ⟨x', hx, rfl⟩ := hr
    simp only [evalCode] at hev
    obtain ⟨n, hn⟩ := hL _ _ _ hev
    refine wp_loop_rounds n ?_
    clear hev
    induction n generalizing E fr a with
    | zero => simp only [iter] at hn; cases hn
    | succ n ihn =>
      simp only [iter] at hn
      rw [rounds_succ]
      split at hn
      · rename_i s hs
        obtain ⟨fr1, h1⟩ := s
        refine ih x' hx E fr a hS hf .normal fr1 h1 hs _ fun a' E' k1 k2 k3 k4 k5 => ?_
        show Code.rounds P x Q n a' E'.w
        exact ihn E' fr1 a' k2 k4 (fun a'' E'' m1 m2 m3 m4 m5 => hQ a'' E'' (k1.trans m1) m2 m3 m4 (m5.trans k5)) (by rw [k3]; exact hn)
      · rename_i hne
        refine ih x' hx E fr a hS hf ex fr' h' hn _ fun a' E' k1 k2 k3 k4 k5 => ?_
        have := hQ a' E' k1 k2 k3 k4 k5
        cases ex with
        | normal => exact absurd hn (hne _)
        | exit id => exact this
        | ret => exact this
  | exit id =>
    intro rc hr E fr a hS hf ex fr' h' hev Q hQ
    simp only [resCode] at hr; cases hr
    simp only [evalCode] at hev; cases hev
    exact wp_exit (hQ a E (Ext.refl E) hS rfl hf rfl)
  | ret =>
    intro rc hr E fr a hS hf ex fr' h' hev Q hQ
    simp only [resCode] at hr; cases hr
    simp only [evalCode] at hev; cases hev
    exact wp_ret (hQ a E (Ext.refl E) hS rfl hf rfl)
  | rangeFunc _ _ _ _ _ _ => intro rc hr; simp [resCode] at hr
  | scope _ _ => intro rc hr; simp [resCode] at hr
  | label _ => intro rc hr; simp [resCode] at hr
  | goto _ => intro rc hr; simp [resCode] at hr
  | refuse _ => intro rc hr; simp [resCode] at hr

theorem start_FR {E : Env} {args : List AV} {vs : Array Value} (hv : VRs E args vs.toList) (rf : RFunc) : FR E (startFr rf args) (vs ++ Array.replicate (rf.ntmps - vs.size) undef) := by
  obtain ⟨hl, hg⟩ := VRs_get hv
  have hl' : vs.size = args.length := by simpa using hl
  refine ⟨by simp [startFr, hl'], fun t => ?_⟩
  unfold startFr
  by_cases ht : t < args.length
  · obtain ⟨u, h1, h2⟩ := hg (List.getElem?_eq_getElem ht)
    have e1 : (args ++ List.replicate (rf.ntmps - args.length) undefA).getD t undefA = args[t] := by simp [List.getD, List.getElem?_append_left ht, ht]
    have e2 : (vs ++ Array.replicate (rf.ntmps - vs.size) undef).getD t undef = u := by
      rw [Array.getD_eq_getD_getElem?, Array.getElem?_append_left (by omega)]
      rw [Array.getElem?_toList] at h1
      rw [h1]; rfl
    rw [e1, e2]; exact h2
  · have e1 : (args ++ List.replicate (rf.ntmps - args.length) undefA).getD t undefA = undefA := by
      rw [List.getD, List.getElem?_append_right (by omega), List.getElem?_replicate]
      split <;> rfl
    have e2 : (vs ++ Array.replicate (rf.ntmps - vs.size) undef).getD t undef = undef := by
      rw [Array.getD_eq_getD_getElem?, Array.getElem?_append_right (by omega), Array.getElem?_replicate]
      split <;> rfl
    rw [e1, e2]; exact VR_undef E

theorem results_sound {E : Env} {fr : Fr} {tmps : Array Value} (hS : SR E) (hf : FR E fr tmps) (g : ResultVar → Sem Value) (g1 : ∀ t, g (.tmp t) = pure (tmps.getD t undef)) (g2 : ∀ a t, g (.cell a t) = (do loadVar t (← asAddr (tmps.getD a undef)))) : ∀ {rs : List ResultVar} {rrs : List RRes} {vs : List AV}, mapO (resRes P) rs = some rrs → resA fr E.h rrs = some vs →
    ∃ us : List Value, (rs.mapM g).run P E.w = .ok us E.w ∧ VRs E vs us
  | [], rrs, vs, hr, he => by
    simp [mapO] at hr; subst hr
    simp [resA] at he; subst he
    exact ⟨[], by simp, by simp [VRs]⟩
  | r :: rs, rrs, vs, hr, he => by
    simp only [mapO] at hr
    split at hr
    · rename_i rr rrs' h1 h2
      cases hr
      cases r with
      | tmp t =>
        simp only [resRes] at h1; cases h1
        simp only [resA, Option.map_eq_some_iff] at he
        obtain ⟨vs', hvs', rfl⟩ := he
        obtain ⟨us, u1, u2⟩ := results_sound hS hf g g1 g2 h2 hvs'
        refine ⟨tmps.getD t undef :: us, ?_, by simp only [VRs]; exact ⟨_, _, rfl, hf.val t, u2⟩⟩
        rw [List.mapM_cons, g1]
        simp only [Sem.run_bind, Sem.run_pure, Result.andThen_ok]
        rw [u1]
        simp
      | cell a t =>
        simp only [resRes] at h1
        split at h1
        · rename_i b n hb hn
          cases h1
          simp only [resA, Option.bind_eq_some_iff, Option.map_eq_some_iff] at he
          obtain ⟨v, hv, vs', hvs', rfl⟩ := he
          obtain ⟨us, u1, u2⟩ := results_sound hS hf g g1 g2 h2 hvs'
          obtain ⟨bl, of, cs, e1, e2, e3⟩ := loadA_cells hS (hf.val a) hv
          obtain ⟨u, h3, h4⟩ := run_load_cells (P := P) e2 e3 hb hn
          refine ⟨u :: us, ?_, by simp only [VRs]; exact ⟨_, _, rfl, h4, u2⟩⟩
          rw [List.mapM_cons, g2]
          have hadr : (asAddr (tmps.getD a undef)).run P E.w = .ok ⟨bl, of, none⟩ E.w := by rw [e1]; rfl
          simp only [Sem.run_bind, hadr, Sem.run_pure, Result.andThen_ok, h3]
          rw [u1]
          simp
        · cases h1
    · cases hr

theorem tupled_VR {E : Env} {vs : List AV} {us : List Value} (h : VRs E vs us) : VR E (tupled vs) (if h : us.toArray.size = 1 then us.toArray[0] else .tuple us.toArray) := by
  cases vs with
  | nil =>
    simp only [VRs] at h; subst h
    simp [tupled, VR, VRs]
  | cons v vs =>
    simp only [VRs] at h
    obtain ⟨u, us', rfl, h1, h2⟩ := h
    cases vs with
    | nil =>
      simp only [VRs] at h2; subst h2
      simpa [tupled] using h1
    | cons v' vs =>
      simp only [VRs] at h2
      obtain ⟨u', us'', rfl, h3, h4⟩ := h2
      simp only [tupled]
      rw [dif_neg (by simp)]
      simp only [VR]
      refine ⟨_, rfl, ?_⟩
      simp only [VRs]
      exact ⟨u, _, rfl, h1, u', us'', rfl, h3, h4⟩

end

/-- A function's text, resolved, and its settings, are this program's. -/
structure CfgS (P : Program) (C : Cfg) : Prop where
  code : ∀ f rf, C.code f = some rf → resFunc P C.ctx f = some rf
  spec : ∀ (f : FuncId) (s : List AV → Option AV), C.spec f = some s → ∀ (args : List AV) (r : AV), s args = some r → Program.enterable P f = true ∧
    ∀ (w : World) (ok0 : Nat → Nat → Prop) (vs : Array Value), (∀ b o, ok0 b o → b < w.heap.size) → PVs w ok0 args vs.toList →
      Calls P f vs w fun e w' => ∃ u, e = .returned u ∧ Below w.heap.size w w' ∧ PV w' (fun b o => ok0 b o ∨ (w.heap.size ≤ b ∧ b < w'.heap.size)) r u
  mixed : P.follows .mixedOrders = true

section
variable {P : Program} {C : Cfg} {O : Orc}

theorem rawA_sound (hC : CfgS P C) (hP : PureS P O) (hR : RawS P O) (hL : LoopS O) {f : FuncId} {args : List AV} {h h' : AH} {r : AV} (he : rawA C O f args h = some (r, h')) :
    Program.enterable P f = true ∧ ∀ (E : Env) (vs : Array Value), SR E → E.h = h → VRs E args vs.toList →
      Calls P f vs E.w fun e w' => ∃ u E', e = .returned u ∧ w' = E'.w ∧ Ext E E' ∧ SR E' ∧ E'.h = h' ∧ VR E' r u := by
  unfold rawA at he
  split at he
  · rename_i rf hrf
    have h1 := hC.code f rf hrf
    unfold resFunc at h1
    split at h1
    · rename_i hent
      refine ⟨hent, fun E vs hS hh hv => ?_⟩
      split at h1
      · rename_i fn hfn
        split at h1
        · rename_i b hb
          split at h1
          · rename_i rs rb hrs hrb
            cases h1
            refine calls_of_wp hfn hb ?_
            subst hh
            -- the end of the body, on either of its two ways
            have fin : ∀ (s : St) (a' : Act) (E' : Env), Ext E E' → SR E' → E'.h = s.2 → FR E' s.1 a'.tmps → a'.defers = [] → (resA s.1 s.2 rs).map (fun vs => (tupled vs, s.2)) = some (r, h') →
                a'.defers = [] ∧ ∃ v, (results fn a'.tmps).run P E'.w = .ok v E'.w ∧ ∃ u E'', Ending.returned v = .returned u ∧ E'.w = E''.w ∧ Ext E E'' ∧ SR E'' ∧ E''.h = h' ∧ VR E'' r u := by
              intro s a' E' k1 k2 k3 k4 k5 k6
              simp only [Option.map_eq_some_iff] at k6
              obtain ⟨avs, k7, k8⟩ := k6
              cases k8
              rw [← k3] at k7
              obtain ⟨us, u1, u2⟩ := results_sound (P := P) k2 k4 (fun | .tmp t => pure (a'.tmps.getD t undef) | .cell a t => do loadVar t (← asAddr (a'.tmps.getD a undef))) (fun _ => rfl) (fun _ _ => rfl) hrs k7
              refine ⟨k5, _, ?_, _, E', rfl, rfl, k1, k2, k3, tupled_VR u2⟩
              unfold results
              rw [Array.mapM_eq_mapM_toList]
              simp only [bind_map_left, Sem.run_bind]
              refine Eq.trans (congrArg (fun r => Result.andThen r _) u1) ?_
              rfl
            unfold evalBody at he
            split at he
            · rename_i s hs
              refine code_sound hP hR hL hC.mixed b rb hrb E _ _ hS (start_FR hv ⟨fn.ntmps, rs, rb⟩) .normal s.1 s.2 hs _ fun a' E' k1 k2 k3 k4 k5 => ?_
              exact fin s a' E' k1 k2 k3 k4 k5 he
            · rename_i s hs
              refine code_sound hP hR hL hC.mixed b rb hrb E _ _ hS (start_FR hv ⟨fn.ntmps, rs, rb⟩) .ret s.1 s.2 hs _ fun a' E' k1 k2 k3 k4 k5 => ?_
              exact fin s a' E' k1 k2 k3 k4 k5 he
            · cases he
          · cases h1
        · cases h1
      · cases h1
    · cases h1
  · cases he

theorem pureA_sound (hC : CfgS P C) (hP : PureS P O) (hR : RawS P O) (hL : LoopS O) {f : FuncId} {args : List AV} {r : AV} (he : pureA C O f args = some r) :
    Program.enterable P f = true ∧ ∀ (w : World) (ok0 : Nat → Nat → Prop) (vs : Array Value), (∀ b o, ok0 b o → b < w.heap.size) → PVs w ok0 args vs.toList →
      Calls P f vs w fun e w' => ∃ u, e = .returned u ∧ Below w.heap.size w w' ∧ PV w' (fun b o => ok0 b o ∨ (w.heap.size ≤ b ∧ b < w'.heap.size)) r u := by
  unfold pureA at he
  split at he
  · rename_i s hs
    exact hC.spec f s hs args r he
  · split at he
    · rename_i r0 h0 hr
      obtain ⟨h1, h2⟩ := rawA_sound hC hP hR hL hr
      refine ⟨h1, fun w ok0 vs hok hv => ?_⟩
      have hS : SR ⟨w, w.heap.size, ok0, fun _ => 0, fun _ => ⟨0, 0, 0, 0⟩, AH.empty⟩ :=
        ⟨Nat.le_refl _, fun i cs hi => by simp [AH.empty] at hi, fun k f hk => by simp [AH.empty] at hk, fun i j hi => by simp [AH.empty] at hi, fun i j hi => by simp [AH.empty] at hi, fun i j hi => by simp [AH.empty] at hi⟩
      have hv' : VRs ⟨w, w.heap.size, ok0, fun _ => 0, fun _ => ⟨0, 0, 0, 0⟩, AH.empty⟩ args vs.toList :=
        VRs_of_PVs _ _ (PVs_mono (fun b o ho => ⟨.inl ⟨hok b o ho, ho⟩, rfl⟩) _ _ hv)
      refine (h2 _ vs hS rfl hv').mono fun e w' ⟨u, E', k1, k2, k3, k4, k5, k6⟩ => ?_
      subst k2
      refine ⟨u, k1, k3.below, ?_⟩
      rw [← k5] at he
      have hbase : E'.base = w.heap.size := k3.base
      have hok0 : E'.ok0 = ok0 := k3.ok0
      refine frzRes_sound k4 ⟨fun b o ho => ?_, fun _ b o hb hlt => .inr ⟨by rw [← hbase]; exact hb, hlt⟩⟩ k6 he
      rcases ho with ⟨_, ho⟩ | ⟨ho1, ho2, _⟩
      · rw [hok0] at ho; exact .inl ho
      · rw [hbase] at ho1; exact .inr ⟨ho1, ho2⟩
    · cases he

theorem orc_sound (hC : CfgS P C) : ∀ n, PureS P (orc C n) ∧ RawS P (orc C n) ∧ LoopS (orc C n)
  | 0 => ⟨fun f args r h => (nomatch h), fun f args h r h' he => (nomatch he), fun step s x h => (nomatch h)⟩
  | n + 1 => by
    obtain ⟨h1, h2, h3⟩ := orc_sound hC n
    exact ⟨fun f args r he => pureA_sound hC h1 h2 h3 he, fun f args h r h' he => rawA_sound hC h1 h2 h3 he, fun step s x he => ⟨n + 1, he⟩⟩

end
end Go.Abs

/- The limit of the oracles: calls as partial functions, without fuel. -/
namespace Go.Abs
open Go.RowKit (Below)

/-- O' answers whatever O answers. -/
structure Le (O O' : Orc) : Prop where
  pure : ∀ f args r, O.pure f args = some r → O'.pure f args = some r
  raw : ∀ f args h r, O.raw f args h = some r → O'.raw f args h = some r
  loop : ∀ (step step' : St → Option (Ex × St)) (s : St) (x : Ex × St), (∀ s x, step s = some x → step' s = some x) → O.loop step s = some x → O'.loop step' s = some x

theorem Le.trans {A B C : Orc} (h : Le A B) (k : Le B C) : Le A C :=
  ⟨fun f a r e => k.pure f a r (h.pure f a r e), fun f a g r e => k.raw f a g r (h.raw f a g r e), fun s s' t x hs e => k.loop s' s' t x (fun _ _ h => h) (h.loop s s' t x hs e)⟩

section
variable {O O' : Orc} {c : Ctx}

theorem callA_mono (hO : Le O O') {f : FuncId} {args : List AV} {h : AH} {x : AV × AH} (he : callA O c f args h = some x) : callA O' c f args h = some x := by
  unfold callA at he ⊢
  split
  · rename_i hr; rw [if_pos hr] at he; exact hO.raw _ _ _ _ he
  · rename_i hr
    rw [if_neg hr] at he
    cases has : frzAll h true args with
    | none => rw [has] at he; cases he
    | some aas =>
      rw [has] at he
      dsimp only at he ⊢
      cases hp : O.pure f aas with
      | none => rw [hp] at he; cases he
      | some r =>
        rw [hp] at he
        rw [hO.pure _ _ _ hp]
        exact he

theorem evalOp_mono (hO : Le O O') {r : ROp} {fr : Fr} {h : AH} {x : AV × AH} (he : evalOp O c r fr h = some x) : evalOp O' c r fr h = some x := by
  cases r
  case call f aas => exact callA_mono hO he
  case callv y aas =>
    simp only [evalOp] at he ⊢
    split at he
    · exact callA_mono hO he
    · cases he
  case len b x => cases b <;> exact he
  all_goals exact he

theorem evalOps_mono (hO : Le O O') : ∀ {ros : List RO} {fr : Fr} {h : AH} {x : Fr × AH}, evalOps O c ros fr h = some x → evalOps O' c ros fr h = some x
  | [], _, _, _, he => he
  | o :: ros, fr, h, x, he => by
    simp only [evalOps] at he ⊢
    cases hw : wantedA fr o.guard with
    | none => rw [hw] at he; cases he
    | some b =>
      rw [hw] at he
      cases b with
      | false => exact evalOps_mono hO he
      | true =>
        dsimp only at he ⊢
        cases hop : evalOp O c o.op fr h with
        | none => rw [hop] at he; cases he
        | some y =>
          rw [hop] at he
          rw [evalOp_mono hO hop]
          exact evalOps_mono hO he

theorem evalCode_mono (hO : Le O O') : ∀ (rc : RCode) (s : St) (x : Ex × St), evalCode O c rc s = some x → evalCode O' c rc s = some x := by
  intro rc
  induction rc with
  | skip => exact fun s x he => he
  | region d ros =>
    intro s x he
    simp only [evalCode] at he ⊢
    cases hs : evalOps O c ros s.1 s.2 with
    | none => rw [hs] at he; cases he
    | some y => rw [hs] at he; rw [evalOps_mono hO hs]; exact he
  | seq a b iha ihb =>
    intro s x he
    simp only [evalCode] at he ⊢
    cases hs : evalCode O c a s with
    | none => rw [hs] at he; cases he
    | some y =>
      rw [hs] at he
      rw [iha s y hs]
      obtain ⟨e, s'⟩ := y
      cases e with
      | normal => exact ihb _ _ he
      | exit id => exact he
      | ret => exact he
  | cond q a b iha ihb =>
    intro s x he
    simp only [evalCode] at he ⊢
    split at he
    · exact iha _ _ he
    · exact ihb _ _ he
    · cases he
  | block id a ih =>
    intro s x he
    simp only [evalCode] at he ⊢
    cases hs : evalCode O c a s with
    | none => rw [hs] at he; cases he
    | some y => rw [hs] at he; rw [ih s y hs]; exact he
  | loop a ih => intro s x he; exact hO.loop _ _ _ _ ih he
  | exit id => exact fun s x he => he
  | ret => exact fun s x he => he

theorem rawA_mono {C : Cfg} (hO : Le O O') {f : FuncId} {args : List AV} {h : AH} {x : AV × AH} (he : rawA C O f args h = some x) : rawA C O' f args h = some x := by
  unfold rawA at he ⊢
  split at he
  · unfold evalBody at he ⊢
    rename_i rf _
    cases hs : evalCode O (C.ctx f) rf.body (startFr rf args, h) with
    | none => rw [hs] at he; cases he
    | some y => rw [hs] at he; rw [evalCode_mono hO _ _ _ hs]; exact he
  · cases he

theorem pureA_mono {C : Cfg} (hO : Le O O') {f : FuncId} {args : List AV} {x : AV} (he : pureA C O f args = some x) : pureA C O' f args = some x := by
  unfold pureA at he ⊢
  split at he
  · exact he
  · cases hs : rawA C O f args AH.empty with
    | none => rw [hs] at he; cases he
    | some y => rw [hs] at he; rw [rawA_mono hO hs]; exact he
end

theorem iter_mono {step step' : St → Option (Ex × St)} (hs : ∀ s x, step s = some x → step' s = some x) : ∀ {n m : Nat}, n ≤ m → ∀ {s : St} {x : Ex × St}, iter step n s = some x → iter step' m s = some x
  | 0, _, _, s, x, he => by simp [iter] at he
  | n + 1, 0, h, s, x, he => by omega
  | n + 1, m + 1, h, s, x, he => by
    simp only [iter] at he ⊢
    cases h1 : step s with
    | none => rw [h1] at he; cases he
    | some y =>
      rw [h1] at he
      rw [hs s y h1]
      obtain ⟨e, s'⟩ := y
      cases e with
      | normal => exact iter_mono hs (by omega) he
      | exit id => exact he
      | ret => exact he

variable (C : Cfg)

theorem orc_step : ∀ n, Le (orc C n) (orc C (n + 1))
  | 0 => ⟨fun f a r h => (nomatch h), fun f a g r h => (nomatch h), fun s s' t x _ h => (nomatch h)⟩
  | n + 1 => ⟨fun f a r h => pureA_mono (orc_step n) h, fun f a g r h => rawA_mono (orc_step n) h, fun s s' t x hs h => iter_mono hs (by omega) h⟩

theorem orc_le : ∀ {n m : Nat}, n ≤ m → Le (orc C n) (orc C m)
  | n, 0, h => by
    have : n = 0 := by omega
    subst this
    exact ⟨fun _ _ _ h => h, fun _ _ _ _ h => h, fun s s' t x _ h => (nomatch h)⟩
  | n, m + 1, h => by
    by_cases hn : n = m + 1
    · subst hn
      exact ⟨fun _ _ _ h => h, fun _ _ _ _ h => h, fun s s' t x hs h => iter_mono hs (Nat.le_refl _) h⟩
    · exact (orc_le (by omega)).trans (orc_step C m)

open Classical in
/-- A call of a pure function. -/
noncomputable def pc (f : FuncId) (args : List AV) : Option AV := if h : ∃ n r, (orc C n).pure f args = some r then some h.choose_spec.choose else none
open Classical in
/-- A call of a function that shares the heap. -/
noncomputable def rc (f : FuncId) (args : List AV) (h : AH) : Option (AV × AH) := if h : ∃ n r, (orc C n).raw f args h = some r then some h.choose_spec.choose else none
open Classical in
/-- A loop. -/
noncomputable def lp (step : St → Option (Ex × St)) (s : St) : Option (Ex × St) := if h : ∃ n x, iter step n s = some x then some h.choose_spec.choose else none

noncomputable def lim : Orc := ⟨pc C, rc C, lp⟩

theorem pc_orc {f : FuncId} {args : List AV} {r : AV} (h : pc C f args = some r) : ∃ n, (orc C n).pure f args = some r := by
  unfold pc at h
  split at h
  · rename_i hx
    cases h
    exact ⟨hx.choose, hx.choose_spec.choose_spec⟩
  · cases h

theorem orc_pc {n : Nat} {f : FuncId} {args : List AV} {r : AV} (h : (orc C n).pure f args = some r) : pc C f args = some r := by
  have hx : ∃ n r, (orc C n).pure f args = some r := ⟨n, r, h⟩
  unfold pc
  rw [dif_pos hx]
  have h1 := (orc_le C (Nat.le_max_left n hx.choose)).pure f args r h
  have h2 := (orc_le C (Nat.le_max_right n hx.choose)).pure f args _ hx.choose_spec.choose_spec
  rw [h1] at h2
  exact h2.symm

theorem rc_orc {f : FuncId} {args : List AV} {h : AH} {r : AV × AH} (he : rc C f args h = some r) : ∃ n, (orc C n).raw f args h = some r := by
  unfold rc at he
  split at he
  · rename_i hx
    cases he
    exact ⟨hx.choose, hx.choose_spec.choose_spec⟩
  · cases he

theorem orc_rc {n : Nat} {f : FuncId} {args : List AV} {h : AH} {r : AV × AH} (he : (orc C n).raw f args h = some r) : rc C f args h = some r := by
  have hx : ∃ n r, (orc C n).raw f args h = some r := ⟨n, r, he⟩
  unfold rc
  rw [dif_pos hx]
  have h1 := (orc_le C (Nat.le_max_left n hx.choose)).raw f args h r he
  have h2 := (orc_le C (Nat.le_max_right n hx.choose)).raw f args h _ hx.choose_spec.choose_spec
  rw [h1] at h2
  exact h2.symm

theorem lp_iter {step : St → Option (Ex × St)} {s : St} {x : Ex × St} (h : lp step s = some x) : ∃ n, iter step n s = some x := by
  unfold lp at h
  split at h
  · rename_i hx
    cases h
    exact ⟨hx.choose, hx.choose_spec.choose_spec⟩
  · cases h

theorem iter_lp {step : St → Option (Ex × St)} {n : Nat} {s : St} {x : Ex × St} (h : iter step n s = some x) : lp step s = some x := by
  have hx : ∃ n x, iter step n s = some x := ⟨n, x, h⟩
  unfold lp
  rw [dif_pos hx]
  have h1 := iter_mono (fun _ _ h => h) (Nat.le_max_left n hx.choose) h
  have h2 := iter_mono (fun _ _ h => h) (Nat.le_max_right n hx.choose) hx.choose_spec.choose_spec
  rw [h1] at h2
  exact h2.symm

/-- A loop goes one round, and then on. -/
theorem lp_go {step : St → Option (Ex × St)} {s s' : St} {x : Ex × St} (h : step s = some (.normal, s')) (k : lp step s' = some x) : lp step s = some x := by
  obtain ⟨n, hn⟩ := lp_iter k
  exact iter_lp (n := n + 1) (by simp only [iter, h]; exact hn)
theorem lp_exit {step : St → Option (Ex × St)} {s s' : St} {id : Nat} (h : step s = some (.exit id, s')) : lp step s = some (.exit id, s') := iter_lp (n := 1) (by simp only [iter, h])
theorem lp_ret {step : St → Option (Ex × St)} {s s' : St} (h : step s = some (.ret, s')) : lp step s = some (.ret, s') := iter_lp (n := 1) (by simp only [iter, h])

theorem evalOp_lim {c : Ctx} {r : ROp} {fr : Fr} {h : AH} {x : AV × AH} (he : evalOp (lim C) c r fr h = some x) : ∃ n, evalOp (orc C n) c r fr h = some x := by
  have hcall : ∀ f args, callA (lim C) c f args h = some x → ∃ n, callA (orc C n) c f args h = some x := by
    intro f args he
    unfold callA at he ⊢
    split at he
    · rename_i hr
      obtain ⟨n, hn⟩ := rc_orc C he
      exact ⟨n, by rw [if_pos hr]; exact hn⟩
    · rename_i hr
      cases has : frzAll h true args with
      | none => rw [has] at he; cases he
      | some aas =>
        rw [has] at he
        dsimp only at he ⊢
        cases hp : (lim C).pure f aas with
        | none => rw [hp] at he; cases he
        | some r =>
          rw [hp] at he
          obtain ⟨n, hn⟩ := pc_orc C hp
          exact ⟨n, by rw [if_neg hr, hn]; exact he⟩
  cases r
  case call f aas => exact hcall _ _ he
  case callv y aas =>
    simp only [evalOp] at he ⊢
    split at he
    · exact hcall _ _ he
    · cases he
  case len b x => cases b <;> exact ⟨0, he⟩
  all_goals exact ⟨0, he⟩

theorem evalOps_lim {c : Ctx} : ∀ {ros : List RO} {fr : Fr} {h : AH} {x : Fr × AH}, evalOps (lim C) c ros fr h = some x → ∃ n, evalOps (orc C n) c ros fr h = some x
  | [], _, _, _, he => ⟨0, he⟩
  | o :: ros, fr, h, x, he => by
    simp only [evalOps] at he ⊢
    cases hw : wantedA fr o.guard with
    | none => rw [hw] at he; cases he
    | some b =>
      rw [hw] at he
      cases b with
      | false => exact evalOps_lim he
      | true =>
        dsimp only at he ⊢
        cases hop : evalOp (lim C) c o.op fr h with
        | none => rw [hop] at he; cases he
        | some y =>
          rw [hop] at he
          obtain ⟨n, hn⟩ := evalOp_lim C hop
          obtain ⟨m, hm⟩ := evalOps_lim he
          refine ⟨max n m, ?_⟩
          rw [evalOp_mono (orc_le C (Nat.le_max_left n m)) hn]
          exact evalOps_mono (orc_le C (Nat.le_max_right n m)) hm

theorem evalCode_lim {c : Ctx} : ∀ (rcode : RCode) (s : St) (x : Ex × St), evalCode (lim C) c rcode s = some x → ∃ n, evalCode (orc C n) c rcode s = some x := by
  intro rcode
  induction rcode with
  | skip => exact fun s x he => ⟨0, he⟩
  | region d ros =>
    intro s x he
    simp only [evalCode] at he ⊢
    cases hs : evalOps (lim C) c ros s.1 s.2 with
    | none => rw [hs] at he; cases he
    | some y =>
      rw [hs] at he
      obtain ⟨n, hn⟩ := evalOps_lim C hs
      exact ⟨n, by rw [hn]; exact he⟩
  | seq a b iha ihb =>
    intro s x he
    simp only [evalCode] at he ⊢
    cases hs : evalCode (lim C) c a s with
    | none => rw [hs] at he; cases he
    | some y =>
      rw [hs] at he
      obtain ⟨n, hn⟩ := iha s y hs
      obtain ⟨e, s'⟩ := y
      cases e with
      | normal =>
        obtain ⟨m, hm⟩ := ihb _ _ he
        refine ⟨max n m, ?_⟩
        rw [evalCode_mono (orc_le C (Nat.le_max_left n m)) _ _ _ hn]
        exact evalCode_mono (orc_le C (Nat.le_max_right n m)) _ _ _ hm
      | exit id => exact ⟨n, by rw [hn]; exact he⟩
      | ret => exact ⟨n, by rw [hn]; exact he⟩
  | cond q a b iha ihb =>
    intro s x he
    simp only [evalCode] at he ⊢
    split at he
    · exact iha _ _ he
    · exact ihb _ _ he
    · cases he
  | block id a ih =>
    intro s x he
    simp only [evalCode] at he ⊢
    cases hs : evalCode (lim C) c a s with
    | none => rw [hs] at he; cases he
    | some y =>
      rw [hs] at he
      obtain ⟨n, hn⟩ := ih s y hs
      exact ⟨n, by rw [hn]; exact he⟩
  | loop a ih =>
    intro s x he
    simp only [evalCode] at he ⊢
    obtain ⟨m, hm⟩ := lp_iter he
    have key : ∃ n, iter (evalCode (orc C n) c a) m s = some x := by
      clear he
      induction m generalizing s with
      | zero => simp [iter] at hm
      | succ m ihm =>
        simp only [iter] at hm ⊢
        cases h1 : evalCode (lim C) c a s with
        | none => rw [h1] at hm; cases hm
        | some y =>
          rw [h1] at hm
          obtain ⟨n, hn⟩ := ih s y h1
          obtain ⟨e, s'⟩ := y
          cases e with
          | normal =>
            obtain ⟨k, hk⟩ := ihm s' hm
            refine ⟨max n k, ?_⟩
            rw [evalCode_mono (orc_le C (Nat.le_max_left n k)) _ _ _ hn]
            exact iter_mono (evalCode_mono (orc_le C (Nat.le_max_right n k)) a) (Nat.le_refl _) hk
          | exit id => exact ⟨n, by rw [hn]; exact hm⟩
          | ret => exact ⟨n, by rw [hn]; exact hm⟩
    obtain ⟨n, hn⟩ := key
    refine ⟨max n m + 1, ?_⟩
    show iter _ (max n m + 1) s = some x
    exact iter_mono (evalCode_mono (orc_le C (by omega)) a) (by omega) hn
  | exit id => exact fun s x he => ⟨0, he⟩
  | ret => exact fun s x he => ⟨0, he⟩

theorem rawA_lim {f : FuncId} {args : List AV} {h : AH} {x : AV × AH} (he : rawA C (lim C) f args h = some x) : ∃ n, rawA C (orc C n) f args h = some x := by
  unfold rawA at he ⊢
  split at he
  · unfold evalBody at he ⊢
    rename_i rf _
    cases hs : evalCode (lim C) (C.ctx f) rf.body (startFr rf args, h) with
    | none => rw [hs] at he; cases he
    | some y =>
      rw [hs] at he
      obtain ⟨n, hn⟩ := evalCode_lim C _ _ _ hs
      exact ⟨n, by rw [hn]; exact he⟩
  · cases he

/-- The contract of a function that shares the heap, from its body. -/
theorem rc_of {f : FuncId} {args : List AV} {h : AH} {x : AV × AH} (he : rawA C (lim C) f args h = some x) : rc C f args h = some x := by
  obtain ⟨n, hn⟩ := rawA_lim C he
  exact orc_rc C (n := n + 1) hn

/-- The contract of a pure function, from its body. -/
theorem pc_of {f : FuncId} {args : List AV} {x : AV} (he : pureA C (lim C) f args = some x) : pc C f args = some x := by
  unfold pureA at he
  split at he
  · rename_i s hs
    refine orc_pc C (n := 1) ?_
    show pureA C _ f args = some x
    unfold pureA; simp only [hs]; exact he
  · rename_i hs
    cases hr : rawA C (lim C) f args AH.empty with
    | none => rw [hr] at he; cases he
    | some y =>
      rw [hr] at he
      obtain ⟨n, hn⟩ := rawA_lim C hr
      refine orc_pc C (n := n + 1) ?_
      show pureA C _ f args = some x
      unfold pureA; simp only [hs, hn]; exact he

/-- What a contract says of the program. -/
theorem pc_sound {P : Program} {C : Cfg} (hC : CfgS P C) {f : FuncId} {args : List AV} {r : AV} (h : pc C f args = some r) (w : World) (ok0 : Nat → Nat → Prop) (vs : Array Value) (hok : ∀ b o, ok0 b o → b < w.heap.size) (hv : PVs w ok0 args vs.toList) :
    Calls P f vs w fun e w' => ∃ u, e = .returned u ∧ Below w.heap.size w w' ∧ PV w' (fun b o => ok0 b o ∨ (w.heap.size ≤ b ∧ b < w'.heap.size)) r u := by
  obtain ⟨n, hn⟩ := pc_orc C h
  exact ((orc_sound hC n).1 f args r hn).2 w ok0 vs hok hv

#print axioms pc_sound
end Go.Abs

/- Laws by which simp carries out resolved code on symbolic values. -/
namespace Go.Abs

def look (fr : Fr) (n : Nat) : AV := fr.getD n undefA

@[simp] theorem get_t (fr : Fr) (n : Nat) : get fr (.t n) = look fr n := _root_.id rfl
@[simp] theorem get_c (fr : Fr) (v : AV) : get fr (.c v) = v := _root_.id rfl
@[simp] theorem put_some (fr : Fr) (d : Nat) (v : AV) : put fr (some d) v = List.set fr d v := _root_.id rfl
@[simp] theorem put_none (fr : Fr) (v : AV) : put fr none v = fr := _root_.id rfl
theorem look_set_ne (fr : Fr) {i j : Nat} (v : AV) (h : i ≠ j) : look (List.set fr i v) j = look fr j := by
  simp [look, List.getD, List.getElem?_set_ne h]
theorem look_set_eq (fr : Fr) {i j : Nat} (v : AV) (e : i = j) (h : i < fr.length) : look (List.set fr i v) j = v := by
  subst e
  simp [look, List.getD, List.getElem?_set_self h]

/-- An operation's answer, and the operations that go on with it. -/
def nxt (r : Option (AV × AH)) (O : Orc) (c : Ctx) (d : Option Nat) (ros : List RO) (fr : Fr) : Option (Fr × AH) := match r with | some (v, h) => evalOps O c ros (put fr d v) h | none => none
@[congr] theorem nxt_congr {r r' : Option (AV × AH)} {O : Orc} {c : Ctx} {d : Option Nat} {ros : List RO} {fr : Fr} (h : r = r') : nxt r O c d ros fr = nxt r' O c d ros fr := by rw [h]
@[simp] theorem nxt_some (v : AV) (h : AH) (O : Orc) (c : Ctx) (d : Option Nat) (ros : List RO) (fr : Fr) : nxt (some (v, h)) O c d ros fr = evalOps O c ros (put fr d v) h := _root_.id rfl

/-- A guard. -/
def grd (b : AV) (w : Bool) (O : Orc) (c : Ctx) (d : Option Nat) (op : ROp) (ros : List RO) (fr : Fr) (h : AH) : Option (Fr × AH) :=
  match b with
  | .bool b => if b = w then nxt (evalOp O c op fr h) O c d ros fr else evalOps O c ros (put fr d undefA) h
  | .tup _ => evalOps O c ros (put fr d undefA) h
  | _ => none
@[congr] theorem grd_congr {b b' : AV} {w : Bool} {O : Orc} {c : Ctx} {d : Option Nat} {op : ROp} {ros : List RO} {fr : Fr} {h : AH} (e : b = b') : grd b w O c d op ros fr h = grd b' w O c d op ros fr h := by rw [e]
section
variable (O : Orc) (c : Ctx) (d : Option Nat) (op : ROp) (ros : List RO) (fr : Fr) (h : AH)
@[simp] theorem grd_tt : grd (.bool true) true O c d op ros fr h = nxt (evalOp O c op fr h) O c d ros fr := _root_.id rfl
@[simp] theorem grd_ff : grd (.bool false) false O c d op ros fr h = nxt (evalOp O c op fr h) O c d ros fr := _root_.id rfl
@[simp] theorem grd_tf : grd (.bool true) false O c d op ros fr h = evalOps O c ros (put fr d undefA) h := _root_.id rfl
@[simp] theorem grd_ft : grd (.bool false) true O c d op ros fr h = evalOps O c ros (put fr d undefA) h := _root_.id rfl
@[simp] theorem grd_un (l : List AV) (w : Bool) : grd (.tup l) w O c d op ros fr h = evalOps O c ros (put fr d undefA) h := _root_.id rfl
end
@[simp] theorem undef_tup : undefA = .tup [] := _root_.id rfl

/-- A branch. -/
def brn (b : AV) (O : Orc) (c : Ctx) (x y : RCode) (fr : Fr) (h : AH) : Option (Ex × St) := match b with | .bool true => evalCode O c x (fr, h) | .bool false => evalCode O c y (fr, h) | _ => none
@[congr] theorem brn_congr {b b' : AV} {O : Orc} {c : Ctx} {x y : RCode} {fr : Fr} {h : AH} (e : b = b') : brn b O c x y fr h = brn b' O c x y fr h := by rw [e]
@[simp] theorem brn_t (O : Orc) (c : Ctx) (x y : RCode) (fr : Fr) (h : AH) : brn (.bool true) O c x y fr h = evalCode O c x (fr, h) := _root_.id rfl
@[simp] theorem brn_f (O : Orc) (c : Ctx) (x y : RCode) (fr : Fr) (h : AH) : brn (.bool false) O c x y fr h = evalCode O c y (fr, h) := _root_.id rfl

/-- Code, and what goes on behind it. -/
def sqn (r : Option (Ex × St)) (O : Orc) (c : Ctx) (y : RCode) : Option (Ex × St) := match r with | some (.normal, fr, h) => evalCode O c y (fr, h) | r => r
@[congr] theorem sqn_congr {r r' : Option (Ex × St)} {O : Orc} {c : Ctx} {y : RCode} (h : r = r') : sqn r O c y = sqn r' O c y := by rw [h]
@[simp] theorem sqn_n (fr : Fr) (h : AH) (O : Orc) (c : Ctx) (y : RCode) : sqn (some (.normal, fr, h)) O c y = evalCode O c y (fr, h) := _root_.id rfl
@[simp] theorem sqn_r (s : St) (O : Orc) (c : Ctx) (y : RCode) : sqn (some (.ret, s)) O c y = some (.ret, s) := _root_.id rfl
@[simp] theorem sqn_e (i : Nat) (s : St) (O : Orc) (c : Ctx) (y : RCode) : sqn (some (.exit i, s)) O c y = some (.exit i, s) := _root_.id rfl

def kbl (id : Nat) (r : Option (Ex × St)) : Option (Ex × St) := match r with | some (.exit i, s) => if i = id then some (.normal, s) else some (.exit i, s) | r => r
@[simp] theorem kbl_n (id : Nat) (s : St) : kbl id (some (.normal, s)) = some (.normal, s) := _root_.id rfl
@[simp] theorem kbl_r (id : Nat) (s : St) : kbl id (some (.ret, s)) = some (.ret, s) := _root_.id rfl
@[simp] theorem kbl_e (id : Nat) (s : St) : kbl id (some (.exit id, s)) = some (.normal, s) := by simp [kbl]
theorem kbl_o {id i : Nat} (h : i ≠ id) (s : St) : kbl id (some (.exit i, s)) = some (.exit i, s) := by simp [kbl, h]

/-- A function's end. -/
def kend {β : Type} (r : Option (Ex × St)) (k : Fr → AH → Option β) : Option β := match r with | some (.normal, fr, h) => k fr h | some (.ret, fr, h) => k fr h | _ => none
@[congr] theorem kend_congr {β : Type} {r r' : Option (Ex × St)} {k : Fr → AH → Option β} (h : r = r') : kend r k = kend r' k := by rw [h]
@[simp] theorem kend_n {β : Type} (fr : Fr) (h : AH) (k : Fr → AH → Option β) : kend (some (.normal, fr, h)) k = k fr h := _root_.id rfl
@[simp] theorem kend_r {β : Type} (fr : Fr) (h : AH) (k : Fr → AH → Option β) : kend (some (.ret, fr, h)) k = k fr h := _root_.id rfl

section
variable {O : Orc} {c : Ctx}

@[simp] theorem ops_nil (fr : Fr) (h : AH) : evalOps O c [] fr h = some (fr, h) := _root_.id rfl
@[simp] theorem ops_cons (d : Option Nat) (op : ROp) (ros : List RO) (fr : Fr) (h : AH) : evalOps O c (⟨d, op, none⟩ :: ros) fr h = nxt (evalOp O c op fr h) O c d ros fr := by
  simp only [evalOps, wantedA, nxt]
  cases evalOp O c op fr h with
  | none => rfl
  | some x => rfl
@[simp] theorem ops_guard (d : Option Nat) (op : ROp) (s : Nat) (w : Bool) (ros : List RO) (fr : Fr) (h : AH) :
    evalOps O c (⟨d, op, some (s, w)⟩ :: ros) fr h = grd (look fr s) w O c d op ros fr h := by
  simp only [evalOps, wantedA, look, grd, nxt]
  cases fr.getD s undefA with
  | bool b =>
    dsimp only
    cases b <;> cases w <;> simp <;> cases evalOp O c op fr h <;> rfl
  | _ => rfl

def krg (r : Option (Fr × AH)) : Option (Ex × St) := match r with | some s => some (.normal, s) | none => none
@[simp] theorem krg_s (s : St) : krg (some s) = some (.normal, s) := _root_.id rfl
@[simp] theorem code_skip (s : St) : evalCode O c .skip s = some (.normal, s) := _root_.id rfl
@[simp] theorem code_region (d : Bool) (ops : List RO) (fr : Fr) (h : AH) : evalCode O c (.region d ops) (fr, h) = krg (evalOps O c ops fr h) := _root_.id rfl
@[simp] theorem code_seq (a b : RCode) (s : St) : evalCode O c (.seq a b) s = sqn (evalCode O c a s) O c b := by
  simp only [evalCode, sqn]
  split <;> simp_all
@[simp] theorem code_cond (q : Opd) (a b : RCode) (fr : Fr) (h : AH) : evalCode O c (.cond q a b) (fr, h) = brn (get fr q) O c a b fr h := by
  simp only [evalCode, brn]
  cases get fr q with
  | bool b => cases b <;> rfl
  | _ => rfl
@[simp] theorem code_block (id : Nat) (a : RCode) (s : St) : evalCode O c (.block id a) s = kbl id (evalCode O c a s) := by
  simp only [evalCode, kbl]
  split <;> simp_all
@[simp] theorem code_exit (id : Nat) (s : St) : evalCode O c (.exit id) s = some (.exit id, s) := _root_.id rfl
@[simp] theorem code_ret (s : St) : evalCode O c .ret s = some (.ret, s) := _root_.id rfl
theorem code_loop {C : Cfg} (a : RCode) (s : St) : evalCode (lim C) c (.loop a) s = lp (evalCode (lim C) c a) s := _root_.id rfl
end

/-- A call of a function that shares no heap. -/
def kcl (ys : Option (List AV)) (k : List AV → Option AV) (tm : Bool) (h : AH) : Option (AV × AH) :=
  match ys with | none => none | some ys => match k ys with | some r => if r.scalar || tm then some (r, h) else none | none => none

theorem op_call {C : Cfg} {c : Ctx} {f : FuncId} (hr : c.raw f = false) (xs : List Opd) (fr : Fr) (h : AH) :
    evalOp (lim C) c (.call f xs) fr h = kcl (frzAll h true (xs.map (get fr))) (fun ys => pc C f ys) ((xs.map (get fr)).all (tame h)) h := by
  simp only [evalOp, callA, hr, kcl]
  rw [if_neg (by simp)]
  cases frzAll h true (xs.map (get fr)) with
  | none => rfl
  | some ys =>
    show (match pc C f ys with | none => none | some r => _) = _
    cases hp : pc C f ys with
    | none => simp only [hp]
    | some r => simp only [hp]
theorem op_callr {C : Cfg} {c : Ctx} {f : FuncId} (hr : c.raw f = true) (xs : List Opd) (fr : Fr) (h : AH) :
    evalOp (lim C) c (.call f xs) fr h = rc C f (xs.map (get fr)) h := by
  simp only [evalOp, callA, hr]
  rfl

/-- A result laid to rest. -/
def fin (rs : List RRes) (fr : Fr) (h : AH) : Option AV := (resA fr h rs).bind fun vs => frzRes h (tupled vs)

theorem look_start {rf : RFunc} {args : List AV} (h : args.length ≤ rf.ntmps) : (startFr rf args).length = rf.ntmps ∧ ∀ i, look (startFr rf args) i = args.getD i undefA := by
  refine ⟨by simp [startFr]; omega, fun i => ?_⟩
  simp only [look, startFr, List.getD]
  by_cases hi : i < args.length
  · rw [List.getElem?_append_left hi]
  · rw [List.getElem?_append_right (by omega), List.getElem?_eq_none (l := args) (by omega), List.getElem?_replicate]
    split <;> rfl

/-- The contract of a pure function, from its body. -/
theorem pc_run {C : Cfg} {f : FuncId} {rf : RFunc} {args : List AV} {r : AV} (hs : C.spec f = none) (hc : C.code f = some rf) (hl : args.length ≤ rf.ntmps)
    (H : ∀ fr : Fr, fr.length = rf.ntmps → (∀ i, look fr i = args.getD i undefA) → kend (evalCode (lim C) (C.ctx f) rf.body (fr, ⟨[], []⟩)) (fin rf.results) = some r) : pc C f args = some r := by
  have := H (startFr rf args) (look_start hl).1 (look_start hl).2
  apply pc_of
  unfold pureA rawA
  simp only [hs, hc]
  unfold evalBody kend fin at *
  cases he : evalCode (lim C) (C.ctx f) rf.body (startFr rf args, AH.empty) with
  | none => rw [show (⟨[], []⟩ : AH) = AH.empty from rfl, he] at this; cases this
  | some x =>
    rw [show (⟨[], []⟩ : AH) = AH.empty from rfl, he] at this
    obtain ⟨e, fr, h⟩ := x
    cases e with
    | exit i => cases this
    | normal => cases hr : resA fr h rf.results with | none => simp [hr] at this | some vs => simpa [hr] using this
    | ret => cases hr : resA fr h rf.results with | none => simp [hr] at this | some vs => simpa [hr] using this

/-- The contract of a function that shares the heap, from its body. -/
theorem rc_run {C : Cfg} {f : FuncId} {rf : RFunc} {args : List AV} {h : AH} {r : AV × AH} (hc : C.code f = some rf) (hl : args.length ≤ rf.ntmps)
    (H : ∀ fr : Fr, fr.length = rf.ntmps → (∀ i, look fr i = args.getD i undefA) → kend (evalCode (lim C) (C.ctx f) rf.body (fr, h)) (fun fr h => (resA fr h rf.results).map fun vs => (tupled vs, h)) = some r) : rc C f args h = some r := by
  have := H (startFr rf args) (look_start hl).1 (look_start hl).2
  apply rc_of
  unfold rawA
  simp only [hc]
  unfold evalBody kend at *
  cases he : evalCode (lim C) (C.ctx f) rf.body (startFr rf args, h) with
  | none => rw [he] at this; cases this
  | some x =>
    rw [he] at this
    obtain ⟨e, fr, h⟩ := x
    cases e with
    | exit i => cases this
    | normal => exact this
    | ret => exact this

end Go.Abs

/- Laws by which simp carries out single operations; terms and lists as abstract values. -/
namespace Go.Abs

/-- A slice; m: has it no spare capacity? is it typed, though it be empty? -/
def sl (m : Bool × Bool) (sz : Nat) (xs : List AV) : AV := .vs m.1 (if xs.isEmpty && !m.2 then 0 else sz) xs

theorem sl_def (f : Bool) (sz : Nat) (xs : List AV) : .vs f sz xs = sl (f, true) sz xs := by simp [sl]
theorem sl_nil (sz : Nat) : .vs true 0 [] = sl (true, false) sz [] := by simp [sl]

@[simp] theorem sl_isTup (m : Bool × Bool) (sz : Nat) (xs : List AV) : (sl m sz xs).isTup = false := _root_.id rfl
@[simp] theorem sl_cells (m : Bool × Bool) (sz : Nat) (xs : List AV) : (sl m sz xs).cells = [sl m sz xs] := _root_.id rfl
@[simp] theorem sl_frz1 (h : AH) (am : Bool) (m : Bool × Bool) (sz : Nat) (xs : List AV) : frz1 h am (sl m sz xs) = some (sl m sz xs) := _root_.id rfl
@[simp] theorem sl_frz (h : AH) (am : Bool) (m : Bool × Bool) (sz : Nat) (xs : List AV) : frz h am (sl m sz xs) = some (sl m sz xs) := _root_.id rfl
@[simp] theorem sl_tame1 (h : AH) (m : Bool × Bool) (sz : Nat) (xs : List AV) : tame1 h (sl m sz xs) = true := _root_.id rfl
@[simp] theorem sl_tame (h : AH) (m : Bool × Bool) (sz : Nat) (xs : List AV) : tame h (sl m sz xs) = true := _root_.id rfl
@[simp] theorem sl_flat (m : Bool × Bool) (sz : Nat) (xs : List AV) : (sl m sz xs).flat = true := _root_.id rfl
@[simp] theorem sl_ofCells (m : Bool × Bool) (sz : Nat) (xs : List AV) (rest : List AV) : ofCells false 1 (sl m sz xs :: rest) = some (sl m sz xs) := _root_.id rfl
@[simp] theorem sl_elems (h : AH) (m : Bool × Bool) (sz : Nat) (xs : List AV) : elems h sz (sl m sz xs) = some xs := by
  cases xs with
  | nil => simp [elems, sl]
  | cons x xs => simp [elems, sl]
@[simp] theorem sl_scalar (m : Bool × Bool) (sz : Nat) (xs : List AV) : (sl m sz xs).scalar = false := _root_.id rfl

/-- A cell that stays what it is when it is laid to rest. -/
@[simp] theorem frz_int (h : AH) (am : Bool) (k : IntKind) (n : Int) : frz h am (.int k n) = some (.int k n) := _root_.id rfl
@[simp] theorem frz_bool (h : AH) (am : Bool) (b : Bool) : frz h am (.bool b) = some (.bool b) := _root_.id rfl
@[simp] theorem frz_str (h : AH) (am : Bool) (s : ByteArray) : frz h am (.str s) = some (.str s) := _root_.id rfl
@[simp] theorem frz_fn (h : AH) (am : Bool) (f : FuncId) : frz h am (.fn f []) = some (.fn f []) := _root_.id rfl
@[simp] theorem frz_nilp (h : AH) (am : Bool) : frz h am .nilp = some .nilp := _root_.id rfl
@[simp] theorem frzL_nil (h : AH) (am : Bool) : frzL h am [] = some [] := _root_.id rfl
@[simp] theorem frzL_cons (h : AH) (am : Bool) (x : AV) (xs : List AV) : frzL h am (x :: xs) = (frz1 h am x).bind fun y => (frzL h am xs).map (y :: ·) := _root_.id rfl
@[simp] theorem frz1_int (h : AH) (am : Bool) (k : IntKind) (n : Int) : frz1 h am (.int k n) = some (.int k n) := _root_.id rfl
@[simp] theorem frz1_bool (h : AH) (am : Bool) (b : Bool) : frz1 h am (.bool b) = some (.bool b) := _root_.id rfl
@[simp] theorem frz1_str (h : AH) (am : Bool) (s : ByteArray) : frz1 h am (.str s) = some (.str s) := _root_.id rfl
@[simp] theorem frz_agg (h : AH) (am : Bool) (cs : List AV) : frz h am (.agg cs) = (frzL h am cs).map .agg := _root_.id rfl
@[simp] theorem frzAll_nil (h : AH) (am : Bool) : frzAll h am [] = some [] := _root_.id rfl
@[simp] theorem frzAll_cons (h : AH) (am : Bool) (x : AV) (xs : List AV) : frzAll h am (x :: xs) = (frz h am x).bind fun y => (frzAll h am xs).map (y :: ·) := _root_.id rfl
@[simp] theorem frzRes_int (h : AH) (k : IntKind) (n : Int) : frzRes h (.int k n) = some (.int k n) := _root_.id rfl
@[simp] theorem frzRes_bool (h : AH) (b : Bool) : frzRes h (.bool b) = some (.bool b) := _root_.id rfl
@[simp] theorem frzRes_str (h : AH) (s : ByteArray) : frzRes h (.str s) = some (.str s) := _root_.id rfl
@[simp] theorem frzRes_sl (h : AH) (m : Bool × Bool) (sz : Nat) (xs : List AV) : frzRes h (sl m sz xs) = some (sl m sz xs) := _root_.id rfl
@[simp] theorem frzRes_agg (h : AH) (cs : List AV) : frzRes h (.agg cs) = (frzL h true cs).map .agg := _root_.id rfl
@[simp] theorem frzRes_tup (h : AH) (cs : List AV) : frzRes h (.tup cs) = (frzAll h true cs).map .tup := _root_.id rfl

@[simp] theorem kcl_some (ys : List AV) (k : List AV → Option AV) (tm : Bool) (h : AH) : kcl (some ys) k tm h = (match k ys with | some r => if r.scalar || tm then some (r, h) else none | none => none) := _root_.id rfl
@[simp] theorem scalar_int (k : IntKind) (n : Int) : (AV.int k n).scalar = true := _root_.id rfl
@[simp] theorem scalar_bool (b : Bool) : (AV.bool b).scalar = true := _root_.id rfl
@[simp] theorem scalar_str (s : ByteArray) : (AV.str s).scalar = true := _root_.id rfl
@[simp] theorem isTup_int (k : IntKind) (n : Int) : (AV.int k n).isTup = false := _root_.id rfl
@[simp] theorem isTup_bool (b : Bool) : (AV.bool b).isTup = false := _root_.id rfl
@[simp] theorem isTup_str (b : ByteArray) : (AV.str b).isTup = false := _root_.id rfl
@[simp] theorem isTup_agg (cs : List AV) : (AV.agg cs).isTup = false := _root_.id rfl
@[simp] theorem cells_agg (cs : List AV) : (AV.agg cs).cells = cs := _root_.id rfl
@[simp] theorem cells_int (k : IntKind) (n : Int) : (AV.int k n).cells = [.int k n] := _root_.id rfl
@[simp] theorem cells_bool (b : Bool) : (AV.bool b).cells = [.bool b] := _root_.id rfl
@[simp] theorem cells_str (b : ByteArray) : (AV.str b).cells = [.str b] := _root_.id rfl
@[simp] theorem ofCells_true (n : Nat) (cs : List AV) : ofCells true n cs = if n ≤ cs.length then some (.agg (cs.take n)) else none := _root_.id rfl
@[simp] theorem ofCells_false (n : Nat) (cs : List AV) : ofCells false n cs = cs.head? := _root_.id rfl

/-! ### Operations on slices -/
def iaA (h : AH) (sz : Nat) (x i : AV) : Option (AV × AH) :=
  match x, i with
  | .vs _ z xs, .int _ j => if 0 ≤ j ∧ z = sz then (match xs[j.toNat]? with | some e => some (.pv e.cells, h) | none => none) else none
  | .sl k n off len, .int _ j =>
    match h.fams[k]? with
    | some f => if 0 ≤ j ∧ j < len ∧ f.sz = sz ∧ f.xs.length = n then some (.ep k n (off + j.toNat) 0, h) else none
    | none => none
  | _, _ => none
def lenA (h : AH) (x : AV) : Option (AV × AH) :=
  match x with
  | .vs _ _ xs => some (.int .i64 xs.length, h)
  | .sl _ _ _ len => some (.int .i64 len, h)
  | _ => none
def slcA (h : AH) (sz : Nat) (x : AV) (l u m : Option (Option Int)) : Option (AV × AH) :=
  match l, u, m with
  | some l, some u, some m => match sliceA h sz x l u m with | some v => some (v, h) | none => none
  | _, _, _ => none
/-- Is a slice nil? -/
def nqA (neg : Bool) (h : AH) (x : AV) : Option (AV × AH) := match x with | .vs _ z _ => some (.bool (if neg then !(z == 0) else z == 0), h) | _ => none
theorem nqA_sl (neg : Bool) (h : AH) (m : Bool × Bool) (sz : Nat) (hsz : 0 < sz) (xs : List AV) : nqA neg h (sl m sz xs) = some (.bool (if neg then !(xs.isEmpty && !m.2) else (xs.isEmpty && !m.2)), h) := by
  unfold nqA sl
  by_cases hx : (xs.isEmpty && !m.2) = true
  · simp [hx]
  · have : (sz == 0) = false := by simp; omega
    simp [hx, this]

section
variable {O : Orc} {c : Ctx} (fr : Fr) (h : AH)
@[simp] theorem op_mov (x : Opd) : evalOp O c (.mov x) fr h = some (get fr x, h) := _root_.id rfl
@[simp] theorem op_pick (q a b : Opd) : evalOp O c (.pick q a b) fr h = (match get fr q with | .bool t => some (if t then get fr a else get fr b, h) | _ => none) := _root_.id rfl
@[simp] theorem op_box (x : Opd) : evalOp O c (.box x) fr h = if (get fr x).isTup then none else some (.ptr h.boxes.length 0, { h with boxes := h.boxes ++ [(get fr x).cells] }) := _root_.id rfl
@[simp] theorem op_alloc (z : AV) : evalOp O c (.alloc z) fr h = some (.ptr h.boxes.length 0, { h with boxes := h.boxes ++ [z.cells] }) := _root_.id rfl
@[simp] theorem op_build (z : AV) (parts : List (Nat × Nat × Opd)) : evalOp O c (.build z parts) fr h = (buildParts fr z.cells.length parts).map fun ps => (.agg (fillParts z.cells ps), h) := by
  simp only [evalOp]
  cases buildParts fr z.cells.length parts <;> rfl
@[simp] theorem op_bslice (n : Nat) (z : AV) (parts : List (Nat × Opd)) : evalOp O c (.bslice n z parts) fr h = (sliceParts fr h (List.replicate n z) parts).map fun xs => (sl (true, true) z.cells.length xs, h) := by
  simp only [evalOp, sl_def]
  cases sliceParts fr h (List.replicate n z) parts <;> rfl
@[simp] theorem op_ldb (agg : Bool) (n : Nat) (x : Opd) : evalOp O c (.ldb agg n x) fr h = (match get fr x with | .ep .. => none | p => (match loadA h agg n p with | some v => some (v, h) | none => none)) := _root_.id rfl
@[simp] theorem op_nilck (x : Opd) : evalOp O c (.nilck x) fr h = (match get fr x with | .pv cs => some (.pv cs, h) | .ptr b o => some (.ptr b o, h) | .ep k n i q => some (.ep k n i q, h) | .fn f cs => some (.fn f cs, h) | _ => none) := _root_.id rfl
@[simp] theorem op_bin (op : BinOp) (x y : Opd) : evalOp O c (.bin op x y) fr h = (evalBin op (get fr x) (get fr y)).map fun v => (v, h) := by
  simp only [evalOp]
  cases evalBin op (get fr x) (get fr y) <;> rfl
@[simp] theorem op_beq (neg : Bool) (x y : Opd) : evalOp O c (.beq neg x y) fr h = (match get fr x, get fr y with | .bool a, .bool b => some (.bool (if neg then !(a == b) else a == b), h) | _, _ => none) := _root_.id rfl
@[simp] theorem op_nileq (neg : Bool) (x : Opd) : evalOp O c (.nileq neg x) fr h = nqA neg h (get fr x) := by
  simp only [evalOp, nqA]
  rfl
@[simp] theorem op_un (op : UnOp) (x : Opd) : evalOp O c (.un op x) fr h = (evalUn op (get fr x)).map fun v => (v, h) := by
  simp only [evalOp]
  cases evalUn op (get fr x) <;> rfl
@[simp] theorem op_conv (k : IntKind) (x : Opd) : evalOp O c (.conv k x) fr h = (match get fr x with | .int _ n => some (.int k (k.wrap n), h) | _ => none) := _root_.id rfl
@[simp] theorem op_cstr (x : Opd) : evalOp O c (.cstr x) fr h = (match get fr x with | .str s => some (.str s, h) | _ => none) := _root_.id rfl
@[simp] theorem op_clos (f : FuncId) (caps : List Opd) : evalOp O c (.clos f caps) fr h = some (.fn f (caps.map (get fr)), h) := _root_.id rfl
@[simp] theorem op_mkslice (z : AV) (bytes : Nat) (l q : Opd) : evalOp O c (.mkslice z bytes l q) fr h = (match get fr l, get fr q with
    | .int _ a, .int _ b =>
      if 0 ≤ a ∧ a ≤ b ∧ b * bytes ≤ roomA ∧ b ≤ maxLen then
        some (.sl h.fams.length a.toNat 0 a.toNat, { h with fams := h.fams ++ [⟨List.replicate a.toNat z, z.cells.length, true⟩] })
      else none
    | _, _ => none) := _root_.id rfl
@[simp] theorem op_faddr (off : Nat) (x : Opd) : evalOp O c (.faddr off x) fr h = (match get fr x with | .pv cs => some (.pv (cs.drop off), h) | .ptr b o => some (.ptr b (o + off), h) | .ep k n i q => some (.ep k n i (q + off), h) | _ => none) := _root_.id rfl
@[simp] theorem op_fld (agg : Bool) (off n : Nat) (x : Opd) : evalOp O c (.fld agg off n x) fr h = (match get fr x with | .agg cs => (match ofCells agg n (cs.drop off) with | some v => some (v, h) | none => none) | _ => none) := _root_.id rfl
@[simp] theorem op_idx (x i : Opd) : evalOp O c (.idx x i) fr h = (match get fr x, get fr i with
    | .str s, .int _ j => if 0 ≤ j then (match s[j.toNat]? with | some b => some (.int .u8 b.toNat, h) | none => none) else none
    | _, _ => none) := _root_.id rfl
@[simp] theorem op_ext (x : Opd) (i : Nat) : evalOp O c (.ext x i) fr h = (match get fr x with | .tup vs => (match vs[i]? with | some v => some (v, h) | none => none) | _ => none) := _root_.id rfl
@[simp] theorem op_slen (x : Opd) : evalOp O c (.len true x) fr h = (match get fr x with | .str s => some (.int .i64 s.size, h) | _ => none) := _root_.id rfl
@[simp] theorem op_max (x y : Opd) : evalOp O c (.max x y) fr h = (match get fr x, get fr y with | .int k a, .int k' b => if k = k' then some (.int k (if b > a then b else a), h) else none | _, _ => none) := _root_.id rfl
@[simp] theorem op_iaddr (sz : Nat) (x i : Opd) : evalOp O c (.iaddr sz x i) fr h = iaA h sz (get fr x) (get fr i) := _root_.id rfl
@[simp] theorem op_len (x : Opd) : evalOp O c (.len false x) fr h = lenA h (get fr x) := _root_.id rfl
def kraw (b : Bool) (x y : Unit → Option (AV × AH)) : Option (AV × AH) := if b then x () else y ()
@[simp] theorem kraw_t (x y : Unit → Option (AV × AH)) : kraw true x y = x () := _root_.id rfl
@[simp] theorem kraw_f (x y : Unit → Option (AV × AH)) : kraw false x y = y () := _root_.id rfl
@[congr] theorem kraw_congr {b b' : Bool} {x y : Unit → Option (AV × AH)} (h : b = b') : kraw b x y = kraw b' x y := by rw [h]
@[simp] theorem op_calls {C : Cfg} (f : FuncId) (xs : List Opd) : evalOp (lim C) c (.call f xs) fr h = kraw (c.raw f) (fun _ => rc C f (xs.map (get fr)) h) (fun _ => kcl (frzAll h true (xs.map (get fr))) (fun ys => pc C f ys) ((xs.map (get fr)).all (tame h)) h) := by
  cases hr : c.raw f with
  | false => exact op_call hr xs fr h
  | true => exact op_callr hr xs fr h
@[simp] theorem op_callv {C : Cfg} (x : Opd) (xs : List Opd) : evalOp (lim C) c (.callv x xs) fr h = (match get fr x with
    | .fn f caps => kraw (c.raw f) (fun _ => rc C f (xs.map (get fr) ++ caps) h) (fun _ => kcl (frzAll h true (xs.map (get fr) ++ caps)) (fun ys => pc C f ys) ((xs.map (get fr) ++ caps).all (tame h)) h)
    | _ => none) := by
  simp only [evalOp]
  cases get fr x with
  | fn f caps =>
    simp only
    cases hr : c.raw f with
    | false =>
      have := op_call (C := C) hr ((xs.map (get fr) ++ caps).map Opd.c) fr h
      simp only [evalOp, List.map_map] at this
      rw [show (get fr ∘ Opd.c) = id from rfl, List.map_id] at this
      exact this
    | true =>
      have := op_callr (C := C) hr ((xs.map (get fr) ++ caps).map Opd.c) fr h
      simp only [evalOp, List.map_map] at this
      rw [show (get fr ∘ Opd.c) = id from rfl, List.map_id] at this
      exact this
  | _ => rfl
@[simp] theorem op_slc (sz : Nat) (x : Opd) (lo hi mx : Option Opd) : evalOp O c (.slc sz x lo hi mx) fr h = slcA h sz (get fr x) (boundA fr lo) (boundA fr hi) (boundA fr mx) := _root_.id rfl
@[simp] theorem op_app (sz bytes : Nat) (s x : Opd) : evalOp O c (.app sz bytes s x) fr h = appendA c h sz bytes (get fr s) (get fr x) := _root_.id rfl
@[simp] theorem op_ld (agg : Bool) (n : Nat) (x : Opd) : evalOp O c (.ld agg n x) fr h = (loadA h agg n (get fr x)).map fun v => (v, h) := by
  simp only [evalOp]
  cases loadA h agg n (get fr x) <;> rfl
@[simp] theorem op_st (n : Nat) (a x : Opd) : evalOp O c (.st n a x) fr h = (storeA h n (get fr x) (get fr a)).map fun h' => (undefA, h') := by
  simp only [evalOp]
  cases storeA h n (get fr x) (get fr a) <;> rfl
end

/-- An element, where there is one. -/
def nth (xs : List AV) (i : Nat) : Option AV := xs[i]?
@[simp] theorem nth_zero (x : AV) (xs : List AV) : nth (x :: xs) 0 = some x := _root_.id rfl
@[simp] theorem nth_succ (x : AV) (xs : List AV) (i : Nat) : nth (x :: xs) (i + 1) = nth xs i := _root_.id rfl
theorem nth_map {α : Type} {f : α → AV} {l : List α} {i : Nat} {x : α} (h : l[i]? = some x) : nth (l.map f) i = some (f x) := by simp [nth, h]

@[simp] theorem iaA_sl (h : AH) (m : Bool × Bool) (sz : Nat) (xs : List AV) (k : IntKind) (j : Int) : iaA h sz (sl m sz xs) (.int k j) = if 0 ≤ j then (nth xs j.toNat).map (fun e => (.pv e.cells, h)) else none := by
  unfold iaA sl nth
  simp only
  by_cases hj : 0 ≤ j
  · rw [if_pos hj]
    cases hx : xs[j.toNat]? with
    | none => simp
    | some e =>
      cases xs with
      | nil => simp at hx
      | cons y ys => simp [hj]
  · rw [if_neg hj, if_neg (by omega)]
@[simp] theorem lenA_sl (h : AH) (m : Bool × Bool) (sz : Nat) (xs : List AV) : lenA h (sl m sz xs) = some (.int .i64 xs.length, h) := _root_.id rfl
@[simp] theorem lenA_view (h : AH) (k n off len : Nat) : lenA h (.sl k n off len) = some (.int .i64 len, h) := _root_.id rfl
@[simp] theorem frz_view (h : AH) (am : Bool) (k n off len : Nat) : frz h am (.sl k n off len) = frz1 h am (.sl k n off len) := _root_.id rfl
@[simp] theorem loadA_pv (h : AH) (agg : Bool) (n : Nat) (cs : List AV) : loadA h agg n (.pv cs) = ofCells agg n cs := _root_.id rfl
@[simp] theorem loadA_ptr (h : AH) (agg : Bool) (n b off : Nat) : loadA h agg n (.ptr b off) = (h.boxes[b]?).bind fun cs => ofCells agg n (cs.drop off) := by
  simp only [loadA]
  cases h.boxes[b]? <;> rfl

@[simp] theorem storeA_ptr (h : AH) (n : Nat) (v : AV) (b off : Nat) : storeA h n v (.ptr b off) = (h.boxes[b]?).bind fun cs => if v.isTup = false ∧ v.cells.length = n ∧ off + n ≤ cs.length then some { h with boxes := h.boxes.set b (splice cs off v.cells) } else none := by
  simp only [storeA]
  cases h.boxes[b]? <;> rfl
@[simp] theorem storeA_ep (h : AH) (n : Nat) (v : AV) (k m i q : Nat) : storeA h n v (.ep k m i q) = (h.fams[k]?).bind fun f =>
    if f.xs.length = m ∧ f.wr = true then
      (f.xs[i]?).bind fun x => (frz h false v).bind fun u => if u.cells.length = n ∧ q + n ≤ x.cells.length then
        (x.reform (splice x.cells q u.cells)).map fun y => { h with fams := h.fams.set k { f with xs := f.xs.set i y } } else none
    else none := by
  simp only [storeA]
  cases h.fams[k]? with
  | none => rfl
  | some f =>
    simp only [Option.bind_some]
    split
    · cases f.xs[i]? with
      | none => rfl
      | some x => cases frz h false v <;> rfl
    · rfl
@[simp] theorem loadA_ep (h : AH) (agg : Bool) (n k m i q : Nat) : loadA h agg n (.ep k m i q) = (h.fams[k]?).bind fun f => if f.xs.length = m then (f.xs[i]?).bind fun x => ofCells agg n (x.cells.drop q) else none := by
  simp only [loadA]
  cases h.fams[k]? with
  | none => rfl
  | some f =>
    simp only [Option.bind_some]
    split
    · cases f.xs[i]? <;> rfl
    · rfl
@[simp] theorem iaA_view (h : AH) (sz k n off len : Nat) (kd : IntKind) (j : Int) : iaA h sz (.sl k n off len) (.int kd j) = (h.fams[k]?).bind fun f => if 0 ≤ j ∧ j < len ∧ f.sz = sz ∧ f.xs.length = n then some (.ep k n (off + j.toNat) 0, h) else none := by
  simp only [iaA]
  cases h.fams[k]? <;> rfl
@[simp] theorem splice_def (cs : List AV) (off : Nat) (new : List AV) : splice cs off new = cs.take off ++ new ++ cs.drop (off + new.length) := _root_.id rfl
@[simp] theorem set_last {α : Type} (l : List α) (x y : α) : (l ++ [x]).set l.length y = l ++ [y] := by
  rw [List.set_append_right _ _ (Nat.le_refl _)]
  simp
@[simp] theorem bin_lss (k : IntKind) (a b : Int) : evalBin .lss (.int k a) (.int k b) = some (.bool (decide (a < b))) := by simp [evalBin]
@[simp] theorem bin_leq (k : IntKind) (a b : Int) : evalBin .leq (.int k a) (.int k b) = some (.bool (decide (a ≤ b))) := by simp [evalBin]
@[simp] theorem bin_gtr (k : IntKind) (a b : Int) : evalBin .gtr (.int k a) (.int k b) = some (.bool (decide (b < a))) := by simp [evalBin]
@[simp] theorem bin_geq (k : IntKind) (a b : Int) : evalBin .geq (.int k a) (.int k b) = some (.bool (decide (b ≤ a))) := by simp [evalBin]
@[simp] theorem bin_eql (k : IntKind) (a b : Int) : evalBin .eql (.int k a) (.int k b) = some (.bool (decide (a = b))) := by simp only [evalBin, if_true]; rfl
@[simp] theorem bin_neq (k : IntKind) (a b : Int) : evalBin .neq (.int k a) (.int k b) = some (.bool (!decide (a = b))) := by simp only [evalBin, if_true]; rfl
@[simp] theorem bin_add (k : IntKind) (a b : Int) : evalBin .add (.int k a) (.int k b) = some (.int k (k.wrap (a + b))) := by simp [evalBin]
@[simp] theorem bin_sub (k : IntKind) (a b : Int) : evalBin .sub (.int k a) (.int k b) = some (.int k (k.wrap (a - b))) := by simp [evalBin]
theorem beq_dec (a b : List UInt8) : (a == b) = decide (a = b) := by
  by_cases h : a = b <;> simp [h]
@[simp] theorem bin_slss (a b : ByteArray) : evalBin .lss (.str a) (.str b) = some (.bool (Op.bytesLess a.toList b.toList)) := _root_.id rfl
@[simp] theorem bin_sgtr (a b : ByteArray) : evalBin .gtr (.str a) (.str b) = some (.bool !(Op.bytesLess a.toList b.toList || decide (a.toList = b.toList))) := by simp only [evalBin]; rw [beq_dec]
@[simp] theorem bin_seql (a b : ByteArray) : evalBin .eql (.str a) (.str b) = some (.bool (decide (a.toList = b.toList))) := by simp only [evalBin]; rw [beq_dec]
@[simp] theorem bin_sneq (a b : ByteArray) : evalBin .neq (.str a) (.str b) = some (.bool !(decide (a.toList = b.toList))) := by simp only [evalBin]; rw [beq_dec]
@[simp] theorem resA_nil (fr : Fr) (h : AH) : resA fr h [] = some [] := _root_.id rfl
@[simp] theorem resA_tmp (fr : Fr) (h : AH) (t : Nat) (rs : List RRes) : resA fr h (.tmp t :: rs) = (resA fr h rs).map (look fr t :: ·) := _root_.id rfl
@[simp] theorem resA_cell (fr : Fr) (h : AH) (a n : Nat) (agg : Bool) (rs : List RRes) : resA fr h (.cell a agg n :: rs) = (loadA h agg n (look fr a)).bind fun v => (resA fr h rs).map (v :: ·) := _root_.id rfl
@[simp] theorem un_not (b : Bool) : evalUn .not (.bool b) = some (.bool !b) := _root_.id rfl
theorem wrap_id {n : Int} (h0 : -9223372036854775808 ≤ n) (h1 : n ≤ 9223372036854775807) : IntKind.i64.wrap n = n := by
  simp only [IntKind.wrap, IntKind.bits, IntKind.signed]
  simp only [Bool.true_and, decide_eq_true_eq, ge_iff_le]
  split <;> omega

@[simp] theorem frz1_view (h : AH) (am : Bool) (k n off len : Nat) : frz1 h am (.sl k n off len) = (h.fams[k]?).bind fun f => if f.xs.length = n ∧ off + len ≤ n ∧ (am || !f.wr) = true then some (sl (false, true) f.sz ((f.xs.drop off).take len)) else none := by
  simp only [frz1]
  cases h.fams[k]? with
  | none => rfl
  | some f => simp only [Option.bind_some, sl_def]
@[simp] theorem frz_nil (h : AH) (am : Bool) : frz h am (.vs true 0 []) = some (sl (true, false) 1 []) := _root_.id rfl
@[simp] theorem frz1_nil (h : AH) (am : Bool) : frz1 h am (.vs true 0 []) = some (sl (true, false) 1 []) := _root_.id rfl
theorem sl_nil_any (m : Bool × Bool) (hm : m.2 = false) (a b : Nat) : sl m a [] = sl m b [] := by simp [sl, hm]
@[simp] theorem app_nil (c : Ctx) (h : AH) (sz bytes : Nat) (x : AV) : appendA c h sz bytes (.vs true 0 []) x = (elems h sz x).bind fun ys =>
    if ys.length = 0 then some (.vs true 0 [], h) else if ys.length * bytes ≤ roomA ∧ ys.length ≤ maxLen then some (.sl h.fams.length ys.length 0 ys.length, { h with fams := h.fams ++ [⟨ys, sz, c.mutApp⟩] }) else none := by
  simp only [appendA]
  cases elems h sz x with
  | none => rfl
  | some ys => simp
@[simp] theorem app_view (c : Ctx) (h : AH) (sz bytes k n off len : Nat) (x : AV) : appendA c h sz bytes (.sl k n off len) x = (elems h sz x).bind fun ys => (h.fams[k]?).bind fun f =>
    if f.xs.length = n ∧ f.sz = sz ∧ off + len = n ∧ (n + ys.length) * bytes ≤ roomA ∧ n + ys.length ≤ maxLen then some (.sl k (n + ys.length) off (len + ys.length), { h with fams := h.fams.set k { f with xs := f.xs ++ ys } }) else none := by
  simp only [appendA]
  cases elems h sz x with
  | none => rfl
  | some ys => cases h.fams[k]? <;> rfl
theorem app_sl (c : Ctx) (h : AH) (sz bytes : Nat) (b : Bool) (xs : List AV) (x : AV) : appendA c h sz bytes (sl (true, b) sz xs) x = (elems h sz x).bind fun ys =>
    if ys.length = 0 then some (sl (true, b) sz xs, h) else if (xs.length + ys.length) * bytes ≤ roomA ∧ xs.length + ys.length ≤ maxLen then some (.sl h.fams.length (xs.length + ys.length) 0 (xs.length + ys.length), { h with fams := h.fams ++ [⟨xs ++ ys, sz, c.mutApp⟩] }) else none := by
  simp only [appendA, sl]
  cases elems h sz x with
  | none => rfl
  | some ys =>
    simp only [Option.bind_some]
    cases xs <;> simp

/-! ### Terms -/
inductive Tm where
  | mk (kind : Int) (name : ByteArray) (sort : Int) (m : Bool × Bool) (kids : List Tm)

mutual
def tmV : Tm → AV
  | .mk k n s m l => .agg [.int .i64 k, .str n, .int .i64 s, sl m 4 (tmVs l)]
def tmVs : List Tm → List AV
  | [] => []
  | t :: l => tmV t :: tmVs l
end
theorem tmVs_map (l : List Tm) : tmVs l = l.map tmV := by
  induction l with
  | nil => rfl
  | cons t l ih => simp [tmVs, ih]

theorem nth_tmVs {l : List Tm} {i : Nat} {t : Tm} (h : l[i]? = some t) : nth (tmVs l) i = some (tmV t) := by rw [tmVs_map]; exact nth_map h
@[simp] theorem tmVs_length (l : List Tm) : (tmVs l).length = l.length := by simp [tmVs_map]

mutual
def Tm.size : Tm → Nat
  | .mk _ _ _ _ l => 1 + Tm.sizes l
def Tm.sizes : List Tm → Nat
  | [] => 0
  | t :: l => t.size + Tm.sizes l
end

theorem Tm.size_pos (t : Tm) : 0 < t.size := by cases t; simp [Tm.size]; omega

theorem Tm.sizes_append (l r : List Tm) : Tm.sizes (l ++ r) = Tm.sizes l + Tm.sizes r := by
  induction l with
  | nil => simp [Tm.sizes]
  | cons t l ih => simp [Tm.sizes, ih]; omega

theorem Tm.size_le {t : Tm} {l : List Tm} (h : t ∈ l) : t.size ≤ Tm.sizes l := by
  induction l with
  | nil => cases h
  | cons x l ih =>
    simp only [Tm.sizes]
    rcases List.mem_cons.1 h with rfl | h
    · omega
    · have := ih h; omega

theorem Tm.length_le (l : List Tm) : l.length ≤ Tm.sizes l := by
  induction l with
  | nil => simp
  | cons x l ih => have := x.size_pos; simp only [Tm.sizes, List.length_cons]; omega
end Go.Abs

namespace Go.Abs
open Go.RowKit (Below)
open Go.ChangeShapes Go.WideShapes Go.Deep
open Go.Proofs.Ytpkegmgepnhfnaa (Rows.uptoBulk Rows.uptoBulkAll)

abbrev okW (w : World) : Nat → Nat → Prop := fun b _ => b < w.heap.size

/-- Cells and their abstract forms. -/
def CV (w : World) (ys : List AV) (cs : List Value) : Prop := PVs w (okW w) ys cs ∧ ∀ u ∈ cs, u.oneCell' = true

/-- What reads ys a value of type t, at most n steps deep, has an abstract form. -/
def Opens (P : Program) (w : World) (t : TypeId) {T : Type} (cells : T → List AV) (good : T → Prop) (wt : T → Nat) (n : Nat) : Prop :=
  ∀ {H : Type} (enc : TypeId × Value → H) (cs : List Value) (x : DataW H × List MemPlace), DataW.trod enc P w 0 (fun _ => true) true n t cs = some x →
    ∃ a, good a ∧ wt a ≤ Rows.uptoBulk x.1 ∧ CV w (cells a) cs

section
variable {P : Program} {w : World} {t e : TypeId}

theorem Opens.le {T : Type} {cells : T → List AV} {good : T → Prop} {wt : T → Nat} {n m : Nat} (h : Opens P w t cells good wt n) (hm : m ≤ n) : Opens P w t cells good wt m :=
  fun enc cs x hx => h enc cs x (DataW.trod_le hm hx)

theorem CV_one {a : AV} {v : Value} (h : PV w (okW w) a v) (ho : v.oneCell' = true) : CV w [a] [v] := by
  refine ⟨?_, fun u hu => by simp at hu; subst hu; exact ho⟩
  simp only [PVs]
  exact ⟨v, [], rfl, h, rfl⟩

theorem opens_int {k : IntKind} (ht : P.underlying t = some (.int k)) (n : Nat) : Opens P w t (fun i : Int => [.int k i]) (fun i => (Lit.int k i).wf = true) (fun _ => 1) n := by
  intro H enc cs x hx
  obtain ⟨i, rfl, rfl, hw⟩ := DataW.trod_int ht hx
  exact ⟨i, hw, by simp [Rows.uptoBulk], CV_one (by simp [PV]) rfl⟩

theorem opens_bool (ht : P.underlying t = some .bool) (n : Nat) : Opens P w t (fun b : Bool => [.bool b]) (fun _ => True) (fun _ => 1) n := by
  intro H enc cs x hx
  obtain ⟨i, rfl, rfl⟩ := DataW.trod_bool ht hx
  exact ⟨i, trivial, by simp [Rows.uptoBulk], CV_one (by simp [PV]) rfl⟩

theorem opens_str (ht : P.underlying t = some .string) (n : Nat) : Opens P w t (fun s : ByteArray => [.str s]) (fun s => s.size ≤ maxLen) (fun s => s.size + 1) n := by
  intro H enc cs x hx
  obtain ⟨s, rfl, rfl, hw⟩ := DataW.trod_string ht hx
  exact ⟨s, hw, Nat.le_of_eq (by simp only [Rows.uptoBulk, Array.length_toList]; rfl), CV_one (by simp [PV]) rfl⟩

theorem list_of {T : Type} {R : Nat → T → Prop} : ∀ {n : Nat}, (∀ i, i < n → ∃ a, R i a) → ∃ ys : List T, ys.length = n ∧ ∀ i a, ys[i]? = some a → R i a
  | 0, _ => ⟨[], rfl, fun i a h => by simp at h⟩
  | n + 1, h => by
    obtain ⟨ys, hl, ha⟩ := list_of (n := n) fun i hi => h i (by omega)
    obtain ⟨a, hr⟩ := h n (by omega)
    refine ⟨ys ++ [a], by simp [hl], fun i b hb => ?_⟩
    by_cases hi : i < n
    · rw [List.getElem?_append_left (by omega)] at hb
      exact ha i b hb
    · rw [List.getElem?_append_right (by omega), hl] at hb
      have hin : i = n := by
        have := (List.getElem?_eq_some_iff.1 hb).1
        simp at this
        omega
      subst hin
      simp at hb
      subst hb
      exact hr

theorem sum_bulk {H T : Type} {wt : T → Nat} : ∀ {ys : List T} {l : List (DataW H)}, ys.length = l.length → (∀ (i : Nat) (a : T) (d : DataW H), ys[i]? = some a → l[i]? = some d → wt a ≤ Rows.uptoBulk d) → (ys.map wt).sum ≤ Rows.uptoBulkAll l
  | [], l, _, _ => by simp
  | a :: ys, [], h, _ => by simp at h
  | a :: ys, d :: l, h, k => by
    have h1 := k 0 a d rfl rfl
    have h2 := sum_bulk (ys := ys) (l := l) (by simpa using h) fun i a d ha hd => k (i + 1) a d (by simpa using ha) (by simpa using hd)
    simp only [List.map_cons, List.sum_cons, Rows.uptoBulkAll]
    omega

theorem PV_sl {sz : Nat} {xs : List AV} {a : Addr} {len cap : Nat} (hlen : xs.length = len) (hc : len ≤ cap) (hm : cap ≤ maxLen) (hsz : 0 < sz)
    (hx : ∀ (i : Nat) (x : AV), xs[i]? = some x → ∃ cs', w.cells? 0 (a.add (i * sz)) sz = some cs' ∧ CV w x.cells cs') : PV w (okW w) (.vs false sz xs) (.slice (some a) len cap) := by
  simp only [PV]
  refine ⟨some a, len, cap, rfl, hlen.symm, hc, hm, (by simp), ⟨(by simp), ⟨(by simp), fun e => absurd hsz (by omega)⟩⟩, fun hne => ?_⟩
  have spot : a.spot = none := by
    cases xs with
    | nil => exact absurd rfl hne
    | cons x xs =>
      obtain ⟨cs', h1, h2, _⟩ := hx 0 x rfl
      obtain ⟨_, hl, hcell⟩ := World.cells?_some h1
      have h0 := hcell 0 hsz
      rw [List.getElem?_eq_getElem (by omega)] at h0
      simpa [Addr.add] using World.cell?_spot h0
  obtain ⟨b, o, sp⟩ := a
  subst spot
  refine ⟨b, o, rfl, hsz, PEls_of fun j x hj => ?_⟩
  obtain ⟨cs', h1, h2, h3⟩ := hx j x hj
  obtain ⟨_, hl, hcell⟩ := World.cells?_some h1
  obtain ⟨g1, g2⟩ := PVs_get h2
  refine ⟨by omega, PCells_of fun q c hq => ?_⟩
  obtain ⟨u, hu, hv⟩ := g2 hq
  have hqlt : q < sz := by
    have := (List.getElem?_eq_some_iff.1 hq).1
    omega
  have hcl := hcell q hqlt
  rw [hu, Go.WideShapes.add_plain, Go.WideShapes.add_plain] at hcl
  exact ⟨u, World.block_lt_of_cell? _ _ hcl, hcl, h3 u (List.mem_of_getElem? hu), hv⟩

/-- A slice. -/
theorem opens_slice {T : Type} {sz : Nat} {enc : T → AV} {good : T → Prop} {wt : T → Nat} {n : Nat} (ht : P.underlying t = some (.slice e)) (hsz : P.cellsOf e = sz) (hpos : 0 < sz)
    (elem : Opens P w e (fun a => (enc a).cells) good wt n) :
    Opens P w t (fun ys : Bool × List T => [sl (false, ys.1) sz (ys.2.map enc)]) (fun ys => ∀ a ∈ ys.2, good a) (fun ys => (ys.2.map wt).sum + 1) (n + 1) := by
  intro H ec cs x hx
  rcases DataW.trod_slice ht hx with ⟨rfl, rfl⟩ | ⟨a, len, cap, elems, rest, n', hn, rfl, rfl, hb, hl, hm, hlen, hel, hsp, hns⟩
  · exact ⟨(false, []), fun a ha => by simp at ha, by simp [Rows.uptoBulk], CV_one (by simp only [sl, PV]; exact ⟨none, 0, 0, rfl, by simp, Nat.le_refl _, Nat.zero_le _, by simp, by simp, fun h => absurd rfl h⟩) rfl⟩
  · have hnn : n' = n := by omega
    subst hnn
    obtain ⟨ys, hys, hr⟩ := list_of (T := T) (n := len) (R := fun i a' => good a' ∧ (∀ y, elems[i]? = some y → wt a' ≤ Rows.uptoBulk y.1) ∧ ∃ cs', w.cells? 0 (a.add (i * sz)) sz = some cs' ∧ CV w (enc a').cells cs') fun i hi => by
      have h1 := hel i hi
      rw [List.getElem?_eq_getElem (by omega), hsz] at h1
      obtain ⟨cs', h2, h3⟩ := Option.bind_eq_some_iff.1 h1
      obtain ⟨a', k1, k2, k3⟩ := elem ec cs' _ h3
      exact ⟨a', k1, fun y hy => by rw [List.getElem?_eq_getElem (by omega)] at hy; cases hy; exact k2, cs', h2, k3⟩
    refine ⟨(true, ys), fun a' ha' => ?_, ?_, CV_one ((congrArg (fun q => PV w (okW w) q (.slice (some a) len cap)) (sl_def false sz (ys.map enc))).mp (PV_sl (by simp [hys]) hl hm hpos fun i x hx => ?_)) rfl⟩
    · obtain ⟨i, hi⟩ := List.mem_iff_getElem?.1 ha'
      exact (hr i a' hi).1
    · have := sum_bulk (wt := wt) (ys := ys) (l := elems.map (·.1)) (by simp [hys, hlen]) fun i a' d ha' hd => by
        simp only [List.getElem?_map, Option.map_eq_some_iff] at hd
        obtain ⟨y, hy, rfl⟩ := hd
        exact (hr i a' ha').2.1 y hy
      simp only [Rows.uptoBulk]
      omega
    · simp only [List.getElem?_map, Option.map_eq_some_iff] at hx
      obtain ⟨a', ha', rfl⟩ := hx
      exact (hr i a' ha').2.2

theorem drop_take_one {α : Type} {l : List α} {i : Nat} (h : i < l.length) : (l.drop i).take 1 = [l[i]] := by
  rw [List.drop_eq_getElem_cons h]
  rfl

/-- A struct whose fields are of one cell each. -/
theorem struct_parts {H : Type} {enc : TypeId × Value → H} {fs : Array Field} {n : Nat} {cs : List Value} {x : DataW H × List MemPlace} (ht : P.underlying t = some (.struct fs)) (hc : P.cellsOf t = fs.size)
    (hf : ∀ (i : Nat) (f : Field), fs[i]? = some f → f.offset = i ∧ P.cellsOf f.type = 1) (h : DataW.trod enc P w 0 (fun _ => true) true n t cs = some x) :
    ∃ (m : Nat) (xs : List (DataW H × List MemPlace)), n = m + 1 ∧ cs.length = fs.size ∧ xs.length = fs.size ∧ x.1 = .agg (xs.map (·.1)) ∧ ∀ (i : Nat) (f : Field), fs[i]? = some f → ∃ c y, cs[i]? = some c ∧ xs[i]? = some y ∧ DataW.trod enc P w 0 (fun _ => true) true m f.type [c] = some y := by
  obtain ⟨xs, m, rfl, rfl, h1, h2, h3⟩ := DataW.trod_struct ht h
  refine ⟨m, xs, rfl, by omega, h2, rfl, fun i f hi => ?_⟩
  obtain ⟨ho, hs⟩ := hf i f hi
  have hlt : i < fs.size := (Array.getElem?_eq_some_iff.1 hi).1
  have := h3 i f hi
  rw [ho, hs, drop_take_one (by omega), List.getElem?_eq_getElem (by omega)] at this
  exact ⟨cs[i], xs[i], List.getElem?_eq_getElem _, List.getElem?_eq_getElem _, this⟩

theorem CV_cons {ys : List AV} {cs : List Value} {y : AV} {c : Value} (h : CV w [y] [c]) (k : CV w ys cs) : CV w (y :: ys) (c :: cs) := by
  obtain ⟨h1, h2⟩ := h
  refine ⟨?_, fun u hu => ?_⟩
  · simp only [PVs] at h1 ⊢
    obtain ⟨u, us, he, h3, rfl⟩ := h1
    cases he
    exact ⟨c, cs, rfl, h3, k.1⟩
  · rcases List.mem_cons.1 hu with rfl | hu
    · exact h2 u (by simp)
    · exact k.2 u hu

theorem CV_nil : CV w [] [] := ⟨by simp [PVs], fun u hu => by simp at hu⟩

end

/-! ### Back to the statement -/
section
variable {P : Program}

theorem trodAll_stays {H : Type} {enc : TypeId × Value → H} {W W' : World} (hl : laidOutB P = true) (hb : Below W.heap.size W W') : ∀ {ts : List TypeId} {vs : List Value} {ds : List (DataW H)} {ps : List MemPlace}, (∀ t ∈ ts, P.readableRec t = true ∧ t < P.types.size) →
    DataW.TrodAll enc P W 0 (fun _ => true) true ts vs ds ps → (∀ p ∈ ps, p.block < W.heap.size) → ∀ {sp : Nat → Bool}, (∀ p ∈ ps, sp p.block = true) → DataW.TrodAll enc P W' 0 sp true ts vs ds ps
  | [], [], [], _, _, h, _, _, _ => h
  | t :: ts, v :: vs, d :: ds, ps, hr, h, hlt, sp, hs => by
    obtain ⟨p, q, h1, h2, rfl⟩ := h
    refine ⟨p, q, WideElems.Trod_stays hl (hr t (by simp)).1 (hr t (by simp)).2 h1 (fun x hx => hb.same (hlt x (by simp [hx]))) (fun x hx => hs x (by simp [hx])), ?_, rfl⟩
    exact trodAll_stays hl hb (fun t ht => hr t (by simp [ht])) h2 (fun x hx => hlt x (by simp [hx])) (fun x hx => hs x (by simp [hx]))

/-- The kit's `post_of_same`, for a call whose new blocks may be frozen: no variables. -/
theorem post_frozen {H : Type} {enc : TypeId × Value → H} {f : Func} {s : ChangeSpec} {W W' : World} {args : Array Value} {v : Value} {ds gs : List (DataW H)} {before pa : List MemPlace}
    (hW : DataW.Whole enc P f.params.toList s.vars false W args.toList ds gs before) (hps : before = pa)
    (hres : ∀ (b : Nat) (sp : Nat → Bool) (hd : Bool), DataW.TrodAll enc P W' b sp hd f.resultTypes.toList (v.resultList f.resultTypes.size) (s.fn H (ds ++ gs)).results [])
    (hargs : ∀ sp : Nat → Bool, (∀ p ∈ before, sp p.block = true) → DataW.TrodAll enc P W' 0 sp true f.params.toList args.toList (s.fn H (ds ++ gs)).args pa)
    (hv : s.vars = []) (hgs : (s.fn H (ds ++ gs)).vars = []) (hk : W.keptBut W' (· ∈ before)) (hfz : ∀ a : Addr, a.block < W.heap.size → W'.frozen? a = W.frozen? a)
    (hok : ∀ (j : Nat) (t : TypeId) (r : Value), f.resultTypes[j]? = some t → (v.resultList f.resultTypes.size)[j]? = some r → Value.okWide P W' .any 0 t r) :
    s.post enc P f false true false false W args v W' := by
  subst hps
  have hold : ∀ p ∈ before, (fun b => decide (b < W.heap.size)) p.block = true := fun p hp => by simpa using hW.lt p hp
  have hvars : ∀ sp : Nat → Bool, DataW.TrodVars enc P W' sp s.vars (s.fn H (ds ++ gs)).vars [] := fun sp => by rw [hv, hgs]; rfl
  refine ⟨ds, gs, before, [], before, [], hW, hres _ _ _, hargs _ hold, hvars _, World.keptBut_mono (fun p hp => ⟨hp, ?_⟩) hk, fun _ => ?_⟩
  · exact Or.inr (Or.inl hp)
  · have hlt := hW.lt
    obtain ⟨_, _, _, _, _, hz, hn⟩ := hW
    refine ⟨hok, _, _, ([] ++ before) ++ [], ⟨[] ++ before, [], trodAll_append (hargs _ (fun _ _ => rfl)) (hres _ _ _), hvars _, rfl, ?_, ?_⟩, ?_⟩
    · intro b off hp
      have hp' : MemPlace.cell b off ∈ before := by simpa using hp
      rw [hfz _ (hlt _ hp')]
      exact hz b off hp'
    · intro ha
      cases ha
    · intro p hp _
      simpa using hp

/-- From the contract 'it returns true' to the statement's own words. -/
theorem true_post {C : Cfg} (hC : CfgS P C) (hl : laidOutB P = true) {f : FuncId} {fn : Func} {tb : TypeId} (hb : P.underlying tb = some .bool) (hres : fn.resultTypes = #[tb]) (hpar : ∀ t ∈ fn.params.toList, P.readableRec t = true ∧ t < P.types.size)
    {s : ChangeSpec} (hv : s.vars = []) {H : Type} {enc : TypeId × Value → H} {W : World} {args : Array Value} {ds gs : List (DataW H)} {before : List MemPlace}
    (hs : (s.fn H (ds ++ gs)).results = [.lit (.bool true)] ∧ (s.fn H (ds ++ gs)).args = ds ∧ (s.fn H (ds ++ gs)).vars = [])
    (hW : DataW.Whole enc P fn.params.toList s.vars false W args.toList ds gs before) {ys : List AV} (hy : PVs W (okW W) ys args.toList) (h : pc C f ys = some (.bool true)) :
    Calls P f args W fun e W' => ∃ v, e = .returned v ∧ s.post enc P fn false true false false W args v W' := by
  have hlt := hW.lt
  have hW' := hW
  obtain ⟨p, q, hA, hV, hpq, hfz, hnd⟩ := hW
  rw [hv] at hV
  obtain ⟨rfl, rfl⟩ := trodVars_none hV
  rw [List.append_nil] at hpq
  subst hpq
  refine (pc_sound hC h W (okW W) args (fun b o hb => hb) hy).mono fun e W' ⟨u, he, hbel, hu⟩ => ?_
  have hu' : u = .bool true := by simpa [PV] using hu
  subst hu' he
  refine ⟨_, rfl, post_frozen hW' rfl (fun b sp hd => ?_) (fun sp hsp => ?_) hv hs.2.2 (hbel.frame _) (fun a ha => hbel.frozen ha) (RowKit.ok_one hres rfl (RowKit.okWide_bool_mk hb _))⟩
  · rw [hs.1, hres]
    exact trodAll_mk1 (RowKit.shut_bool hb _)
  · rw [hs.2.1]
    exact trodAll_stays hl hbel hpar hA hlt hsp
end
end Go.Abs
