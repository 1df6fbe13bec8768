/- A statement whose order is open: whatever order comes, the end is that of the text's order. -/
import Derived.Test.YtpkegmgepnhfnaaA17
import Derived.Orders
namespace Go.Abs
open Go.RowKit (Below)
section
variable {O : Orc} {c : Ctx}

theorem op_congr {r : ROp} {fr fr' : Fr} {h h' h1 : AH} {v : AV} (hs : ∀ t ∈ r.slots, fr'.getD t undefA = fr.getD t undefA) (hb : r.looksB c = true → h'.boxes = h.boxes) (hf : r.looksF = true → h'.fams = h.fams)
    (he : evalOp O c r fr h = some (v, h1)) : ∃ h1', evalOp O c r fr' h' = some (v, h1') ∧ (r.writesB c = true → h1'.boxes = h1.boxes) ∧ (r.writesF c = true → h1'.fams = h1.fams) := by
  by_cases hcall : r.isCall = false
  · have h2 := op_fst (O := O) hs hb hf hcall (by rw [he]; rfl)
    rw [he] at h2
    cases h3 : evalOp O c r fr' h' with
    | none => rw [h3] at h2; cases h2
    | some x =>
      obtain ⟨v', h1'⟩ := x
      rw [h3] at h2
      have : v' = v := by simpa using h2
      subst this
      refine ⟨h1', rfl, fun hw => ?_, fun hw => ?_⟩
      · cases r <;> simp only [ROp.writesB] at hw <;> try (cases hw; done)
        case call => simp [ROp.isCall] at hcall
        case callv => simp [ROp.isCall] at hcall
        case st n a x =>
          obtain rfl : h' = h := AH_eq (hb rfl) (hf rfl)
          simp only [evalOp, get_congr (x := a) fun t ht => hs t (by simp [ROp.slots, ht]), get_congr (x := x) fun t ht => hs t (by simp [ROp.slots, ht])] at h3 he
          rw [h3] at he; cases he; rfl
        case box x =>
          simp only [evalOp, get_congr (x := x) fun t ht => hs t (by simp [ROp.slots, ht]), hb rfl] at h3 he
          split at he
          · cases he
          · rename_i ht; rw [if_neg ht] at h3; cases he; cases h3; rfl
        case alloc z => simp only [evalOp, hb rfl] at h3 he; cases he; cases h3; rfl
      · cases r <;> simp only [ROp.writesF] at hw <;> try (cases hw; done)
        case call => simp [ROp.isCall] at hcall
        case callv => simp [ROp.isCall] at hcall
        case st n a x =>
          obtain rfl : h' = h := AH_eq (hb rfl) (hf rfl)
          simp only [evalOp, get_congr (x := a) fun t ht => hs t (by simp [ROp.slots, ht]), get_congr (x := x) fun t ht => hs t (by simp [ROp.slots, ht])] at h3 he
          rw [h3] at he; cases he; rfl
        case mkslice z b l q =>
          simp only [evalOp, get_congr (x := l) fun t ht => hs t (by simp [ROp.slots, ht]), get_congr (x := q) fun t ht => hs t (by simp [ROp.slots, ht]), hf rfl] at h3 he
          split at he
          · rename_i e1 e2
            simp only [e1, e2] at h3
            split at he
            · rename_i hc; rw [if_pos hc] at h3; cases he; cases h3; rfl
            · cases he
          · cases he
        case app sz b s x =>
          simp only [evalOp, appendA, get_congr (x := s) fun t ht => hs t (by simp [ROp.slots, ht]), get_congr (x := x) fun t ht => hs t (by simp [ROp.slots, ht]), elems_fams (hf rfl), hf rfl] at h3 he
          cases hel : elems h sz (get fr x) with
          | none => rw [hel] at he; cases he
          | some ys =>
            rw [hel] at he h3
            dsimp only at he h3
            cases hg : get fr s <;> rw [hg] at he h3 <;> (try dsimp only at he h3) <;> try (cases he; done)
            case vs full z xs =>
              cases full <;> (try dsimp only at he h3)
              · cases he
              · split at he
                · rename_i hc; rw [if_pos hc] at h3; cases he; cases h3; exact hf rfl
                · rename_i hc; rw [if_neg hc] at h3
                  split at he
                  · rename_i hc2; rw [if_pos hc2] at h3; cases he; cases h3; rfl
                  · cases he
            case sl k n off len =>
              cases hk : h.fams[k]? with
              | none => rw [hk] at he; cases he
              | some f =>
                rw [hk] at he h3
                dsimp only at he h3
                split at he
                · rename_i hc; rw [if_pos hc] at h3; cases he; cases h3; rfl
                · cases he
  · cases r <;> simp only [ROp.isCall] at hcall <;> try (exact absurd trivial hcall)
    case callv x as =>
      obtain rfl : h' = h := AH_eq (hb rfl) (hf rfl)
      refine ⟨h1, ?_, fun _ => rfl, fun _ => rfl⟩
      rw [← he]
      simp only [evalOp, get_congr (x := x) fun t ht => hs t (by simp only [ROp.slots, List.mem_append]; exact .inl ht), gets_congr (xs := as) fun t ht => hs t (by simp only [ROp.slots, List.mem_append]; exact .inr ht)]
    case call f as =>
      have ha : as.map (get fr') = as.map (get fr) := gets_congr (xs := as) fun t ht => hs t (by simpa [ROp.slots] using ht)
      cases hr : c.raw f with
      | true =>
        obtain rfl : h' = h := AH_eq (hb (by simp [ROp.looksB, hr])) (hf rfl)
        exact ⟨h1, by rw [← he]; simp only [evalOp, ha], fun _ => rfl, fun _ => rfl⟩
      | false =>
        simp only [evalOp] at he ⊢
        refine ⟨h', by rw [ha]; exact callA_congr hr (hf rfl) he, fun hw => ?_, fun hw => ?_⟩
        · simp [ROp.writesB, hr] at hw
        · simp [ROp.writesF, hr] at hw

/-! ### Which operations surely come before another -/

def deps (o : Oper) (acc : List Nat) : Nat := o.after.toList.foldl (fun s e => if Region.binds .any e then s ||| 2 ^ e.on ||| acc.getD e.on 0 else s) 0

theorem before_spec : ∀ (l : List Oper) (acc : List Nat), ∃ ext, before l acc = acc ++ ext ∧ ext.length = l.length ∧ ∀ (k : Nat) (o : Oper), l[k]? = some o → ext[k]? = some (deps o (acc ++ ext.take k))
  | [], acc => ⟨[], by simp [before], rfl, fun k o h => by simp at h⟩
  | o :: l, acc => by
    obtain ⟨ext, h1, h2, h3⟩ := before_spec l (acc ++ [deps o acc])
    refine ⟨deps o acc :: ext, ?_, by simp [h2], fun k o' hk => ?_⟩
    · rw [before]
      show before l (acc ++ [deps o acc]) = _
      rw [h1]; simp
    · cases k with
      | zero => simp at hk; subst hk; simp
      | succ k =>
        have := h3 k o' (by simpa using hk)
        simpa using this

theorem fold_bits {acc : List Nat} {i : Nat} : ∀ (l : List Edge) (s : Nat), (l.foldl (fun s e => if Region.binds .any e then s ||| 2 ^ e.on ||| acc.getD e.on 0 else s) s).testBit i = true →
    s.testBit i = true ∨ ∃ e ∈ l, Region.binds .any e = true ∧ (e.on = i ∨ (acc.getD e.on 0).testBit i = true)
  | [], s, h => .inl h
  | e :: l, s, h => by
    simp only [List.foldl_cons] at h
    rcases fold_bits l _ h with h1 | ⟨e', he', h1⟩
    · split at h1
      · rename_i hb
        rw [Nat.testBit_or, Nat.testBit_or] at h1
        simp only [Bool.or_eq_true] at h1
        rcases h1 with (h1 | h1) | h1
        · exact .inl h1
        · rw [Nat.testBit_two_pow] at h1
          exact .inr ⟨e, by simp, hb, .inl (by simpa using h1)⟩
        · exact .inr ⟨e, by simp, hb, .inr h1⟩
      · exact .inl h1
    · exact .inr ⟨e', by simp [he'], h1⟩

/-- Operation i surely comes before operation j. -/
def Dep (ops : List Oper) (i j : Nat) : Prop := ((before ops []).getD j 0).testBit i = true

theorem dep_edge {ops : List Oper} {i j : Nat} (h : Dep ops i j) : ∃ o e, ops[j]? = some o ∧ e ∈ o.after.toList ∧ Region.binds .any e = true ∧ (e.on = i ∨ Dep ops i e.on) := by
  obtain ⟨ext, h1, h2, h3⟩ := before_spec ops []
  simp only [List.nil_append] at h1 h3
  unfold Dep at h
  rw [h1] at h
  cases ho : ops[j]? with
  | none =>
    have : ext[j]? = none := by
      rw [List.getElem?_eq_none_iff] at ho ⊢
      omega
    simp [List.getD, this] at h
  | some o =>
    have h4 := h3 j o ho
    rw [List.getD, h4] at h
    simp only [Option.getD_some] at h
    unfold deps at h
    rcases fold_bits _ _ h with h5 | ⟨e, he, hb, h5⟩
    · simp at h5
    · refine ⟨o, e, rfl, he, hb, ?_⟩
      rcases h5 with h5 | h5
      · exact .inl h5
      · right
        unfold Dep
        rw [h1]
        have : (ext.take j).getD e.on 0 = ext.getD e.on 0 ∨ (ext.take j).getD e.on 0 = 0 := by
          simp only [List.getD, List.getElem?_take]
          split
          · exact .inl rfl
          · exact .inr rfl
        rcases this with h6 | h6
        · rw [← h6]; exact h5
        · rw [h6] at h5; simp at h5

theorem edges_lt : ∀ {ops : List Oper} {k : Nat}, edgesOk ops k = true → ∀ {j : Nat} {o : Oper} {e : Edge}, ops[j]? = some o → e ∈ o.after.toList → Region.binds .any e = true → e.on < k + j
  | [], _, _, j, o, e, h, _, _ => by simp at h
  | o' :: ops, k, h, j, o, e, ho, he, hb => by
    simp only [edgesOk, Bool.and_eq_true] at h
    cases j with
    | zero =>
      simp at ho; subst ho
      have := (List.all_eq_true.1 h.1) e he
      simp [hb] at this
      omega
    | succ j =>
      have := edges_lt h.2 (j := j) (o := o) (by simpa using ho) he hb
      omega

end
end Go.Abs
