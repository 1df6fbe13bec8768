/- Every operation but a call: the abstract step is followed by the model's. -/
import Derived.Test.YtpkegmgepnhfnaaVL2
/- A struct that is built; a literal slice; a slice that is made. -/
namespace Go.Abs
open Go.RowKit (Below)
section
variable {E : Env} {P : Program} {fr : Fr} {a : Act} {o : Oper}

/-! ### Parts laid into a row of cells -/

theorem fold_put (off : Nat) : ∀ (l : List Value) (k : Nat) (cells : Array Value), off + k + l.length ≤ cells.size →
    ((l.zipIdx k).foldl (fun cs (x : Value × Nat) => cs.setIfInBounds (off + x.2) x.1) cells).toList = cells.toList.take (off + k) ++ l ++ cells.toList.drop (off + k + l.length)
  | [], k, cells, _ => by simp
  | v :: l, k, cells, h => by
    simp only [List.length_cons] at h
    simp only [List.zipIdx_cons, List.foldl_cons]
    rw [fold_put off l (k + 1) _ (by simp; omega)]
    have := list_seg_step cells.toList (off + k) v l (by simp; omega)
    simp only [Array.toList_setIfInBounds, List.length_cons]
    rw [show off + (k + 1) = off + k + 1 from by omega]
    exact this

theorem fill_step {place : Nat → Option (Nat × Nat)} {cells : Array Value} {i off size : Nat} {v : Value} {rest : List (Nat × Value)} (hp : place i = some (off, size)) (hs : v.cells.size = size) (hfit : off + size ≤ cells.size) :
    Instr.fill place cells ((i, v) :: rest) = Instr.fill place (cells.toList.take off ++ v.cells.toList ++ cells.toList.drop (off + size)).toArray rest := by
  have h := fold_put off v.cells.toList 0 cells (by simp; omega)
  simp only [Nat.add_zero, Array.length_toList, hs] at h
  have h2 : (v.cells.zipIdx.foldl (fun cs (x : Value × Nat) => cs.setIfInBounds (off + x.2) x.1) cells) = (cells.toList.take off ++ v.cells.toList ++ cells.toList.drop (off + size)).toArray := by
    apply Array.ext'
    rw [← h, ← Array.foldl_toList]
    simp
  simp only [Instr.fill, hp, hs]
  rw [if_neg (by simp; omega)]
  exact congrArg (fun c => Instr.fill place c rest) h2

/-! ### A struct -/

theorem build_sound (hf : FR E fr a.tmps) {fs : Array Field} {places : Nat → Option (Nat × Nat)} (hpl : ∀ (j : Nat) (f : Field) (n : Nat), fs[j]? = some f → Program.size? P f.type = some n → places j = some (f.offset, n)) :
    ∀ {parts : List (Nat × Operand)} {ps : List (Nat × Nat × Opd)} {qs : List (Nat × AV)} {cells : Array Value} {zs : List AV}, mapO (resPart P fs) parts = some ps → buildParts fr zs.length ps = some qs → VRs E zs cells.toList → (∀ u ∈ cells.toList, u.oneCell' = true) →
      ∃ us, Instr.fill places cells (parts.map fun p => (p.1, a.eval p.2)) = some us ∧ VRs E (fillParts zs qs) us.toList ∧ ∀ u ∈ us.toList, u.oneCell' = true
  | [], ps, qs, cells, zs, hp, hq, hz, h1 => by
    simp [mapO] at hp; subst hp
    simp [buildParts] at hq; subst hq
    exact ⟨cells, rfl, hz, h1⟩
  | (i, x) :: parts, ps, qs, cells, zs, hp, hq, hz, h1 => by
    simp only [mapO] at hp
    split at hp
    · rename_i y ys hy hys
      cases hp
      obtain ⟨off, n, x'⟩ := y
      unfold resPart at hy
      split at hy
      · rename_i f xx hfi hxx
        split at hy
        · rename_i n' hn'
          simp at hy
          obtain ⟨rfl, rfl, rfl⟩ := hy
          simp only [buildParts] at hq
          split at hq
          · rename_i hc
            simp only [Option.map_eq_some_iff] at hq
            obtain ⟨qs', hqs', rfl⟩ := hq
            obtain ⟨g1, g2⟩ := VR_cells (opd_sound hf hxx) hc.1
            have hsz : (a.eval x).cells.size = n' := by have := VRs_len g1; simp at this; omega
            have hcl : cells.size = zs.length := by have := VRs_len hz; simpa using this
            have hstep := fill_step (place := places) (cells := cells) (rest := parts.map fun p => (p.1, a.eval p.2)) (hpl i f n' hfi hn') hsz (by omega)
            have hvs := VRs_splice hz g1 f.offset
            rw [show (a.eval x).cells.toList.length = n' from by simp [hsz]] at hvs
            have hlen : (splice zs f.offset (get fr xx).cells).length = zs.length := by simp [splice]; omega
            obtain ⟨us, k1, k2, k3⟩ := build_sound hf hpl (cells := (cells.toList.take f.offset ++ (a.eval x).cells.toList ++ cells.toList.drop (f.offset + n')).toArray) (zs := splice zs f.offset (get fr xx).cells) hys (by rw [hlen]; exact hqs') (by simpa using hvs) (by
              intro u hu
              simp only [List.mem_append] at hu
              rcases hu with (hu | hu) | hu
              · exact h1 u (List.mem_of_mem_take hu)
              · exact g2 u hu
              · exact h1 u (List.mem_of_mem_drop hu))
            refine ⟨us, ?_, ?_, k3⟩
            · simp only [List.map_cons]; rw [hstep]; exact k1
            · simpa [fillParts] using k2
          · cases hq
        · cases hy
      · cases hy
    · cases hp

theorem mapM_get {α β : Type} {f : α → Option β} : ∀ {l : List α} {r : List β}, l.mapM f = some r → ∀ {j : Nat} {x : α}, l[j]? = some x → ∃ y, f x = some y ∧ r[j]? = some y
  | [], r, _, j, x, hx => by simp at hx
  | b :: l, r, h, j, x, hx => by
    simp only [List.mapM_cons, Option.bind_eq_bind, Option.pure_def, Option.bind_eq_some_iff] at h
    obtain ⟨y, hy, ys, hys, hr⟩ := h
    cases hr
    cases j with
    | zero => simp at hx; subst hx; exact ⟨y, hy, rfl⟩
    | succ j => simpa using mapM_get hys (j := j) (x := x) (by simpa using hx)

theorem q_build {t : TypeId} {parts : Array (Nat × Operand)} {fs : Array Field} {zs : List AV} {ps : List (Nat × Nat × Opd)} {qs : List (Nat × AV)} (hf : FR E fr a.tmps) (ho : o.op = .build t parts) (hu : P.underlying t = some (.struct fs)) (hz : Program.zeroA P t = some (.agg zs))
    (hs : (fs.toList.mapM fun f => (P.info? f.type).map fun i => (f.offset, i.size)).isSome = true) (hp : mapO (resPart P fs) parts.toList = some ps) (hq : buildParts fr zs.length ps = some qs) : Quiet P a o E (.agg (fillParts zs qs)) := by
  obtain ⟨i, zv, h1, h2, h3, h4, h5⟩ := zeroA_spec hz
  obtain ⟨places, hpl⟩ := Option.isSome_iff_exists.1 hs
  obtain ⟨g1, g2⟩ := VR_cells (E := E) (VR_of_PV _ _ (constAV_sound h4)) h5
  obtain ⟨us, k1, k2, k3⟩ := build_sound (E := E) (P := P) hf (places := fun j => places.toArray[j]?) (fun j f n hj hn => by
    obtain ⟨y, hy, hy'⟩ := mapM_get hpl (j := j) (x := f) (by simpa using hj)
    unfold Program.size? at hn
    simp only [Option.map_eq_some_iff] at hn hy
    obtain ⟨i', hi', rfl⟩ := hn
    obtain ⟨i'', hi'', rfl⟩ := hy
    rw [hi'] at hi''; cases hi''
    simpa using hy') hp hq g1 g2
  have hb : P.built t (parts.map fun (i, x) => (i, a.eval x)).toList = some us := by
    unfold Program.built
    simp only [h1, hu, h2, hpl, Array.toList_map]
    exact k1
  refine ⟨.agg us, ?_, ?_⟩
  · simp only [execOp, ho, Sem.run_bind, run_build E.w t _ us hb, Result.andThen_ok, Sem.run_pure]
  · simp only [VR]
    exact ⟨us, rfl, k3, k2⟩

/-! ### A row of equal elements -/

/-- A list of cells that holds the elements of a list, one behind the other. -/
def RowL (E : Env) (us : List Value) (xs : List AV) (sz : Nat) : Prop :=
  ∀ (i : Nat) (x : AV), xs[i]? = some x → x.cells.length = sz ∧ ∀ (c : Nat) (y : AV), x.cells[c]? = some y → ∃ v, us[i * sz + c]? = some v ∧ v.oneCell' = true ∧ PV E.w E.ok y v

theorem madeCells_get (z : Array Value) (n : Nat) (i c : Nat) (hc : c < z.size) (hi : i < n) : (madeCells z (n * z.size))[i * z.size + c]? = some z[c] := by
  have hlt := mul_room hi hc
  unfold madeCells
  rw [Array.getElem?_map, Array.getElem?_range, if_pos hlt]
  have : (i * z.size + c) % z.size = c := by rw [Nat.add_comm, Nat.mul_comm, Nat.add_mul_mod_self_left, Nat.mod_eq_of_lt hc]
  simp [this, getElem!_pos, hc]

theorem made_RowL {t : TypeId} {z : AV} (hz : Program.zeroA P t = some z) {n : Nat} {i : TypeInfo} (hi : P.info? t = some i) (hpos : 0 < i.size) : ∃ zv, i.zero = some zv ∧ z.cells.length = i.size ∧ zv.cells.size = i.size ∧ RowL E (madeCells zv.cells (n * i.size)).toList (List.replicate n z) i.size ∧ ∀ u ∈ (madeCells zv.cells (n * i.size)).toList, u.oneCell' = true := by
  obtain ⟨i', zv, h1, h2, h3, h4, h5⟩ := zeroA_spec hz
  rw [hi] at h1; cases h1
  have hpv := constAV_sound (w := E.w) (ok := E.ok) h4
  obtain ⟨g1, g2⟩ := PV_cells hpv h5
  obtain ⟨gl, gg⟩ := PVs_get g1
  have hl : z.cells.length = i.size := by simp at gl; omega
  refine ⟨zv, h2, hl, h3, fun j x hx => ?_, fun u hu => ?_⟩
  · rw [List.getElem?_replicate] at hx
    split at hx
    · rename_i hj
      cases hx
      refine ⟨hl, fun c y hy => ?_⟩
      have hc : c < zv.cells.size := by have := (List.getElem?_eq_some_iff.1 hy).1; omega
      obtain ⟨v, v1, v2⟩ := gg hy
      have := madeCells_get zv.cells n j c hc hj
      rw [h3] at this
      refine ⟨zv.cells[c], by rw [Array.getElem?_toList]; exact this, g2 _ (by simp), ?_⟩
      have e : v = zv.cells[c] := by
        rw [Array.getElem?_toList, Array.getElem?_eq_getElem hc] at v1; simpa using v1.symm
      rw [← e]; exact v2
    · cases hx
  · obtain ⟨j, hj⟩ := List.getElem?_of_mem hu
    rw [Array.getElem?_toList] at hj
    unfold madeCells at hj
    rw [Array.getElem?_map, Array.getElem?_range] at hj
    split at hj
    · simp at hj
      have hm : j % zv.cells.size < zv.cells.size := Nat.mod_lt _ (by omega)
      rw [getElem!_pos zv.cells _ hm] at hj
      subst hj
      exact g2 _ (by simp)
    · simp at hj

theorem slice_sound (hS : SR E) (hf : FR E fr a.tmps) {sz : Nat} (hpos : 0 < sz) :
    ∀ {parts : List (Nat × Operand)} {ps : List (Nat × Opd)} {xs ys : List AV} {cells : Array Value}, mapO resElem parts = some ps → sliceParts fr E.h xs ps = some ys → RowL E cells.toList xs sz → cells.size = xs.length * sz → (∀ u ∈ cells.toList, u.oneCell' = true) →
      ∃ us, Instr.fill (fun i => some (i * sz, sz)) cells (parts.map fun p => (p.1, a.eval p.2)) = some us ∧ RowL E us.toList ys sz ∧ us.size = ys.length * sz ∧ ys.length = xs.length
  | [], ps, xs, ys, cells, hp, hq, hr, hs, _ => by
    simp [mapO] at hp; subst hp
    simp [sliceParts] at hq; subst hq
    exact ⟨cells, rfl, hr, hs, rfl⟩
  | (i, x) :: parts, ps, xs, ys, cells, hp, hq, hr, hs, h1 => by
    simp only [mapO] at hp
    split at hp
    · rename_i y yr hy hyr
      cases hp
      unfold resElem at hy
      simp only [Option.map_eq_some_iff] at hy
      obtain ⟨x', hx', rfl⟩ := hy
      simp only [sliceParts] at hq
      split at hq
      · rename_i z y hz hyy
        split at hq
        · rename_i hc
          obtain ⟨hPu, hut⟩ := frz_sound hS (am := false) (ok' := E.ok) ⟨fun _ _ h => h, fun h => by cases h⟩ (opd_sound hf hx') hyy
          obtain ⟨g1, g2⟩ := PV_cells hPu hut
          obtain ⟨gl, gg⟩ := PVs_get g1
          obtain ⟨r1, r2⟩ := hr i z hz
          have hi : i < xs.length := (List.getElem?_eq_some_iff.1 hz).1
          have hsz : (a.eval x).cells.size = sz := by simp at gl; omega
          have hfit : i * sz + sz ≤ cells.size := by
            have : (i + 1) * sz ≤ xs.length * sz := Nat.mul_le_mul_right _ hi
            rw [Nat.succ_mul] at this; omega
          have hstep := fill_step (place := fun i => some (i * sz, sz)) (cells := cells) (i := i) (rest := parts.map fun p => (p.1, a.eval p.2)) rfl hsz hfit
          have hget := fun j => splice_get (l := cells.toList) (off := i * sz) (vs := (a.eval x).cells.toList) (by simp; omega) j
          simp only [Array.length_toList, hsz] at hget
          obtain ⟨us, k1, k2, k3, k4⟩ := slice_sound hS hf hpos (parts := parts) (xs := xs.set i y) (cells := (cells.toList.take (i * sz) ++ (a.eval x).cells.toList ++ cells.toList.drop (i * sz + sz)).toArray) hyr hq (fun j w hw => by
            by_cases hij : i = j
            · subst hij
              rw [List.getElem?_set_self hi] at hw
              cases hw
              refine ⟨by omega, fun c q hq' => ?_⟩
              obtain ⟨v, v1, v2⟩ := gg hq'
              have hcs : c < sz := by have := (List.getElem?_eq_some_iff.1 hq').1; omega
              refine ⟨v, ?_, g2 v (List.mem_of_getElem? v1), v2⟩
              show (List.take _ _ ++ _ ++ List.drop _ _)[_]? = some v
              rw [hget, if_neg (by omega), if_pos (by omega), show i * sz + c - i * sz = c from by omega]
              exact v1
            · rw [List.getElem?_set_ne hij] at hw
              obtain ⟨s1, s2⟩ := hr j w hw
              refine ⟨s1, fun c q hq' => ?_⟩
              obtain ⟨v, v1, v2, v3⟩ := s2 c q hq'
              refine ⟨v, ?_, v2, v3⟩
              have hcs : c < sz := by have := (List.getElem?_eq_some_iff.1 hq').1; omega
              show (List.take _ _ ++ _ ++ List.drop _ _)[_]? = some v
              rw [hget]
              rcases Nat.lt_or_gt_of_ne (show j ≠ i from fun e => hij e.symm) with hlt | hgt
              · have := mul_room hlt hcs
                rw [if_pos this]; exact v1
              · have h3 : (i + 1) * sz ≤ j * sz := Nat.mul_le_mul_right _ hgt
                rw [Nat.succ_mul] at h3
                rw [if_neg (by omega), if_neg (by omega)]; exact v1) (by
              simp only [List.size_toArray, List.length_append, List.length_take, List.length_drop, Array.length_toList, hsz, List.length_set]
              omega) (by
              intro u hu
              simp only [List.mem_append] at hu
              rcases hu with (hu | hu) | hu
              · exact h1 u (List.mem_of_mem_take hu)
              · exact g2 u hu
              · exact h1 u (List.mem_of_mem_drop hu))
          exact ⟨us, by simp only [List.map_cons]; rw [hstep]; exact k1, k2, k3, by simpa using k4⟩
        · cases hq
      · cases hq
    · cases hp

/-- A row in a block of its own that no one will turn. -/
theorem fresh_PV (hS : SR E) {us : Array Value} {e : TypeId} {xs : List AV} {sz : Nat} (hpos : 0 < sz) (hr : RowL E us.toList xs sz) (hm : xs.length ≤ maxLen) :
    PV (E.w.alloc (.cells us e)) ({ E with w := E.w.alloc (.cells us e) } : Env).ok (.vs true sz xs) (.slice (some ⟨E.w.heap.size, 0, none⟩) xs.length xs.length) := by
  have hb : Below E.w.heap.size E.w (E.w.alloc (.cells us e)) := (Below.refl _ _).alloc (Nat.le_refl _) _
  have hx := grow_ext hS hb
  simp only [PV]
  refine ⟨_, _, _, rfl, rfl, Nat.le_refl _, hm, fun _ => rfl, ⟨(fun h => nomatch h), ⟨(fun h => nomatch h), fun e => absurd hpos (by omega)⟩⟩, fun _ => ⟨_, _, rfl, hpos, PEls_of fun j x hj => ?_⟩⟩
  obtain ⟨r1, r2⟩ := hr j x hj
  refine ⟨r1, PCells_of fun c y hc => ?_⟩
  obtain ⟨v, v1, v2, v3⟩ := r2 c y hc
  refine ⟨v, ?_, ?_, v2, PV_mono hx.cells _ _ v3⟩
  · refine .inr ⟨hS.basele, by simp, fun i hi => ?_, fun k f hk he => ?_⟩
    · have := (hS.nb_lt hi).2
      show E.nb i ≠ _
      omega
    · have := (hS.im_lt (List.getElem?_eq_some_iff.1 hk).1).2
      have he' : (E.im k).b = E.w.heap.size := he
      omega
  · rw [Nat.zero_add, cell_of_row _ _ _ _ _ _ (heap_alloc_new _ _)]
    simpa using v1

theorem d_bslice {t e : TypeId} {len : Nat} {parts : Array (Nat × Operand)} {z : AV} {n : Nat} {ps : List (Nat × Opd)} {xs : List AV} (hS : SR E) (hf : FR E fr a.tmps) (ho : o.op = .buildSlice t len parts) (hu : P.underlying t = some (.slice e)) (hz : Program.zeroA P e = some z) (hn : Program.size? P e = some n)
    (hpos : 0 < n) (hlim : len * n ≤ 2 ^ 24) (hp : mapO resElem parts.toList = some ps) (hq : sliceParts fr E.h (List.replicate len z) ps = some xs) : Does P a o E (.vs true z.cells.length xs) E.h := by
  have hn' := hn
  unfold Program.size? at hn'
  simp only [Option.map_eq_some_iff] at hn'
  obtain ⟨i, hi, rfl⟩ := hn'
  obtain ⟨zv, h2, hl, h3, hr, h1⟩ := made_RowL (E := E) hz (n := len) hi hpos
  obtain ⟨us, k1, k2, k3, k4⟩ := slice_sound hS hf hpos hp hq hr (by simp [madeCells]) h1
  have hlen : xs.length = len := by simpa using k4
  have hmax : xs.length ≤ maxLen := by
    have : len * 1 ≤ len * i.size := Nat.mul_le_mul_left _ hpos
    rw [hlen]; unfold maxLen; omega
  have hpv := fresh_PV (e := e) hS hpos k2 hmax
  have hb : Below E.w.heap.size E.w (E.w.alloc (.cells us e)) := (Below.refl _ _).alloc (Nat.le_refl _) _
  rw [hl]
  refine ⟨_, .slice (some ⟨E.w.heap.size, 0, none⟩) xs.length xs.length, { E with w := E.w.alloc (.cells us e) }, ?_, .inl rfl, grow_ext hS hb, grow_SR hS hb, rfl, ?_⟩
  · have hsize : (sizeOf e).run P E.w = .ok i.size E.w := run_size hn _
    by_cases h0 : len * i.size = 0
    · have hc0 : madeCells zv.cells (len * i.size) = #[] := by simp [h0, madeCells]
      rw [hc0] at k1
      simp [execOp, ho, Instr.buildSlice, run_under hu, hsize, h0, newRow, hlen, Array.range_zero', k1]
    · simp [execOp, ho, Instr.buildSlice, run_under hu, hsize, h0, show ¬ (16777216 < len * i.size) from by omega, zeroValue, typeInfo, hi, h2, newRow, hlen]
      unfold madeCells at k1
      simp [k1]
  · simp only [VR]
    exact hpv

end
end Go.Abs

/- A slice that is made; append: in place, in a new block, onto nothing. -/
namespace Go.Abs
open Go.RowKit (Below)
section
variable {E : Env} {P : Program} {fr : Fr} {a : Act} {o : Oper}

theorem RowL_FElem {us : Array Value} {xs : List AV} {sz : Nat} (h : RowL E us.toList xs sz) (i : Nat) (x : AV) (hx : xs[i]? = some x) : FElem E us (i * sz) sz x := by
  obtain ⟨h1, h2⟩ := h i x hx
  exact ⟨h1, fun c y hc => by obtain ⟨v, v1, v2, v3⟩ := h2 c y hc; exact ⟨v, by simpa using v1, v2, v3⟩⟩

theorem d_mkslice {t e : TypeId} {l c : Operand} {l' c' : Opd} {z : AV} {i : TypeInfo} {k1 k2 : IntKind} {x y : Int} (hS : SR E) (hf : FR E fr a.tmps) (ho : o.op = .makeSlice t l c) (hu : P.underlying t = some (.slice e)) (hi : P.info? e = some i) (hz : Program.zeroA P e = some z)
    (hpos : 0 < i.size) (hl : resOpd l = some l') (hc : resOpd c = some c') (hx : get fr l' = .int k1 x) (hy : get fr c' = .int k2 y) (h0 : 0 ≤ x) (hxy : x ≤ y) (hb : y * i.bytes ≤ roomA) (hm : y ≤ maxLen) :
    Does P a o E (.sl E.h.fams.length x.toNat 0 x.toNat) { E.h with fams := E.h.fams ++ [⟨List.replicate x.toNat z, z.cells.length, true⟩] } := by
  have e1 := opd_sound hf hl
  have e2 := opd_sound hf hc
  rw [hx] at e1; rw [hy] at e2
  simp only [VR] at e1 e2
  obtain ⟨zv, h2, hzl, h3, hr, h1⟩ := made_RowL (E := E) hz (n := y.toNat) hi hpos
  have hrun := run_make (P := P) E.w t e i zv hu hi h2 k1 k2 x y h0 hxy (by rw [Int.mul_comm]; unfold roomA at hb; omega) (by unfold maxLen at hm; omega)
  have hlen : (List.replicate x.toNat z).length = x.toNat := by simp
  have hel : ∀ (j : Nat) (w : AV), (List.replicate x.toNat z)[j]? = some w → FElem E (madeCells zv.cells (y.toNat * i.size)) (j * z.cells.length) z.cells.length w := by
    intro j w hw
    rw [hzl]
    refine RowL_FElem hr j w ?_
    rw [List.getElem?_replicate] at hw ⊢
    split at hw
    · rename_i hj
      cases hw
      rw [if_pos (by omega)]
    · cases hw
  refine ⟨_, .slice (some ⟨E.w.heap.size, 0, none⟩) x.toNat y.toNat, E.newFam (madeCells zv.cells (y.toNat * i.size)) e y.toNat ⟨List.replicate x.toNat z, z.cells.length, true⟩, ?_, .inl rfl, newFam_ext hS _ _ _ _,
    newFam_SR hS (by simpa [hzl] using hpos) (by simp; omega) (by omega) (by simp [size_madeCells, hzl]) hel, rfl, ?_⟩
  · simp only [execOp, ho, e1, e2, Sem.run_bind, hrun, Result.andThen_ok, Sem.run_pure, Env.newFam]
  · simp only [VR, Env.newFam, upd_same]
    refine ⟨_, _, ⟨List.replicate x.toNat z, z.cells.length, true⟩, rfl, by simp, by simp, fun _ => ⟨Nat.zero_le _, by simp, by simp, (fun h => nomatch h), fun _ => by simp⟩⟩

/-! ### The source of an append -/

theorem div_cut {n sz j : Nat} (hsz : 0 < sz) (hj : j < n * sz) : j / sz < n ∧ j % sz < sz ∧ j / sz * sz + j % sz = j :=
  ⟨Nat.div_lt_of_lt_mul (by rwa [Nat.mul_comm]), Nat.mod_lt _ hsz, by rw [Nat.mul_comm]; exact Nat.div_add_mod j sz⟩

/-- Elements in memory, one behind the other. -/
def MemRow (E : Env) (b q sz : Nat) (ys : List AV) : Prop :=
  ∀ (i : Nat) (x : AV), ys[i]? = some x → x.cells.length = sz ∧ ∀ (c : Nat) (y : AV), x.cells[c]? = some y → ∃ v, E.w.cell? ⟨b, q + i * sz + c, none⟩ = some v ∧ v.oneCell' = true ∧ PV E.w E.ok y v

theorem MemRow_list {b q sz : Nat} {ys : List AV} (hsz : 0 < sz) (h : MemRow E b q sz ys) :
    ∃ news : List Value, news.length = ys.length * sz ∧ (∀ (j : Nat) (u : Value), news[j]? = some u → E.w.cell? ((⟨b, q, none⟩ : Addr).add j) = some u) ∧ (∀ u ∈ news, u.oneCell' = true) ∧ RowL E news ys sz := by
  have hex : ∀ j, j < ys.length * sz → ∃ u, E.w.cell? ⟨b, q + j, none⟩ = some u ∧ u.oneCell' = true ∧ ∃ y x, ys[j / sz]? = some x ∧ x.cells[j % sz]? = some y ∧ PV E.w E.ok y u := by
    intro j hj
    obtain ⟨h1, h2, h3⟩ := div_cut hsz hj
    obtain ⟨g1, g2⟩ := h (j / sz) _ (List.getElem?_eq_getElem h1)
    obtain ⟨v, v1, v2, v3⟩ := g2 (j % sz) _ (List.getElem?_eq_getElem (by omega))
    rw [show q + j / sz * sz + j % sz = q + j from by omega] at v1
    exact ⟨v, v1, v2, _, _, List.getElem?_eq_getElem h1, List.getElem?_eq_getElem _, v3⟩
  have hpick : ∃ g : Nat → Value, ∀ j, j < ys.length * sz → E.w.cell? ⟨b, q + j, none⟩ = some (g j) ∧ (g j).oneCell' = true ∧ ∃ y x, ys[j / sz]? = some x ∧ x.cells[j % sz]? = some y ∧ PV E.w E.ok y (g j) := by
    refine ⟨fun j => if hj : j < ys.length * sz then Classical.choose (hex j hj) else default, fun j hj => ?_⟩
    simp only [hj, dif_pos]
    exact Classical.choose_spec (hex j hj)
  obtain ⟨g, hg⟩ := hpick
  refine ⟨(List.range (ys.length * sz)).map g, by simp, fun j u hu => ?_, fun u hu => ?_, fun i x hx => ?_⟩
  · rw [List.getElem?_map] at hu
    by_cases hj : j < ys.length * sz
    · rw [List.getElem?_range hj] at hu
      simp at hu; subst hu
      rw [add_addr]; exact (hg j hj).1
    · rw [List.getElem?_eq_none (by simpa using hj)] at hu; simp at hu
  · simp at hu
    obtain ⟨j, hj, rfl⟩ := hu
    exact (hg j hj).2.1
  · obtain ⟨g1, g2⟩ := h i x hx
    refine ⟨g1, fun c y hc => ?_⟩
    obtain ⟨v, v1, v2, v3⟩ := g2 c y hc
    have hi : i < ys.length := (List.getElem?_eq_some_iff.1 hx).1
    have hcs : c < sz := by have := (List.getElem?_eq_some_iff.1 hc).1; omega
    have hlt := mul_room hi hcs
    refine ⟨v, ?_, v2, v3⟩
    rw [List.getElem?_map, List.getElem?_range hlt]
    have := (hg _ hlt).1
    rw [show q + (i * sz + c) = q + i * sz + c from by omega] at this
    rw [this] at v1
    simpa using v1

theorem elems_sound (hS : SR E) {sz : Nat} (hsz : 0 < sz) {x : AV} {v : Value} {ys : List AV} (hv : VR E x v) (h : elems E.h sz x = some ys) :
    ∃ ad c, v = .slice ad ys.length c ∧ (ad = none → ys.length = 0) ∧ (ys ≠ [] → ∃ b q, ad = some ⟨b, q, none⟩ ∧ MemRow E b q sz ys) := by
  unfold elems at h
  split at h
  · rename_i full z xs
    split at h
    · rename_i hz
      cases h
      simp only [VR, PV] at hv
      obtain ⟨ad, len, cap, rfl, rfl, h2, h3, h4, h5, h6⟩ := hv
      refine ⟨ad, cap, rfl, fun hn => by have := h5.1 hn; omega, fun hne => ?_⟩
      obtain ⟨b, q, rfl, _, hels⟩ := h6 hne
      have : z = sz := by
        rcases hz with hz | hz
        · exact hz
        · exact absurd (List.eq_nil_of_length_eq_zero hz) hne
      subst this
      refine ⟨b, q, rfl, fun i x hx => ?_⟩
      obtain ⟨p1, p2⟩ := PEls_get hels hx
      refine ⟨p1, fun c y hc => ?_⟩
      obtain ⟨u, _, u2, u3, u4⟩ := PCells_get p2 hc
      exact ⟨u, u2, u3, u4⟩
    · cases h
  · rename_i k n off len
    split at h
    · rename_i f hfk
      split at h
      · rename_i hc
        cases h
        obtain ⟨hn, hz, ho⟩ := hc
        simp only [VR] at hv
        obtain ⟨ad, cap, f', rfl, hf', _, hcc⟩ := hv
        have : f' = f := by rw [hfk] at hf'; simpa using hf'.symm
        subst this
        obtain ⟨l1, l2, l3, l4, l5⟩ := hcc hn
        have hF := hS.fams k f' hfk
        have hroom := hF.room
        have hlen : ((f'.xs.drop off).take len).length = len := by simp; omega
        refine ⟨ad, cap, by rw [hlen], fun h => absurd h l4, fun hne => ?_⟩
        have hpos : 0 < len := by
          rcases Nat.eq_zero_or_pos len with h0 | h0
          · subst h0; simp at hne
          · exact h0
        refine ⟨_, _, l5 (by omega), fun i x hx => ?_⟩
        have hi : i < len := by have := (List.getElem?_eq_some_iff.1 hx).1; omega
        have hx' : f'.xs[off + i]? = some x := by
          rw [List.getElem?_take, if_pos hi, List.getElem?_drop] at hx; exact hx
        obtain ⟨cur, t, c1, c2, c3⟩ := hF.cells
        obtain ⟨e1, e2⟩ := c3 (off + i) x (by omega) hx'
        refine ⟨by omega, fun c y hc => ?_⟩
        obtain ⟨u, u1, u2, u3⟩ := e2 c y hc
        refine ⟨u, ?_, u2, u3⟩
        rw [cell_of_row _ _ _ _ _ _ c1]
        rw [show (E.im k).o + (off - (E.im k).lo) * f'.sz + i * sz + c = (E.im k).o + (off + i - (E.im k).lo) * f'.sz + c from by
          rw [show off + i - (E.im k).lo = (off - (E.im k).lo) + i from by omega, Nat.add_mul, hz]; omega]
        exact u1
      · cases h
    · cases h
  · cases h

/-! ### Append in the model -/

theorem run_append_zero (t ty e : TypeId) (i : TypeInfo) (ht : P.underlying t = some (.slice e)) (hi : P.info? e = some i) (base ad : Option Addr) (n c m : Nat) (hnc : n ≤ c) (w : World) :
    (Builtin.append_ #[t, t] ty #[.slice base n c, .slice ad 0 m]).run P w = .ok (.slice base n c) w := by
  have hf : (Builtin.firstCells i.size 0 (.slice ad 0 m)).run P w = .ok #[] w := by
    cases ad <;> simp [Builtin.firstCells, loadCells, loadCellsFrom]
  cases base <;> simp [Builtin.append_, run_underlying ht, sizeOf, typeInfo, hi, Builtin.lenOf, hnc, hf, storeCells]

theorem run_append_in (t ty e : TypeId) (i : TypeInfo) (ht : P.underlying t = some (.slice e)) (hi : P.info? e = some i)
    (g q sLen sCap : Nat) (cur : Array Value) (t' : TypeId) (w : World) (hg : w.heap[g]? = some (.cells cur t' (0, 0)))
    (a : Addr) (m c : Nat) (news : List Value) (hl : news.length = m * i.size) (hnews : ∀ j u, news[j]? = some u → w.cell? (a.add j) = some u) (h1 : ∀ u ∈ news, u.oneCell' = true)
    (hroom : sLen + m ≤ sCap) (hfit : q + sLen * i.size + news.length ≤ cur.size) :
    (Builtin.append_ #[t, t] ty #[.slice (some ⟨g, q, none⟩) sLen sCap, .slice (some a) m c]).run P w =
      .ok (.slice (some ⟨g, q, none⟩) (sLen + m) sCap) (w.setRow g (cur.toList.take (q + sLen * i.size) ++ news ++ cur.toList.drop (q + sLen * i.size + news.length)).toArray) := by
  have hf := run_firstCells_some (P := P) w i.size m a m c news hl hnews
  have hst := run_storeCells_at P g (q + sLen * i.size) t' news 0 cur w hg (by simpa using hfit) h1
  simp only [Nat.add_zero] at hst
  simp [Builtin.append_, run_underlying ht, sizeOf, typeInfo, hi, Builtin.lenOf, hroom, hf, add_addr, hst]

theorem drew_below {B : Nat} (w : World) : Below B w w.drew := (Below.refl B w).drew

theorem RowL_append {us vs : List Value} {xs ys : List AV} {sz : Nat} (h1 : RowL E us xs sz) (hl : us.length = xs.length * sz) (h2 : RowL E vs ys sz) : RowL E (us ++ vs) (xs ++ ys) sz := by
  intro i x hx
  by_cases hi : i < xs.length
  · rw [List.getElem?_append_left hi] at hx
    obtain ⟨g1, g2⟩ := h1 i x hx
    refine ⟨g1, fun c y hc => ?_⟩
    obtain ⟨v, v1, v2⟩ := g2 c y hc
    exact ⟨v, by rw [List.getElem?_append_left (List.getElem?_eq_some_iff.1 v1).1]; exact v1, v2⟩
  · rw [List.getElem?_append_right (by omega)] at hx
    obtain ⟨g1, g2⟩ := h2 _ x hx
    refine ⟨g1, fun c y hc => ?_⟩
    obtain ⟨v, v1, v2⟩ := g2 c y hc
    refine ⟨v, ?_, v2⟩
    have : xs.length * sz ≤ i * sz := Nat.mul_le_mul_right _ (by omega)
    rw [List.getElem?_append_right (by omega), hl, show i * sz + c - xs.length * sz = (i - xs.length) * sz + c from by rw [Nat.sub_mul]; omega]
    exact v1

theorem RowL_more {us vs : List Value} {xs : List AV} {sz : Nat} (h1 : RowL E us xs sz) : RowL E (us ++ vs) xs sz := by
  intro i x hx
  obtain ⟨g1, g2⟩ := h1 i x hx
  refine ⟨g1, fun c y hc => ?_⟩
  obtain ⟨v, v1, v2⟩ := g2 c y hc
  exact ⟨v, by rw [List.getElem?_append_left (List.getElem?_eq_some_iff.1 v1).1]; exact v1, v2⟩

theorem RowL_ext {E' : Env} (h : Ext E E') {us : List Value} {xs : List AV} {sz : Nat} (h1 : RowL E us xs sz) : RowL E' us xs sz := by
  intro i x hx
  obtain ⟨g1, g2⟩ := h1 i x hx
  refine ⟨g1, fun c y hc => ?_⟩
  obtain ⟨v, v1, v2, v3⟩ := g2 c y hc
  exact ⟨v, v1, v2, PV_mono h.cells _ _ v3⟩

end
end Go.Abs

/- Append: what it does to the abstract heap is what it does to memory. -/
namespace Go.Abs
open Go.RowKit (Below)
section
variable {E : Env} {P : Program} {fr : Fr} {a : Act} {o : Oper}

theorem exec_append {args : Array Operand} {ats : Array TypeId} {s x : Operand} {t : TypeId} (ho : o.op = .call { callee := .builtin .append, args := args, argTypes := ats }) (h1 : args.toList = [s, x]) (h2 : ats.toList = [t, t]) {v : Value} {w w' : World}
    (h : (Builtin.append_ #[t, t] o.type #[a.eval s, a.eval x]).run P w = .ok v w') : (execOp a.eval o).run P w = .ok (.value v) w' := by
  rw [arr_two h1, arr_two h2] at ho
  simp only [execOp, ho, resolve, invoke, builtin, Sem.run_bind, Sem.run_pure, Result.andThen_ok, List.map_toArray, List.map_cons, List.map_nil, h]

theorem grown_row {us : List Value} {xs : List AV} {sz n cap : Nat} (hr : RowL E us xs sz) (hl : us.length = n * sz) (z : Array Value) (hz : z.size = sz) (hcap : n ≤ cap) :
    RowL E (us.toArray ++ Builtin.zeroCells z (cap - n)).toList xs sz ∧ cap * sz ≤ (us.toArray ++ Builtin.zeroCells z (cap - n)).size := by
  refine ⟨?_, ?_⟩
  · rw [Array.toList_append]
    exact RowL_more hr
  · rw [Array.size_append, size_zeroCells, hz, List.size_toArray, hl, ← Nat.add_mul]
    exact Nat.mul_le_mul_right _ (by omega)

/-- An append that makes a new block: onto nothing, or onto a row that has no room. -/
theorem run_append_new {t ty e : TypeId} {i : TypeInfo} {z : Value} (ht : P.underlying t = some (.slice e)) (hi : P.info? e = some i) (hz : i.zero = some z) (hzs : z.cells.size = i.size)
    {base : Option Addr} {n cap : Nat} {olds : List Value} {xs : List AV} (hb : base = none → cap = 0) (hnc : n ≤ cap) (hold : olds.length = n * i.size) (hxs : xs.length = n)
    (holds : ∀ b, base = some b → ∀ (j : Nat) (u : Value), olds[j]? = some u → E.w.cell? (b.add j) = some u) (hro : RowL E olds xs i.size)
    {ad : Addr} {ys : List AV} {c : Nat} {news : List Value} (hl : news.length = ys.length * i.size) (hnews : ∀ (j : Nat) (u : Value), news[j]? = some u → E.w.cell? (ad.add j) = some u) (hrn : RowL E news ys i.size)
    (hg : cap < n + ys.length) (hm : n + ys.length ≤ maxLen) (hbytes : (n + ys.length) * i.bytes ≤ roomA) :
    ∃ us newCap, (Builtin.append_ #[t, t] ty #[.slice base n cap, .slice (some ad) ys.length c]).run P E.w = .ok (.slice (some ⟨E.w.heap.size, 0, none⟩) (n + ys.length) newCap) (E.w.drew.alloc (.cells us e)) ∧
      n + ys.length ≤ newCap ∧ newCap ≤ maxLen ∧ newCap * i.size ≤ us.size ∧ RowL E us.toList (xs ++ ys) i.size := by
  have hfit := growslice_fits hg hbytes
  have h63 : ((n + ys.length : Nat) : Int) ≤ 9223372036854775807 := by unfold maxLen at hm; omega
  refine ⟨(olds ++ news).toArray ++ Builtin.zeroCells z.cells (grownCap E.w (n + ys.length) cap e - (n + ys.length)), grownCap E.w (n + ys.length) cap e, ?_, grownCap_ge _ _ _ _, grownCap_le_maxLen _ _ _ _ hm, ?_, ?_⟩
  rotate_left 1
  · exact (grown_row (us := olds ++ news) (xs := xs ++ ys) (n := n + ys.length) (RowL_append hro (by rw [hold, hxs]) hrn) (by rw [List.length_append, hold, hl, Nat.add_mul]) z.cells hzs (grownCap_ge E.w _ cap e)).2
  · exact (grown_row (us := olds ++ news) (xs := xs ++ ys) (n := n + ys.length) (RowL_append hro (by rw [hold, hxs]) hrn) (by rw [List.length_append, hold, hl, Nat.add_mul]) z.cells hzs (grownCap_ge E.w _ cap e)).1
  · cases base with
    | none =>
      have hc := hb rfl
      subst hc
      have hn0 : n = 0 := by omega
      subst hn0
      have ho0 : olds = [] := List.eq_nil_of_length_eq_zero (by simpa using hold)
      subst ho0
      have := run_append_nil (P := P) E.w t ty e i z ht hi hz ad ys.length c news hl hnews (by omega) (by simpa using h63) (by simp at hbytes; unfold roomA at hbytes; omega)
      simpa using this
    | some b =>
      have := run_append_grow (P := P) E.w t ty e i z ht hi hz b n cap olds hold (holds b rfl) ad ys.length c news hl hnews hg h63 hfit
      rw [this]
      simp

theorem drew_ext (hS : SR E) : Ext E { E with w := E.w.drew } := grow_ext hS (drew_below _)
theorem drew_SR (hS : SR E) : SR { E with w := E.w.drew } := grow_SR hS (drew_below _)

theorem d_app_full {c : Ctx} {args : Array Operand} {ats : Array TypeId} {s x : Operand} {s' x' : Opd} {t e : TypeId} {i : TypeInfo} {z : AV} {z0 : Nat} {xs ys : List AV} (hS : SR E) (hf : FR E fr a.tmps)
    (ho : o.op = .call { callee := .builtin .append, args := args, argTypes := ats }) (h1 : args.toList = [s, x]) (h2 : ats.toList = [t, t]) (ht : P.underlying t = some (.slice e)) (hi : P.info? e = some i) (hz : Program.zeroA P e = some z) (hpos : 0 < i.size)
    (hs : resOpd s = some s') (hx : resOpd x = some x') (hg : get fr s' = .vs true z0 xs) (hys : elems E.h i.size (get fr x') = some ys) (hne : ys.length ≠ 0) (hz0 : z0 = i.size ∨ xs.length = 0)
    (hb : (xs.length + ys.length) * i.bytes ≤ roomA) (hm : xs.length + ys.length ≤ maxLen) :
    Does P a o E (.sl E.h.fams.length (xs.length + ys.length) 0 (xs.length + ys.length)) { E.h with fams := E.h.fams ++ [⟨xs ++ ys, i.size, c.mutApp⟩] } := by
  obtain ⟨i', zv, q1, q2, q3, q4, q5⟩ := zeroA_spec hz
  rw [hi] at q1; cases q1
  have e1 := opd_sound hf hs
  rw [hg] at e1
  simp only [VR, PV] at e1
  obtain ⟨base, len, cap, e2, rfl, e4, e5, e6, e7, e8⟩ := e1
  have ecap : cap = xs.length := e6 trivial
  obtain ⟨ad, cx, f1, f2, f3⟩ := elems_sound hS hpos (opd_sound hf hx) hys
  obtain ⟨b, q, rfl, f4⟩ := f3 (by intro h; subst h; simp at hne)
  obtain ⟨news, n1, n2, _, n4⟩ := MemRow_list hpos f4
  have hold : ∃ olds : List Value, olds.length = xs.length * i.size ∧ (∀ b, base = some b → ∀ (j : Nat) (u : Value), olds[j]? = some u → E.w.cell? (b.add j) = some u) ∧ RowL E olds xs i.size := by
    by_cases hxe : xs = []
    · subst hxe
      exact ⟨[], by simp, fun b _ j u h => by simp at h, fun j x h => by simp at h⟩
    · obtain ⟨b', q', rfl, _, hels⟩ := e8 hxe
      have : z0 = i.size := by
        rcases hz0 with h | h
        · exact h
        · exact absurd (List.eq_nil_of_length_eq_zero h) hxe
      subst this
      obtain ⟨olds, o1, o2, _, o4⟩ := MemRow_list (E := E) (b := b') (q := q') hpos (ys := xs) (fun j x hj => by
        obtain ⟨p1, p2⟩ := PEls_get hels hj
        refine ⟨p1, fun c y hc => ?_⟩
        obtain ⟨u, _, u2, u3, u4⟩ := PCells_get p2 hc
        exact ⟨u, u2, u3, u4⟩)
      exact ⟨olds, o1, fun b'' hb'' => by cases hb''; exact o2, o4⟩
  obtain ⟨olds, o1, o2, o3⟩ := hold
  obtain ⟨us, newCap, r1, r2, r3, r4, r5⟩ := run_append_new (P := P) (ty := o.type) ht hi q2 q3 e7.1 e4 o1 rfl o2 o3 n1 n2 n4 (c := cx) (by omega) hm hb
  have hE1 := drew_SR hS
  have hx1 := drew_ext hS
  refine ⟨_, .slice (some ⟨E.w.heap.size, 0, none⟩) (xs.length + ys.length) newCap, ({ E with w := E.w.drew } : Env).newFam us e newCap ⟨xs ++ ys, i.size, c.mutApp⟩, ?_, .inl rfl, hx1.trans (newFam_ext hE1 _ _ _ _),
    newFam_SR hE1 hpos (by simpa using r2) r3 r4 (fun j x hj => RowL_FElem (RowL_ext hx1 r5) j x hj), rfl, ?_⟩
  · refine exec_append ho h1 h2 ?_
    rw [e2, f1, r1]
    rfl
  · simp only [VR, Env.newFam, upd_same]
    exact ⟨_, _, ⟨xs ++ ys, i.size, c.mutApp⟩, rfl, by simp, by simp, fun _ => ⟨Nat.zero_le _, by simp, by simp, (fun h => nomatch h), fun _ => by simp⟩⟩

theorem set_same {α : Type} {l : List α} {k : Nat} {x : α} (h : l[k]? = some x) : l.set k x = l := by
  apply List.ext_getElem?
  intro j
  rw [List.getElem?_set]
  split
  · rename_i hj; subst hj
    have := (List.getElem?_eq_some_iff.1 h).1
    rw [if_pos this]; exact h.symm
  · rfl

theorem d_app_row {args : Array Operand} {ats : Array TypeId} {s x : Operand} {s' x' : Opd} {t e : TypeId} {i : TypeInfo} {z : AV} {k n off len : Nat} {f : Fam} {ys : List AV} (hS : SR E) (hf : FR E fr a.tmps)
    (ho : o.op = .call { callee := .builtin .append, args := args, argTypes := ats }) (h1 : args.toList = [s, x]) (h2 : ats.toList = [t, t]) (ht : P.underlying t = some (.slice e)) (hi : P.info? e = some i) (hz : Program.zeroA P e = some z) (hpos : 0 < i.size)
    (hs : resOpd s = some s') (hx : resOpd x = some x') (hg : get fr s' = .sl k n off len) (hys : elems E.h i.size (get fr x') = some ys) (hfk : E.h.fams[k]? = some f) (hn : f.xs.length = n) (hsz : f.sz = i.size) (hoff : off + len = n)
    (hb : (n + ys.length) * i.bytes ≤ roomA) (hm : n + ys.length ≤ maxLen) :
    Does P a o E (.sl k (n + ys.length) off (len + ys.length)) { E.h with fams := E.h.fams.set k { f with xs := f.xs ++ ys } } := by
  obtain ⟨i', zv, q1, q2, q3, q4, q5⟩ := zeroA_spec hz
  rw [hi] at q1; cases q1
  have e1 := opd_sound hf hs
  rw [hg] at e1
  have e1' := e1
  simp only [VR] at e1
  obtain ⟨base, cap, f', e2, hf', e4, e5⟩ := e1
  have : f' = f := by rw [hfk] at hf'; simpa using hf'.symm
  subst this
  obtain ⟨l1, l2, l3, l4, l5⟩ := e5 hn
  have hF := hS.fams k f' hfk
  have hroom := hF.room
  have hk' := (List.getElem?_eq_some_iff.1 hfk).1
  obtain ⟨ad, cx, f1, f2, f3⟩ := elems_sound hS hpos (opd_sound hf hx) hys
  have hlencap : len ≤ cap := by omega
  by_cases h0 : ys = []
  · subst h0
    have hset : E.h.fams.set k { f' with xs := f'.xs ++ [] } = E.h.fams := set_same (by rw [List.append_nil]; exact hfk)
    refine ⟨_, .slice base len cap, E, exec_append ho h1 h2 ?_, .inl rfl, Ext.refl E, hS, by rw [hset], by rw [e2] at e1'; simpa using e1'⟩
    rw [e2, f1]
    exact run_append_zero t _ e i ht hi base ad len cap cx hlencap E.w
  have hylen : 0 < ys.length := by
    rcases Nat.eq_zero_or_pos ys.length with h | h
    · exact absurd (List.eq_nil_of_length_eq_zero h) h0
    · exact h
  obtain ⟨b, q, rfl, f4⟩ := f3 h0
  obtain ⟨news, n1, n2, n3, n4⟩ := MemRow_list hpos f4
  by_cases hin : len + ys.length ≤ cap
  · -- there is room
    have hbase := l5 (by omega)
    obtain ⟨cur, t', c1, c2, c3⟩ := hF.cells
    have hnl : off - (E.im k).lo + len = n - (E.im k).lo := by omega
    have epos : (E.im k).o + (off - (E.im k).lo) * f'.sz + len * i.size = (E.im k).o + (n - (E.im k).lo) * f'.sz := by
      rw [← hnl, Nat.add_mul, hsz]; omega
    have hfit : (E.im k).o + (n - (E.im k).lo) * f'.sz + news.length ≤ cur.size := by
      have h3 : (n - (E.im k).lo + ys.length) * f'.sz ≤ (E.im k).cap * f'.sz := Nat.mul_le_mul_right _ (by omega)
      rw [Nat.add_mul] at h3
      rw [n1, ← hsz]; omega
    have hrun := run_append_in (P := P) t o.type e i ht hi (E.im k).b ((E.im k).o + (off - (E.im k).lo) * f'.sz) len cap cur t' E.w c1 ⟨b, q, none⟩ ys.length cx news n1 n2 n3 hin (by rw [epos]; exact hfit)
    rw [epos] at hrun
    obtain ⟨us, hus⟩ : ∃ us : Array Value, us = (cur.toList.take ((E.im k).o + (n - (E.im k).lo) * f'.sz) ++ news ++ cur.toList.drop ((E.im k).o + (n - (E.im k).lo) * f'.sz + news.length)).toArray := ⟨_, rfl⟩
    rw [← hus] at hrun
    have hget : ∀ j : Nat, us[j]? = if j < (E.im k).o + (n - (E.im k).lo) * f'.sz then cur[j]? else if j < (E.im k).o + (n - (E.im k).lo) * f'.sz + news.length then news[j - ((E.im k).o + (n - (E.im k).lo) * f'.sz)]? else cur[j]? := by
      intro j
      have := splice_get (l := cur.toList) (off := (E.im k).o + (n - (E.im k).lo) * f'.sz) (vs := news) (by simpa using hfit) j
      simp only [Array.getElem?_toList] at this
      rw [hus, List.getElem?_toArray, this]
    have hkeep : f'.wr = false → ∀ j, j < (E.im k).o + (f'.xs.length - (E.im k).lo) * f'.sz → us[j]? = cur[j]? := by
      intro _ j hj
      rw [hn] at hj
      rw [hget, if_pos hj]
    refine ⟨_, .slice base (len + ys.length) cap, E.setFam k us { f' with xs := f'.xs ++ ys }, exec_append ho h1 h2 ?_, .inl rfl, setFam_ext hS hfk c1 rfl rfl (by simp) hkeep,
      setFam_SR hS hfk c1 rfl rfl (by simp) hkeep (by simp; omega) (by rw [hus]; simp; omega) ?_, rfl, ?_⟩
    · rw [e2, f1, hbase, hrun]
      rfl
    · intro j x' hj hx'
      have hx'' : (f'.xs ++ ys)[j]? = some x' := hx'
      by_cases hjn : j < n
      · rw [List.getElem?_append_left (by omega)] at hx''
        obtain ⟨g1, g2⟩ := c3 j x' hj hx''
        refine ⟨g1, fun c y hc => ?_⟩
        obtain ⟨v, v1, v2⟩ := g2 c y hc
        have hcs : c < f'.sz := by have := (List.getElem?_eq_some_iff.1 hc).1; omega
        have := mul_room (show j - (E.im k).lo < n - (E.im k).lo by omega) hcs
        exact ⟨v, by rw [hget, if_pos (by omega)]; exact v1, v2⟩
      · rw [List.getElem?_append_right (by omega), hn] at hx''
        obtain ⟨g1, g2⟩ := n4 _ x' hx''
        refine ⟨by omega, fun c y hc => ?_⟩
        obtain ⟨v, v1, v2⟩ := g2 c y hc
        have hcs : c < f'.sz := by have := (List.getElem?_eq_some_iff.1 hc).1; omega
        have hjy : j - n < ys.length := by have := (List.getElem?_eq_some_iff.1 hx'').1; omega
        have h5 := mul_room hjy hcs
        have ej : (j - (E.im k).lo) * f'.sz = (n - (E.im k).lo) * f'.sz + (j - n) * f'.sz := by
          rw [← Nat.add_mul]; congr 1; omega
        refine ⟨v, ?_, v2⟩
        rw [hget, ej, if_neg (by omega), if_pos (by rw [n1, ← hsz]; omega)]
        rw [show (E.im k).o + ((n - (E.im k).lo) * f'.sz + (j - n) * f'.sz) + c - ((E.im k).o + (n - (E.im k).lo) * f'.sz) = (j - n) * i.size + c from by rw [← hsz]; omega]
        exact v1
    · simp only [VR, Env.setFam]
      refine ⟨base, cap, { f' with xs := f'.xs ++ ys }, rfl, by simp [hk'], by simp [hn], fun _ => ⟨l1, by omega, l3, l4, l5⟩⟩
  · -- there is none
    have hold : ∃ olds : List Value, olds.length = len * i.size ∧ (∀ b, base = some b → ∀ (j : Nat) (u : Value), olds[j]? = some u → E.w.cell? (b.add j) = some u) ∧ RowL E olds ((f'.xs.drop off).take len) i.size := by
      have hll : ((f'.xs.drop off).take len).length = len := by simp; omega
      by_cases hl0 : len = 0
      · subst hl0
        exact ⟨[], by simp, fun b _ j u h => by simp at h, fun j x h => by simp at h⟩
      · obtain ⟨ad', cx', g1, g2, g3⟩ := elems_sound hS (sz := i.size) hpos e1' (ys := (f'.xs.drop off).take len) (by simp only [elems, hfk]; rw [if_pos ⟨hn, hsz, by omega⟩])
        obtain ⟨b', q', rfl, g4⟩ := g3 (by intro h; rw [h] at hll; simp at hll; omega)
        obtain ⟨olds, o1, o2, _, o4⟩ := MemRow_list hpos g4
        rw [e2] at g1
        have : base = some ⟨b', q', none⟩ := by simp at g1; exact g1.1
        subst this
        exact ⟨olds, by rw [o1, hll], fun b'' hb'' => by cases hb''; exact o2, o4⟩
    obtain ⟨olds, o1, o2, o3⟩ := hold
    have hll : ((f'.xs.drop off).take len).length = len := by simp; omega
    obtain ⟨us, newCap, r1, r2, r3, r4, r5⟩ := run_append_new (P := P) (ty := o.type) ht hi q2 q3 (fun e => absurd e l4) hlencap o1 hll o2 o3 n1 n2 n4 (c := cx) (by omega) (by omega) (by
      refine Nat.le_trans (Nat.mul_le_mul_right _ ?_) hb
      omega)
    have hE1 := drew_SR hS
    have hx1 := drew_ext hS
    refine ⟨_, .slice (some ⟨E.w.heap.size, 0, none⟩) (len + ys.length) newCap, ({ E with w := E.w.drew } : Env).moveFam k us e off newCap { f' with xs := f'.xs ++ ys }, exec_append ho h1 h2 ?_, .inl rfl,
      hx1.trans (moveFam_ext hE1 hfk _ _ _ _ rfl (by simp; omega)),
      moveFam_SR hE1 hfk rfl (by simp; omega) (by simp; omega) (by simp; omega) r3 (by rw [hsz]; exact r4) ?_, rfl, ?_⟩
    · rw [e2, f1, r1]
      rfl
    · intro j x' hj hx'
      have hx'' : (f'.xs ++ ys)[j]? = some x' := hx'
      rw [hsz]
      refine RowL_FElem (RowL_ext hx1 r5) (j - off) x' ?_
      by_cases hjn : j < n
      · rw [List.getElem?_append_left (by omega)] at hx''
        rw [List.getElem?_append_left (by omega), List.getElem?_take, if_pos (by omega), List.getElem?_drop, show off + (j - off) = j from by omega]
        exact hx''
      · rw [List.getElem?_append_right (by omega)] at hx''
        rw [List.getElem?_append_right (by omega), hll, show j - off - len = j - f'.xs.length from by omega]
        exact hx''
    · simp only [VR, Env.moveFam, upd_same]
      refine ⟨_, _, { f' with xs := f'.xs ++ ys }, rfl, by simp [hk'], by simp [hn], fun _ => ⟨Nat.le_refl _, by omega, by omega, (fun h => nomatch h), fun _ => by simp⟩⟩

end
end Go.Abs

namespace Go.Abs
open Go.RowKit (Below)
section
variable {E : Env} {P : Program} {fr : Fr} {a : Act} {o : Oper} {O : Orc} {c : Ctx}

def ROp.isCall : ROp → Bool
  | .call .. | .callv .. => true
  | _ => false

theorem reform_ok {el z : AV} {cs : List AV} (h : el.reform cs = some z) (hl : cs.length = el.cells.length) (hf : ∀ x ∈ cs, x.cells = [x] ∨ ∃ aas, el = .agg aas) : z.cells = cs := by
  cases el <;> simp only [AV.reform] at h
  case agg => cases h; rfl
  all_goals
    simp only [AV.cells, List.length_cons, List.length_nil] at hl
    cases cs with
    | nil => simp at hl
    | cons c r =>
      have hr : r = [] := by simpa using hl
      subst hr
      simp at h
      subst h
      rcases hf c (by simp) with h' | ⟨aas, h'⟩
      · exact h'
      · cases h'

theorem op_does (hS : SR E) (hf : FR E fr a.tmps) {r r0 : ROp} (hr : resOp P o.op = some r0) (hlax : r = r0 ∨ r = r0.lax) {v : AV} {h' : AH} (hev : evalOp O c r fr E.h = some (v, h')) (hnc : r.isCall = false) : Does P a o E v h' := by
  cases hop : o.op with
  | move x =>
    rw [hop] at hr; simp only [resOp, Option.map_eq_some_iff] at hr
    obtain ⟨y, hy, rfl⟩ := hr
    obtain rfl : r = .mov y := by rcases hlax with h | h <;> exact h
    simp only [evalOp] at hev; cases hev
    exact (q_mov hf (.inl hop) hy).does hS
  | assign x =>
    rw [hop] at hr; simp only [resOp, Option.map_eq_some_iff] at hr
    obtain ⟨y, hy, rfl⟩ := hr
    obtain rfl : r = .mov y := by rcases hlax with h | h <;> exact h
    simp only [evalOp] at hev; cases hev
    exact (q_mov hf (.inr hop) hy).does hS
  | pick q x y =>
    rw [hop] at hr; simp only [resOp] at hr
    split at hr
    · rename_i q' x' y' h1 h2 h3
      cases hr
      obtain rfl : r = .pick q' x' y' := by rcases hlax with h | h <;> exact h
      simp only [evalOp] at hev
      split at hev
      · rename_i t ht
        cases hev
        exact (q_pick hf hop h1 h2 h3 ht).does hS
      · cases hev
    · cases hr
  | alloc t =>
    rw [hop] at hr; simp only [resOp, Option.map_eq_some_iff] at hr
    obtain ⟨z, hz, rfl⟩ := hr
    obtain rfl : r = .alloc z := by rcases hlax with h | h <;> exact h
    simp only [evalOp] at hev; cases hev
    exact d_alloc hS hop hz
  | box t x =>
    rw [hop] at hr; simp only [resOp, Option.map_eq_some_iff] at hr
    obtain ⟨y, hy, rfl⟩ := hr
    obtain rfl : r = .box y := by rcases hlax with h | h <;> exact h
    simp only [evalOp] at hev
    split at hev
    · cases hev
    · rename_i ht
      cases hev
      exact d_box hS hf hop hy (by simpa using ht)
  | build t parts =>
    rw [hop] at hr; simp only [resOp] at hr
    split at hr
    · rename_i fs zs hu hz
      split at hr
      · rename_i hs
        simp only [Option.map_eq_some_iff] at hr
        obtain ⟨ps, hp, rfl⟩ := hr
        obtain rfl : r = .build (.agg zs) ps := by rcases hlax with h | h <;> exact h
        simp only [evalOp, AV.cells] at hev
        split at hev
        · rename_i qs hq
          cases hev
          exact (q_build hf hop hu hz hs hp hq).does hS
        · cases hev
      · cases hr
    · cases hr
  | buildSlice t len parts =>
    rw [hop] at hr; simp only [resOp] at hr
    split at hr
    · rename_i e hu
      split at hr
      · rename_i z n ps hz hn hp
        split at hr
        · rename_i hc
          cases hr
          obtain rfl : r = .bslice len z ps := by rcases hlax with h | h <;> exact h
          simp only [evalOp] at hev
          split at hev
          · rename_i xs hx
            cases hev
            exact d_bslice hS hf hop hu hz hn hc.1 hc.2 hp hx
          · cases hev
        · cases hr
      · cases hr
    · cases hr
  | load t x =>
    rw [hop] at hr; simp only [resOp] at hr
    split at hr
    · rename_i b n y hb hn hy
      cases hr
      have key : ∃ w, loadA E.h b n (get fr y) = some w ∧ (w, E.h) = (v, h') := by
        rcases hlax with rfl | rfl
        · simp only [evalOp] at hev
          split at hev
          · rename_i w hw; exact ⟨w, hw, by simpa using hev⟩
          · cases hev
        · simp only [ROp.lax, evalOp] at hev
          split at hev
          · cases hev
          · split at hev
            · rename_i w hw; exact ⟨w, hw, by simpa using hev⟩
            · cases hev
      obtain ⟨w, hw, he⟩ := key
      cases he
      exact (q_ld hS hf hop hb hn hy hw).does hS
    · cases hr
  | store t x y =>
    rw [hop] at hr; simp only [resOp] at hr
    split at hr
    · rename_i n x' y' hn hx hy
      cases hr
      obtain rfl : r = .st n x' y' := by rcases hlax with h | h <;> exact h
      simp only [evalOp] at hev
      split at hev
      · rename_i h1 hst
        cases hev
        unfold storeA at hst
        split at hst
        · rename_i b off hg
          split at hst
          · rename_i cs hcs
            split at hst
            · rename_i hc
              cases hst
              exact d_st_box hS hf hop hn hx hy hg hcs hc.1 hc.2.1 hc.2.2
            · cases hst
          · cases hst
        · rename_i k m i q hg
          split at hst
          · rename_i f hfk
            split at hst
            · rename_i hc
              split at hst
              · rename_i el u hel hu
                split at hst
                · rename_i hl
                  simp only [Option.map_eq_some_iff] at hst
                  obtain ⟨z, hz, rfl⟩ := hst
                  refine d_st_row hS hf hop hn hx hy hg hfk hc.1 hc.2 hel hu hl.1 hl.2 (reform_ok hz (by simp [splice]; omega) fun w hw => ?_)
                  -- the cells of an element, and of a value laid to rest, are single
                  by_cases hag : ∃ aas, el = .agg aas
                  · exact .inr hag
                  · refine .inl ?_
                    have hel1 : el.cells = [el] := by cases el <;> first | rfl | exact absurd ⟨_, rfl⟩ hag
                    rw [hel1] at hw hl
                    simp only [List.length_cons, List.length_nil] at hl
                    have hF := hS.fams k f hfk
                    obtain ⟨hPu, hut⟩ := frz_sound hS (am := false) (ok' := E.ok) ⟨fun _ _ h => h, fun h => by cases h⟩ (opd_sound hf hy) hu
                    obtain ⟨g1, g2⟩ := PV_cells hPu hut
                    have hcell : ∀ {w : AV} {u : Value}, PV E.w E.ok w u → u.oneCell' = true → w.cells = [w] := by
                      intro w u h1 h2
                      cases w <;> first | rfl | (simp only [PV] at h1; obtain ⟨us, rfl, _⟩ := h1; simp [Value.oneCell'] at h2)
                    unfold splice at hw
                    simp only [List.mem_append] at hw
                    rcases hw with (hw | hw) | hw
                    · have := List.mem_of_mem_take hw
                      simp at this; subst this; exact hel1
                    · obtain ⟨j, hj⟩ := List.getElem?_of_mem hw
                      obtain ⟨u', k1, k2⟩ := (PVs_get g1).2 hj
                      exact hcell k2 (g2 u' (List.mem_of_getElem? k1))
                    · have := List.mem_of_mem_drop hw
                      simp at this; subst this; exact hel1
                · cases hst
              · cases hst
            · cases hst
          · cases hst
        · cases hst
      · cases hev
    · cases hr
  | nilCheck x =>
    rw [hop] at hr; simp only [resOp, Option.map_eq_some_iff] at hr
    obtain ⟨y, hy, rfl⟩ := hr
    obtain rfl : r = .nilck y := by rcases hlax with h | h <;> exact h
    simp only [evalOp] at hev
    have : h' = E.h := by split at hev <;> first | (cases hev; rfl) | cases hev
    subst this
    exact (q_nilck hf hop hy hev).does hS
  | binOp op t x y t' =>
    rw [hop] at hr; simp only [resOp] at hr
    split at hr
    · rename_i x' y' hx hy
      have gen : r0 = .bin op x' y' → Does P a o E v h' := by
        intro h; subst h
        obtain rfl : r = .bin op x' y' := by rcases hlax with h | h <;> exact h
        simp only [evalOp] at hev
        split at hev
        · rename_i w hw; cases hev; exact (q_bin hf hop hx hy hw).does hS
        · cases hev
      split at hr
      · rename_i ht
        cases hr
        obtain rfl : r = .beq false x' y' := by rcases hlax with h | h <;> exact h
        simp only [evalOp] at hev
        split at hev
        · rename_i i j hi hj; cases hev; exact (q_beq (neg := false) hf hop ht hx hy hi hj).does hS
        · cases hev
      · rename_i ht
        cases hr
        obtain rfl : r = .beq true x' y' := by rcases hlax with h | h <;> exact h
        simp only [evalOp] at hev
        split at hev
        · rename_i i j hi hj; cases hev; exact (q_beq (neg := true) hf hop ht hx hy hi hj).does hS
        · cases hev
      · rename_i ht
        split at hr
        · cases hr
          obtain rfl : r = .nileq false x' := by rcases hlax with h | h <;> exact h
          simp only [evalOp] at hev
          split at hev
          · rename_i hi; cases hev; exact (q_nileq (neg := false) hf hop ht hx hy hi).does hS
          · cases hev
        · cases hr
      · rename_i ht
        split at hr
        · cases hr
          obtain rfl : r = .nileq true x' := by rcases hlax with h | h <;> exact h
          simp only [evalOp] at hev
          split at hev
          · rename_i hi; cases hev; exact (q_nileq (neg := true) hf hop ht hx hy hi).does hS
          · cases hev
        · cases hr
      · cases hr; exact gen rfl
    · cases hr
  | unOp op t x =>
    rw [hop] at hr; simp only [resOp, Option.map_eq_some_iff] at hr
    obtain ⟨y, hy, rfl⟩ := hr
    obtain rfl : r = .un op y := by rcases hlax with h | h <;> exact h
    simp only [evalOp] at hev
    split at hev
    · rename_i w hw; cases hev; exact (q_un hf hop hy hw).does hS
    · cases hev
  | convert s d x =>
    rw [hop] at hr; simp only [resOp] at hr
    split at hr
    · rename_i k0 k hs hd
      simp only [Option.map_eq_some_iff] at hr
      obtain ⟨y, hy, rfl⟩ := hr
      obtain rfl : r = .conv k y := by rcases hlax with h | h <;> exact h
      simp only [evalOp] at hev
      split at hev
      · rename_i q n hq; cases hev; exact (q_conv hf hop hs hd hy hq).does hS
      · cases hev
    · rename_i hs hd
      simp only [Option.map_eq_some_iff] at hr
      obtain ⟨y, hy, rfl⟩ := hr
      obtain rfl : r = .cstr y := by rcases hlax with h | h <;> exact h
      simp only [evalOp] at hev
      split at hev
      · rename_i n hq; cases hev; exact (q_cstr hf hop hs hd hy hq).does hS
      · cases hev
    · cases hr
  | makeFunc fn first caps =>
    rw [hop] at hr
    cases fn <;> simp only [resOp] at hr <;> try (cases hr; done)
    split at hr
    · rename_i f h0
      simp only [Option.map_eq_some_iff] at hr
      obtain ⟨cs, hc, rfl⟩ := hr
      obtain rfl : r = .clos _ cs := by rcases hlax with h | h <;> exact h
      simp only [evalOp] at hev; cases hev
      exact (q_clos hf hop h0 hc).does hS
    · cases hr
  | makeSlice t l q =>
    rw [hop] at hr; simp only [resOp] at hr
    split at hr
    · rename_i e hu
      split at hr
      · rename_i i z l' q' hi hz hl hq
        split at hr
        · rename_i hpos
          cases hr
          obtain rfl : r = .mkslice z i.bytes l' q' := by rcases hlax with h | h <;> exact h
          simp only [evalOp] at hev
          split at hev
          · rename_i k1 x k2 y hx hy
            split at hev
            · rename_i hc
              cases hev
              exact d_mkslice hS hf hop hu hi hz hpos hl hq hx hy hc.1 hc.2.1 hc.2.2.1 hc.2.2.2
            · cases hev
          · cases hev
        · cases hr
      · cases hr
    · cases hr
  | slice t x lo hi mx =>
    rw [hop] at hr; simp only [resOp] at hr
    split at hr
    · rename_i x' lo' hi' ht hx hlo hhi hmx
      cases hr
      obtain rfl : r = .slc 0 x' lo' hi' none := by rcases hlax with h | h <;> exact h
      have hmn : mx = none := by
        cases mx with
        | none => rfl
        | some m => simp [resOpt] at hmx
      subst hmn
      simp only [evalOp] at hev
      split at hev
      · rename_i l u m hl hu hm
        simp only [boundA] at hm
        cases hm
        split at hev
        · rename_i w hw
          cases hev
          unfold sliceA at hw
          split at hw
          · rename_i s hs
            dsimp only at hw
            split at hw
            · rename_i hc
              cases hw
              exact (q_slc_str hf hop ht hx hlo hhi hs hl hu hc.2.2.1 hc.2.2.2.1 hc.2.2.2.2).does hS
            · cases hw
          · simp at hw
          · split at hw <;> simp at hw
          · cases hw
        · cases hev
      · cases hev
    · rename_i e x' lo' hi' mx' ht hx hlo hhi hmx
      split at hr
      · rename_i n hn
        split at hr
        · rename_i hpos
          cases hr
          obtain rfl : r = .slc n x' lo' hi' mx' := by rcases hlax with h | h <;> exact h
          simp only [evalOp] at hev
          split at hev
          · rename_i l u m hl hu hm
            split at hev
            · rename_i w hw
              cases hev
              unfold sliceA at hw
              split at hw
              · simp [show ¬ n = 0 from by omega] at hw
              · rename_i full z xs hg
                dsimp only at hw
                simp only [hpos, true_and] at hw
                split at hw
                · rename_i hz
                  split at hw
                  · split at hw
                    · rename_i hc
                      cases hw
                      exact (q_slc_vs hf hop ht hn hx hlo hhi hmx hg hl hu hm hz hc.1 hc.2.1 (.inl ⟨rfl, hc.2.2, rfl⟩)).does hS
                    · cases hw
                  · rename_i q
                    split at hw
                    · rename_i hc
                      cases hw
                      exact (q_slc_vs hf hop ht hn hx hlo hhi hmx hg hl hu hm hz hc.2.1 hc.2.2.1 (.inr ⟨q, rfl, hc.1, hc.2.2.2.1, hc.2.2.2.2, rfl⟩)).does hS
                    · cases hw
                · cases hw
              · rename_i k m0 off len hg
                dsimp only at hw
                split at hw
                · rename_i f hfk
                  simp only [hpos, true_and] at hw
                  split at hw
                  · rename_i hz
                    split at hw
                    · split at hw
                      · rename_i hc
                        cases hw
                        exact (q_slc_sl hS hf hop ht hn hx hlo hhi hmx hg hl hu hm hfk hz.1 hz.2 (.inl ⟨rfl, hc.1, hc.2.1, hc.2.2, rfl⟩)).does hS
                      · cases hw
                    · rename_i q
                      split at hw
                      · rename_i hc
                        cases hw
                        obtain ⟨c1, c2, c3, rfl⟩ := hc
                        exact (q_slc_sl hS hf hop ht hn hx hlo hhi hmx hg hl hu hm hfk hz.1 hz.2 (.inr ⟨rfl, c1, c2, c3, rfl⟩)).does hS
                      · cases hw
                  · cases hw
                · cases hw
              · cases hw
            · cases hev
          · cases hev
        · cases hr
      · cases hr
    · cases hr
  | fieldAddr s x i =>
    rw [hop] at hr; simp only [resOp] at hr
    split at hr
    · rename_i fs x' hs hx
      split at hr
      · rename_i f hi
        split at hr
        · rename_i n hn
          split at hr
          · rename_i hpos
            cases hr
            obtain rfl : r = .faddr f.offset x' := by rcases hlax with h | h <;> exact h
            simp only [evalOp] at hev
            have : h' = E.h := by split at hev <;> first | (cases hev; rfl) | cases hev
            subst this
            exact (q_faddr hf hop hs hi hn hpos hx hev).does hS
          · cases hr
        · cases hr
      · cases hr
    · cases hr
  | field s x i =>
    rw [hop] at hr; simp only [resOp] at hr
    split at hr
    · rename_i fs x' hs hx
      split at hr
      · rename_i f hi
        split at hr
        · rename_i b n hb hn
          cases hr
          obtain rfl : r = .fld b f.offset n x' := by rcases hlax with h | h <;> exact h
          simp only [evalOp] at hev
          split at hev
          · rename_i cs hg
            split at hev
            · rename_i w hw; cases hev; exact (q_fld hf hop hs hi hb hn hx hg hw).does hS
            · cases hev
          · cases hev
        · cases hr
      · cases hr
    · cases hr
  | indexAddr t x i =>
    rw [hop] at hr; simp only [resOp] at hr
    split at hr
    · rename_i e x' i' ht hx hi
      split at hr
      · rename_i n hn
        split at hr
        · cases hr
          obtain rfl : r = .iaddr n x' i' := by rcases hlax with h | h <;> exact h
          simp only [evalOp] at hev
          have : h' = E.h := by
            split at hev
            · split at hev
              · split at hev <;> first | (cases hev; rfl) | cases hev
              · cases hev
            · split at hev
              · split at hev <;> first | (cases hev; rfl) | cases hev
              · cases hev
            · cases hev
          subst this
          exact (q_iaddr hS hf hop ht hn hx hi hev).does hS
        · cases hr
      · cases hr
    · cases hr
  | index t x i =>
    rw [hop] at hr; simp only [resOp] at hr
    split at hr
    · rename_i x' i' ht hx hi
      cases hr
      obtain rfl : r = .idx x' i' := by rcases hlax with h | h <;> exact h
      simp only [evalOp] at hev
      split at hev
      · rename_i s q j hg hj
        split at hev
        · rename_i h0
          split at hev
          · rename_i b hb; cases hev; exact (q_idx hf hop ht hx hi hg hj h0 hb).does hS
          · cases hev
        · cases hev
      · cases hev
    · cases hr
  | extract x i =>
    rw [hop] at hr; simp only [resOp, Option.map_eq_some_iff] at hr
    obtain ⟨y, hy, rfl⟩ := hr
    obtain rfl : r = .ext y i := by rcases hlax with h | h <;> exact h
    simp only [evalOp] at hev
    split at hev
    · rename_i vs hg
      split at hev
      · rename_i w hw; cases hev; exact (q_ext hf hop hy hg hw).does hS
      · cases hev
    · cases hev
  | call q =>
    rw [hop] at hr
    obtain ⟨callee, args, ats⟩ := q
    cases callee with
    | invoke x m => simp [resOp] at hr
    | value x =>
      cases x <;> simp only [resOp] at hr <;> try (cases hr; done)
      · simp only [Option.map_eq_some_iff] at hr
        obtain ⟨aas, _, rfl⟩ := hr
        rcases hlax with rfl | rfl <;> simp [ROp.isCall, ROp.lax] at hnc
      · split at hr
        · simp only [Option.map_eq_some_iff] at hr
          obtain ⟨aas, _, rfl⟩ := hr
          rcases hlax with rfl | rfl <;> simp [ROp.isCall, ROp.lax] at hnc
        · cases hr
    | builtin b =>
      cases b <;> simp only [resOp] at hr <;> try (cases hr; done)
      case append =>
        split at hr
        · rename_i s x t u h1 h2
          split at hr
          · rename_i e ht
            split at hr
            · rename_i i z s' x' hi hz hs hx
              split at hr
              · rename_i hc
                cases hr
                obtain ⟨hpos, rfl⟩ := hc
                obtain rfl : r = .app i.size i.bytes s' x' := by rcases hlax with h | h <;> exact h
                simp only [evalOp, appendA] at hev
                split at hev
                · cases hev
                · rename_i ys hys
                  split at hev
                  · rename_i z0 xs hg
                    split at hev
                    · rename_i h0
                      cases hev
                      -- nothing is appended
                      have e1 := opd_sound hf hs
                      have e1' := e1
                      rw [hg] at e1
                      simp only [VR, PV] at e1
                      obtain ⟨base, len, cap, e2, _, e4, _⟩ := e1
                      obtain ⟨ad, cx, f1, _⟩ := elems_sound hS hpos (opd_sound hf hx) hys
                      refine ⟨_, .slice base len cap, E, exec_append hop h1 h2 ?_, .inl rfl, Ext.refl E, hS, rfl, by rw [hg, e2] at e1'; exact e1'⟩
                      rw [e2, f1, h0]
                      exact run_append_zero t _ e i ht hi base ad len cap cx e4 E.w
                    · rename_i h0
                      split at hev
                      · rename_i hb
                        cases hev
                        exact d_app_full hS hf hop h1 h2 ht hi hz hpos hs hx hg hys h0 hb.1 hb.2.1 hb.2.2
                      · cases hev
                  · rename_i k n off len hg
                    split at hev
                    · rename_i f hfk
                      split at hev
                      · rename_i hb
                        cases hev
                        exact d_app_row hS hf hop h1 h2 ht hi hz hpos hs hx hg hys hfk hb.1 hb.2.1 hb.2.2.1 hb.2.2.2.1 hb.2.2.2.2
                      · cases hev
                    · cases hev
                  · cases hev
              · cases hr
            · cases hr
          · cases hr
        · cases hr
      case len =>
        split at hr
        · rename_i x t h1 h2
          split at hr
          · rename_i ht
            simp only [Option.map_eq_some_iff] at hr
            obtain ⟨y, hy, rfl⟩ := hr
            obtain rfl : r = .len true y := by rcases hlax with h | h <;> exact h
            simp only [evalOp] at hev
            split at hev
            · rename_i s hs; cases hev; exact (q_len_str hf hop h1 h2 ht hy hs).does hS
            · cases hev
          · rename_i e ht
            simp only [Option.map_eq_some_iff] at hr
            obtain ⟨y, hy, rfl⟩ := hr
            obtain rfl : r = .len false y := by rcases hlax with h | h <;> exact h
            simp only [evalOp] at hev
            have : h' = E.h := by split at hev <;> first | (cases hev; rfl) | cases hev
            subst this
            exact (q_len hf hop h1 h2 ht hy hev).does hS
          · cases hr
        · cases hr
      case max =>
        split at hr
        · rename_i x y h1
          split at hr
          · rename_i x' y' hx hy
            cases hr
            obtain rfl : r = .max x' y' := by rcases hlax with h | h <;> exact h
            simp only [evalOp] at hev
            split at hev
            · rename_i k i k' j hi hj
              split at hev
              · cases hev; exact (q_max hf hop h1 hx hy hi hj).does hS
              · cases hev
            · cases hev
          · cases hr
        · cases hr
  | _ => rw [hop] at hr; simp [resOp] at hr

end
end Go.Abs
