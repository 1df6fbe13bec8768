/- A struct that is built; a literal slice; a slice that is made. -/
import Derived.Test.YtpkegmgepnhfnaaA10
namespace Go.Abs
open Go.RowKit (Below)
section
variable {E : Env} {P : Program} {fr : Fr} {a : Act} {o : Oper}

/-! ### Parts laid into a row of cells -/

theorem fold_put (off : Nat) : ∀ (l : List Value) (k : Nat) (cells : Array Value), off + k + l.length ≤ cells.size →
    ((l.zipIdx k).foldl (fun cs (x : Value × Nat) => cs.setIfInBounds (off + x.2) x.1) cells).toList = cells.toList.take (off + k) ++ l ++ cells.toList.drop (off + k + l.length)
  | [], k, cells, _ => by simp
  | v :: l, k, cells, h => by
    simp only [List.length_cons] at h
    simp only [List.zipIdx_cons, List.foldl_cons]
    rw [fold_put off l (k + 1) _ (by simp; omega)]
    have := list_seg_step cells.toList (off + k) v l (by simp; omega)
    simp only [Array.toList_setIfInBounds, List.length_cons]
    rw [show off + (k + 1) = off + k + 1 from by omega]
    exact this

theorem fill_step {place : Nat → Option (Nat × Nat)} {cells : Array Value} {i off size : Nat} {v : Value} {rest : List (Nat × Value)} (hp : place i = some (off, size)) (hs : v.cells.size = size) (hfit : off + size ≤ cells.size) :
    Instr.fill place cells ((i, v) :: rest) = Instr.fill place (cells.toList.take off ++ v.cells.toList ++ cells.toList.drop (off + size)).toArray rest := by
  have h := fold_put off v.cells.toList 0 cells (by simp; omega)
  simp only [Nat.add_zero, Array.length_toList, hs] at h
  have h2 : (v.cells.zipIdx.foldl (fun cs (x : Value × Nat) => cs.setIfInBounds (off + x.2) x.1) cells) = (cells.toList.take off ++ v.cells.toList ++ cells.toList.drop (off + size)).toArray := by
    apply Array.ext'
    rw [← h, ← Array.foldl_toList]
    simp
  simp only [Instr.fill, hp, hs]
  rw [if_neg (by simp; omega)]
  exact congrArg (fun c => Instr.fill place c rest) h2

/-! ### A struct -/

theorem build_sound (hf : FR E fr a.tmps) {fs : Array Field} {places : Nat → Option (Nat × Nat)} (hpl : ∀ (j : Nat) (f : Field) (n : Nat), fs[j]? = some f → Program.size? P f.type = some n → places j = some (f.offset, n)) :
    ∀ {parts : List (Nat × Operand)} {ps : List (Nat × Nat × Opd)} {qs : List (Nat × AV)} {cells : Array Value} {zs : List AV}, mapO (resPart P fs) parts = some ps → buildParts fr zs.length ps = some qs → VRs E zs cells.toList → (∀ u ∈ cells.toList, u.oneCell' = true) →
      ∃ us, Instr.fill places cells (parts.map fun p => (p.1, a.eval p.2)) = some us ∧ VRs E (fillParts zs qs) us.toList ∧ ∀ u ∈ us.toList, u.oneCell' = true
  | [], ps, qs, cells, zs, hp, hq, hz, h1 => by
    simp [mapO] at hp; subst hp
    simp [buildParts] at hq; subst hq
    exact ⟨cells, rfl, hz, h1⟩
  | (i, x) :: parts, ps, qs, cells, zs, hp, hq, hz, h1 => by
    simp only [mapO] at hp
    split at hp
    · rename_i y ys hy hys
      cases hp
      obtain ⟨off, n, x'⟩ := y
      unfold resPart at hy
      split at hy
      · rename_i f xx hfi hxx
        split at hy
        · rename_i n' hn'
          simp at hy
          obtain ⟨rfl, rfl, rfl⟩ := hy
          simp only [buildParts] at hq
          split at hq
          · rename_i hc
            simp only [Option.map_eq_some_iff] at hq
            obtain ⟨qs', hqs', rfl⟩ := hq
            obtain ⟨g1, g2⟩ := VR_cells (opd_sound hf hxx) hc.1
            have hsz : (a.eval x).cells.size = n' := by have := VRs_len g1; simp at this; omega
            have hcl : cells.size = zs.length := by have := VRs_len hz; simpa using this
            have hstep := fill_step (place := places) (cells := cells) (rest := parts.map fun p => (p.1, a.eval p.2)) (hpl i f n' hfi hn') hsz (by omega)
            have hvs := VRs_splice hz g1 f.offset
            rw [show (a.eval x).cells.toList.length = n' from by simp [hsz]] at hvs
            have hlen : (splice zs f.offset (get fr xx).cells).length = zs.length := by simp [splice]; omega
            obtain ⟨us, k1, k2, k3⟩ := build_sound hf hpl (cells := (cells.toList.take f.offset ++ (a.eval x).cells.toList ++ cells.toList.drop (f.offset + n')).toArray) (zs := splice zs f.offset (get fr xx).cells) hys (by rw [hlen]; exact hqs') (by simpa using hvs) (by
              intro u hu
              simp only [List.mem_append] at hu
              rcases hu with (hu | hu) | hu
              · exact h1 u (List.mem_of_mem_take hu)
              · exact g2 u hu
              · exact h1 u (List.mem_of_mem_drop hu))
            refine ⟨us, ?_, ?_, k3⟩
            · simp only [List.map_cons]; rw [hstep]; exact k1
            · simpa [fillParts] using k2
          · cases hq
        · cases hy
      · cases hy
    · cases hp

theorem mapM_get {α β : Type} {f : α → Option β} : ∀ {l : List α} {r : List β}, l.mapM f = some r → ∀ {j : Nat} {x : α}, l[j]? = some x → ∃ y, f x = some y ∧ r[j]? = some y
  | [], r, _, j, x, hx => by simp at hx
  | b :: l, r, h, j, x, hx => by
    simp only [List.mapM_cons, Option.bind_eq_bind, Option.pure_def, Option.bind_eq_some_iff] at h
    obtain ⟨y, hy, ys, hys, hr⟩ := h
    cases hr
    cases j with
    | zero => simp at hx; subst hx; exact ⟨y, hy, rfl⟩
    | succ j => simpa using mapM_get hys (j := j) (x := x) (by simpa using hx)

theorem q_build {t : TypeId} {parts : Array (Nat × Operand)} {fs : Array Field} {zs : List AV} {ps : List (Nat × Nat × Opd)} {qs : List (Nat × AV)} (hf : FR E fr a.tmps) (ho : o.op = .build t parts) (hu : P.underlying t = some (.struct fs)) (hz : Program.zeroA P t = some (.agg zs))
    (hs : (fs.toList.mapM fun f => (P.info? f.type).map fun i => (f.offset, i.size)).isSome = true) (hp : mapO (resPart P fs) parts.toList = some ps) (hq : buildParts fr zs.length ps = some qs) : Quiet P a o E (.agg (fillParts zs qs)) := by
  obtain ⟨i, zv, h1, h2, h3, h4, h5⟩ := zeroA_spec hz
  obtain ⟨places, hpl⟩ := Option.isSome_iff_exists.1 hs
  obtain ⟨g1, g2⟩ := VR_cells (E := E) (VR_of_PV _ _ (constAV_sound h4)) h5
  obtain ⟨us, k1, k2, k3⟩ := build_sound (E := E) (P := P) hf (places := fun j => places.toArray[j]?) (fun j f n hj hn => by
    obtain ⟨y, hy, hy'⟩ := mapM_get hpl (j := j) (x := f) (by simpa using hj)
    unfold Program.size? at hn
    simp only [Option.map_eq_some_iff] at hn hy
    obtain ⟨i', hi', rfl⟩ := hn
    obtain ⟨i'', hi'', rfl⟩ := hy
    rw [hi'] at hi''; cases hi''
    simpa using hy') hp hq g1 g2
  have hb : P.built t (parts.map fun (i, x) => (i, a.eval x)).toList = some us := by
    unfold Program.built
    simp only [h1, hu, h2, hpl, Array.toList_map]
    exact k1
  refine ⟨.agg us, ?_, ?_⟩
  · simp only [execOp, ho, Sem.run_bind, run_build E.w t _ us hb, Result.andThen_ok, Sem.run_pure]
  · simp only [VR]
    exact ⟨us, rfl, k3, k2⟩

/-! ### A row of equal elements -/

/-- A list of cells that holds the elements of a list, one behind the other. -/
def RowL (E : Env) (us : List Value) (xs : List AV) (sz : Nat) : Prop :=
  ∀ (i : Nat) (x : AV), xs[i]? = some x → x.cells.length = sz ∧ ∀ (c : Nat) (y : AV), x.cells[c]? = some y → ∃ v, us[i * sz + c]? = some v ∧ v.oneCell' = true ∧ PV E.w E.ok y v

theorem madeCells_get (z : Array Value) (n : Nat) (i c : Nat) (hc : c < z.size) (hi : i < n) : (madeCells z (n * z.size))[i * z.size + c]? = some z[c] := by
  have hlt := mul_room hi hc
  unfold madeCells
  rw [Array.getElem?_map, Array.getElem?_range, if_pos hlt]
  have : (i * z.size + c) % z.size = c := by rw [Nat.add_comm, Nat.mul_comm, Nat.add_mul_mod_self_left, Nat.mod_eq_of_lt hc]
  simp [this, getElem!_pos, hc]

theorem made_RowL {t : TypeId} {z : AV} (hz : Program.zeroA P t = some z) {n : Nat} {i : TypeInfo} (hi : P.info? t = some i) (hpos : 0 < i.size) : ∃ zv, i.zero = some zv ∧ z.cells.length = i.size ∧ zv.cells.size = i.size ∧ RowL E (madeCells zv.cells (n * i.size)).toList (List.replicate n z) i.size ∧ ∀ u ∈ (madeCells zv.cells (n * i.size)).toList, u.oneCell' = true := by
  obtain ⟨i', zv, h1, h2, h3, h4, h5⟩ := zeroA_spec hz
  rw [hi] at h1; cases h1
  have hpv := constAV_sound (w := E.w) (ok := E.ok) h4
  obtain ⟨g1, g2⟩ := PV_cells hpv h5
  obtain ⟨gl, gg⟩ := PVs_get g1
  have hl : z.cells.length = i.size := by simp at gl; omega
  refine ⟨zv, h2, hl, h3, fun j x hx => ?_, fun u hu => ?_⟩
  · rw [List.getElem?_replicate] at hx
    split at hx
    · rename_i hj
      cases hx
      refine ⟨hl, fun c y hy => ?_⟩
      have hc : c < zv.cells.size := by have := (List.getElem?_eq_some_iff.1 hy).1; omega
      obtain ⟨v, v1, v2⟩ := gg hy
      have := madeCells_get zv.cells n j c hc hj
      rw [h3] at this
      refine ⟨zv.cells[c], by rw [Array.getElem?_toList]; exact this, g2 _ (by simp), ?_⟩
      have e : v = zv.cells[c] := by
        rw [Array.getElem?_toList, Array.getElem?_eq_getElem hc] at v1; simpa using v1.symm
      rw [← e]; exact v2
    · cases hx
  · obtain ⟨j, hj⟩ := List.getElem?_of_mem hu
    rw [Array.getElem?_toList] at hj
    unfold madeCells at hj
    rw [Array.getElem?_map, Array.getElem?_range] at hj
    split at hj
    · simp at hj
      have hm : j % zv.cells.size < zv.cells.size := Nat.mod_lt _ (by omega)
      rw [getElem!_pos zv.cells _ hm] at hj
      subst hj
      exact g2 _ (by simp)
    · simp at hj

theorem slice_sound (hS : SR E) (hf : FR E fr a.tmps) {sz : Nat} (hpos : 0 < sz) :
    ∀ {parts : List (Nat × Operand)} {ps : List (Nat × Opd)} {xs ys : List AV} {cells : Array Value}, mapO resElem parts = some ps → sliceParts fr E.h xs ps = some ys → RowL E cells.toList xs sz → cells.size = xs.length * sz → (∀ u ∈ cells.toList, u.oneCell' = true) →
      ∃ us, Instr.fill (fun i => some (i * sz, sz)) cells (parts.map fun p => (p.1, a.eval p.2)) = some us ∧ RowL E us.toList ys sz ∧ us.size = ys.length * sz ∧ ys.length = xs.length
  | [], ps, xs, ys, cells, hp, hq, hr, hs, _ => by
    simp [mapO] at hp; subst hp
    simp [sliceParts] at hq; subst hq
    exact ⟨cells, rfl, hr, hs, rfl⟩
  | (i, x) :: parts, ps, xs, ys, cells, hp, hq, hr, hs, h1 => by
    simp only [mapO] at hp
    split at hp
    · rename_i y yr hy hyr
      cases hp
      unfold resElem at hy
      simp only [Option.map_eq_some_iff] at hy
      obtain ⟨x', hx', rfl⟩ := hy
      simp only [sliceParts] at hq
      split at hq
      · rename_i z y hz hyy
        split at hq
        · rename_i hc
          obtain ⟨hPu, hut⟩ := frz_sound hS (am := false) (ok' := E.ok) ⟨fun _ _ h => h, fun h => by cases h⟩ (opd_sound hf hx') hyy
          obtain ⟨g1, g2⟩ := PV_cells hPu hut
          obtain ⟨gl, gg⟩ := PVs_get g1
          obtain ⟨r1, r2⟩ := hr i z hz
          have hi : i < xs.length := (List.getElem?_eq_some_iff.1 hz).1
          have hsz : (a.eval x).cells.size = sz := by simp at gl; omega
          have hfit : i * sz + sz ≤ cells.size := by
            have : (i + 1) * sz ≤ xs.length * sz := Nat.mul_le_mul_right _ hi
            rw [Nat.succ_mul] at this; omega
          have hstep := fill_step (place := fun i => some (i * sz, sz)) (cells := cells) (i := i) (rest := parts.map fun p => (p.1, a.eval p.2)) rfl hsz hfit
          have hget := fun j => splice_get (l := cells.toList) (off := i * sz) (vs := (a.eval x).cells.toList) (by simp; omega) j
          simp only [Array.length_toList, hsz] at hget
          obtain ⟨us, k1, k2, k3, k4⟩ := slice_sound hS hf hpos (parts := parts) (xs := xs.set i y) (cells := (cells.toList.take (i * sz) ++ (a.eval x).cells.toList ++ cells.toList.drop (i * sz + sz)).toArray) hyr hq (fun j w hw => by
            by_cases hij : i = j
            · subst hij
              rw [List.getElem?_set_self hi] at hw
              cases hw
              refine ⟨by omega, fun c q hq' => ?_⟩
              obtain ⟨v, v1, v2⟩ := gg hq'
              have hcs : c < sz := by have := (List.getElem?_eq_some_iff.1 hq').1; omega
              refine ⟨v, ?_, g2 v (List.mem_of_getElem? v1), v2⟩
              show (List.take _ _ ++ _ ++ List.drop _ _)[_]? = some v
              rw [hget, if_neg (by omega), if_pos (by omega), show i * sz + c - i * sz = c from by omega]
              exact v1
            · rw [List.getElem?_set_ne hij] at hw
              obtain ⟨s1, s2⟩ := hr j w hw
              refine ⟨s1, fun c q hq' => ?_⟩
              obtain ⟨v, v1, v2, v3⟩ := s2 c q hq'
              refine ⟨v, ?_, v2, v3⟩
              have hcs : c < sz := by have := (List.getElem?_eq_some_iff.1 hq').1; omega
              show (List.take _ _ ++ _ ++ List.drop _ _)[_]? = some v
              rw [hget]
              rcases Nat.lt_or_gt_of_ne (show j ≠ i from fun e => hij e.symm) with hlt | hgt
              · have := mul_room hlt hcs
                rw [if_pos this]; exact v1
              · have h3 : (i + 1) * sz ≤ j * sz := Nat.mul_le_mul_right _ hgt
                rw [Nat.succ_mul] at h3
                rw [if_neg (by omega), if_neg (by omega)]; exact v1) (by
              simp only [List.size_toArray, List.length_append, List.length_take, List.length_drop, Array.length_toList, hsz, List.length_set]
              omega) (by
              intro u hu
              simp only [List.mem_append] at hu
              rcases hu with (hu | hu) | hu
              · exact h1 u (List.mem_of_mem_take hu)
              · exact g2 u hu
              · exact h1 u (List.mem_of_mem_drop hu))
          exact ⟨us, by simp only [List.map_cons]; rw [hstep]; exact k1, k2, k3, by simpa using k4⟩
        · cases hq
      · cases hq
    · cases hp

/-- A row in a block of its own that no one will turn. -/
theorem fresh_PV (hS : SR E) {us : Array Value} {e : TypeId} {xs : List AV} {sz : Nat} (hpos : 0 < sz) (hr : RowL E us.toList xs sz) (hm : xs.length ≤ maxLen) :
    PV (E.w.alloc (.cells us e)) ({ E with w := E.w.alloc (.cells us e) } : Env).ok (.vs true sz xs) (.slice (some ⟨E.w.heap.size, 0, none⟩) xs.length xs.length) := by
  have hb : Below E.w.heap.size E.w (E.w.alloc (.cells us e)) := (Below.refl _ _).alloc (Nat.le_refl _) _
  have hx := grow_ext hS hb
  simp only [PV]
  refine ⟨_, _, _, rfl, rfl, Nat.le_refl _, hm, fun _ => rfl, ⟨(fun h => nomatch h), ⟨(fun h => nomatch h), fun e => absurd hpos (by omega)⟩⟩, fun _ => ⟨_, _, rfl, hpos, PEls_of fun j x hj => ?_⟩⟩
  obtain ⟨r1, r2⟩ := hr j x hj
  refine ⟨r1, PCells_of fun c y hc => ?_⟩
  obtain ⟨v, v1, v2, v3⟩ := r2 c y hc
  refine ⟨v, ?_, ?_, v2, PV_mono hx.cells _ _ v3⟩
  · refine .inr ⟨hS.basele, by simp, fun i hi => ?_, fun k f hk he => ?_⟩
    · have := (hS.nb_lt hi).2
      show E.nb i ≠ _
      omega
    · have := (hS.im_lt (List.getElem?_eq_some_iff.1 hk).1).2
      have he' : (E.im k).b = E.w.heap.size := he
      omega
  · rw [Nat.zero_add, cell_of_row _ _ _ _ _ _ (heap_alloc_new _ _)]
    simpa using v1

theorem d_bslice {t e : TypeId} {len : Nat} {parts : Array (Nat × Operand)} {z : AV} {n : Nat} {ps : List (Nat × Opd)} {xs : List AV} (hS : SR E) (hf : FR E fr a.tmps) (ho : o.op = .buildSlice t len parts) (hu : P.underlying t = some (.slice e)) (hz : Program.zeroA P e = some z) (hn : Program.size? P e = some n)
    (hpos : 0 < n) (hlim : len * n ≤ 2 ^ 24) (hp : mapO resElem parts.toList = some ps) (hq : sliceParts fr E.h (List.replicate len z) ps = some xs) : Does P a o E (.vs true z.cells.length xs) E.h := by
  have hn' := hn
  unfold Program.size? at hn'
  simp only [Option.map_eq_some_iff] at hn'
  obtain ⟨i, hi, rfl⟩ := hn'
  obtain ⟨zv, h2, hl, h3, hr, h1⟩ := made_RowL (E := E) hz (n := len) hi hpos
  obtain ⟨us, k1, k2, k3, k4⟩ := slice_sound hS hf hpos hp hq hr (by simp [madeCells]) h1
  have hlen : xs.length = len := by simpa using k4
  have hmax : xs.length ≤ maxLen := by
    have : len * 1 ≤ len * i.size := Nat.mul_le_mul_left _ hpos
    rw [hlen]; unfold maxLen; omega
  have hpv := fresh_PV (e := e) hS hpos k2 hmax
  have hb : Below E.w.heap.size E.w (E.w.alloc (.cells us e)) := (Below.refl _ _).alloc (Nat.le_refl _) _
  rw [hl]
  refine ⟨_, .slice (some ⟨E.w.heap.size, 0, none⟩) xs.length xs.length, { E with w := E.w.alloc (.cells us e) }, ?_, .inl rfl, grow_ext hS hb, grow_SR hS hb, rfl, ?_⟩
  · have hsize : (sizeOf e).run P E.w = .ok i.size E.w := run_size hn _
    by_cases h0 : len * i.size = 0
    · have hc0 : madeCells zv.cells (len * i.size) = #[] := by simp [h0, madeCells]
      rw [hc0] at k1
      simp [execOp, ho, Instr.buildSlice, run_under hu, hsize, h0, newRow, hlen, Array.range_zero', k1]
    · simp [execOp, ho, Instr.buildSlice, run_under hu, hsize, h0, show ¬ (16777216 < len * i.size) from by omega, zeroValue, typeInfo, hi, h2, newRow, hlen]
      unfold madeCells at k1
      simp [k1]
  · simp only [VR]
    exact hpv

end
end Go.Abs
