/- Operations that make or turn memory: a box, a store, a struct, a literal slice. -/
import Derived.Test.YtpkegmgepnhfnaaA9
namespace Go.Abs
open Go.RowKit (Below)
section
variable {E : Env} {P : Program} {fr : Fr} {a : Act} {o : Oper}

/-- The operation leads to a state that goes on from this one. -/
def Does (P : Program) (a : Act) (o : Oper) (E : Env) (v : AV) (h' : AH) : Prop :=
  ∃ nx u E', (execOp a.eval o).run P E.w = .ok nx E'.w ∧ (nx = .value u ∨ (nx = .skip ∧ u = undef)) ∧ Ext E E' ∧ SR E' ∧ E'.h = h' ∧ VR E' v u

theorem Quiet.does {v : AV} (hS : SR E) (h : Quiet P a o E v) : Does P a o E v E.h := by
  obtain ⟨u, h1, h2⟩ := h
  exact ⟨_, u, E, h1, .inl rfl, Ext.refl E, hS, rfl, h2⟩

theorem VRs_len {cs : List AV} {us : List Value} (h : VRs E cs us) : us.length = cs.length := (VRs_get h).1

theorem VRs_append {as bs : List AV} {us vs : List Value} (h1 : VRs E as us) (h2 : VRs E bs vs) : VRs E (as ++ bs) (us ++ vs) := by
  refine VRs_of (by simp [VRs_len h1, VRs_len h2]) fun j c u hc hu => ?_
  have e := VRs_len h1
  by_cases hj : j < as.length
  · rw [List.getElem?_append_left hj] at hc
    rw [List.getElem?_append_left (by omega)] at hu
    obtain ⟨u', h3, h4⟩ := (VRs_get h1).2 hc
    rw [h3] at hu; cases hu; exact h4
  · rw [List.getElem?_append_right (by omega)] at hc
    rw [List.getElem?_append_right (by omega), e] at hu
    obtain ⟨u', h3, h4⟩ := (VRs_get h2).2 hc
    rw [h3] at hu; cases hu; exact h4

theorem VRs_take {as : List AV} {us : List Value} (h : VRs E as us) (n : Nat) : VRs E (as.take n) (us.take n) := by
  refine VRs_of (by simp [VRs_len h]) fun j c u hc hu => ?_
  rw [List.getElem?_take] at hc hu
  split at hc
  · rename_i hj
    rw [if_pos hj] at hu
    obtain ⟨u', h3, h4⟩ := (VRs_get h).2 hc
    rw [h3] at hu; cases hu; exact h4
  · cases hc

theorem VRs_drop {as : List AV} {us : List Value} (h : VRs E as us) (n : Nat) : VRs E (as.drop n) (us.drop n) := by
  refine VRs_of (by simp [VRs_len h]) fun j c u hc hu => ?_
  rw [List.getElem?_drop] at hc hu
  obtain ⟨u', h3, h4⟩ := (VRs_get h).2 hc
  rw [h3] at hu; cases hu; exact h4

theorem VRs_splice {cs ds : List AV} {us vs : List Value} (h1 : VRs E cs us) (h2 : VRs E ds vs) (off : Nat) : VRs E (splice cs off ds) (us.take off ++ vs ++ us.drop (off + vs.length)) := by
  unfold splice
  rw [VRs_len h2]
  exact VRs_append (VRs_append (VRs_take h1 _) h2) (VRs_drop h1 _)

theorem PV_cells {w : World} {ok : Nat → Nat → Prop} {x : AV} {v : Value} (h : PV w ok x v) (ht : x.isTup = false) : PVs w ok x.cells v.cells.toList ∧ ∀ u ∈ v.cells.toList, u.oneCell' = true := by
  cases x <;> simp only [PV] at h
  case tup => simp [AV.isTup] at ht
  case agg cs => obtain ⟨us, rfl, h1, h2⟩ := h; exact ⟨h2, h1⟩
  case junk =>
    have hc : v.cells = #[v] := by cases v <;> simp_all [Value.oneCell', Value.cells]
    rw [hc]; exact ⟨by simp [AV.cells, PVs, PV, h], by simpa using h⟩
  case vs => obtain ⟨ad, len, cap, rfl, h'⟩ := h; exact ⟨by simp only [AV.cells, Value.cells, PVs, PV]; exact ⟨_, _, rfl, ⟨_, _, _, rfl, h'⟩, rfl⟩, by simp [Value.cells, Value.oneCell']⟩
  case pv => obtain ⟨b, q, rfl, h'⟩ := h; exact ⟨by simp only [AV.cells, Value.cells, PVs, PV]; exact ⟨_, _, rfl, ⟨_, _, rfl, h'⟩, rfl⟩, by simp [Value.cells, Value.oneCell']⟩
  case fn => obtain ⟨us, rfl, h'⟩ := h; exact ⟨by simp only [AV.cells, Value.cells, PVs, PV]; exact ⟨_, _, rfl, ⟨_, rfl, h'⟩, rfl⟩, by simp [Value.cells, Value.oneCell']⟩
  all_goals (subst h; exact ⟨by simp [AV.cells, Value.cells, PVs, PV], by simp [Value.cells, Value.oneCell']⟩)

theorem zeroA_spec {t : TypeId} {z : AV} (h : Program.zeroA P t = some z) : ∃ i zv, P.info? t = some i ∧ i.zero = some zv ∧ zv.cells.size = i.size ∧ constAV zv = some z ∧ z.isTup = false := by
  unfold Program.zeroA at h
  split at h
  · rename_i i hi
    split at h
    · rename_i zv hz
      split at h
      · rename_i x hx
        split at h
        · rename_i hc
          cases h
          exact ⟨i, zv, hi, hz, hc.1, hx, hc.2⟩
        · cases h
      · cases h
    · cases h
  · cases h

/-! ### A new box -/

theorem d_box {t : TypeId} {x : Operand} {x' : Opd} (hS : SR E) (hf : FR E fr a.tmps) (ho : o.op = .box t x) (hx : resOpd x = some x') (ht : (get fr x').isTup = false) :
    Does P a o E (.ptr E.h.boxes.length 0) { E.h with boxes := E.h.boxes ++ [(get fr x').cells] } := by
  obtain ⟨h1, h2⟩ := VR_cells (opd_sound hf hx) ht
  refine ⟨_, .pointer (some ⟨E.w.heap.size, 0, none⟩), E.newBox (a.eval x).cells t (get fr x').cells, ?_, .inl rfl, newBox_ext hS _ _ _, newBox_SR hS h1 h2, rfl, ?_⟩
  · simp only [execOp, ho, Instr.box, newVar, newRow, Sem.run_bind, run_newObj, Result.andThen_ok, Sem.run_pure, World.alloc_eq, Env.newBox]
  · simp only [VR, Env.newBox, upd_same]
    exact ⟨by simp, trivial⟩

theorem d_alloc {t : TypeId} {z : AV} (hS : SR E) (ho : o.op = .alloc t) (hz : Program.zeroA P t = some z) :
    Does P a o E (.ptr E.h.boxes.length 0) { E.h with boxes := E.h.boxes ++ [z.cells] } := by
  obtain ⟨i, zv, h1, h2, h3, h4, h5⟩ := zeroA_spec hz
  obtain ⟨h6, h7⟩ := VR_cells (E := E) (VR_of_PV _ _ (constAV_sound h4)) h5
  refine ⟨_, .pointer (some ⟨E.w.heap.size, 0, none⟩), E.newBox zv.cells t z.cells, ?_, .inl rfl, newBox_ext hS _ _ _, newBox_SR hS h6 h7, rfl, ?_⟩
  · simp only [execOp, ho, Instr.alloc, newVar, newRow, zeroValue, typeInfo, run_program, Sem.run_bind, h1, h2, run_newObj, Result.andThen_ok, Sem.run_pure, World.alloc_eq, Env.newBox]
  · simp only [VR, Env.newBox, upd_same]
    exact ⟨by simp, trivial⟩

/-! ### Stores -/

theorem run_storeVar {t : TypeId} {b q : Nat} {v : Value} {cur : Array Value} {t' : TypeId} {w : World} {n : Nat} (hn : Program.size? P t = some n) (hg : w.heap[b]? = some (.cells cur t' (0, 0))) (hv : v.cells.size = n) (hfit : q + n ≤ cur.size)
    (h1 : ∀ u ∈ v.cells.toList, u.oneCell' = true) :
    (storeVar t ⟨b, q, none⟩ v).run P w = .ok () (w.setRow b (cur.toList.take q ++ v.cells.toList ++ cur.toList.drop (q + n)).toArray) := by
  have hst := run_storeCells_at P b q t' v.cells.toList 0 cur w hg (by simp; omega) h1
  simp only [Nat.add_zero, Array.length_toList, hv] at hst
  unfold storeVar
  simp [run_size hn, hv, hst]

theorem d_st_box {t : TypeId} {x y : Operand} {x' y' : Opd} {n b off : Nat} {cs : List AV} (hS : SR E) (hf : FR E fr a.tmps) (ho : o.op = .store t x y) (hn : Program.size? P t = some n) (hx : resOpd x = some x') (hy : resOpd y = some y')
    (hg : get fr x' = .ptr b off) (hcs : E.h.boxes[b]? = some cs) (ht : (get fr y').isTup = false) (hl : (get fr y').cells.length = n) (hfit : off + n ≤ cs.length) :
    Does P a o E undefA { E.h with boxes := E.h.boxes.set b (splice cs off (get fr y').cells) } := by
  have hv := opd_sound hf hx
  rw [hg] at hv
  simp only [VR] at hv
  obtain ⟨hb, e⟩ := hv
  obtain ⟨h1, h2⟩ := VR_cells (opd_sound hf hy) ht
  obtain ⟨hb1, cur, t', hc1, hc2, hc3⟩ := hS.boxes b cs hcs
  have hsz : (a.eval y).cells.size = n := by have := VRs_len h1; simp at this; omega
  have hcl : cur.size = cs.length := by have := VRs_len hc2; simpa using this
  have hrun := run_storeVar (P := P) (q := off) hn hc1 hsz (by omega) h2
  have hvs := VRs_splice hc2 h1 off
  rw [show (a.eval y).cells.toList.length = n from by simp [hsz]] at hvs
  refine ⟨_, undef, E.setBox b (cur.toList.take off ++ (a.eval y).cells.toList ++ cur.toList.drop (off + n)).toArray (splice cs off (get fr y').cells), ?_, .inr ⟨rfl, rfl⟩, setBox_ext hS hb _ _, setBox_SR hS hcs hvs ?_, rfl, VR_undef _⟩
  · simp only [execOp, ho, Instr.storeAt, e, Instr.sureAddr, Sem.run_bind, Sem.run_pure, Result.andThen_ok, hrun]
    rfl
  · intro u hu
    simp only [List.mem_append] at hu
    rcases hu with (hu | hu) | hu
    · exact hc3 u (List.mem_of_mem_take hu)
    · exact h2 u hu
    · exact hc3 u (List.mem_of_mem_drop hu)

theorem splice_get {α : Type} {l : List α} {off : Nat} {vs : List α} (hfit : off + vs.length ≤ l.length) (j : Nat) :
    (l.take off ++ vs ++ l.drop (off + vs.length))[j]? = if j < off then l[j]? else if j < off + vs.length then vs[j - off]? else l[j]? := by
  have hl : (l.take off).length = off := by simp; omega
  by_cases h1 : j < off
  · rw [if_pos h1, List.append_assoc, List.getElem?_append_left (by omega), List.getElem?_take, if_pos h1]
  · rw [if_neg h1]
    by_cases h2 : j < off + vs.length
    · rw [if_pos h2, List.append_assoc, List.getElem?_append_right (by omega), hl, List.getElem?_append_left (by omega)]
    · rw [if_neg h2, List.getElem?_append_right (by simp; omega), List.getElem?_drop]
      congr 1
      simp
      omega

theorem reform_cells {x y : AV} {cs : List AV} (h : x.reform cs = some y) (hl : cs.length = x.cells.length) (hflat : ∀ c ∈ cs, c.cells = [c] ∨ x = .agg x.cells) : y.cells = cs := by
  cases x <;> simp only [AV.reform] at h
  case agg => cases h; rfl
  all_goals
    simp only [AV.cells, List.length_cons, List.length_nil] at hl
    cases cs with
    | nil => simp at hl
    | cons c r =>
      have hr : r = [] := by simpa using hl
      subst hr
      simp at h
      subst h
      rcases hflat c (by simp) with h' | h'
      · exact h'
      · cases h'

theorem d_st_row {t : TypeId} {x y : Operand} {x' y' : Opd} {n k m i c : Nat} {f : Fam} {el u z : AV} (hS : SR E) (hf : FR E fr a.tmps) (ho : o.op = .store t x y) (hn : Program.size? P t = some n) (hx : resOpd x = some x') (hy : resOpd y = some y')
    (hg : get fr x' = .ep k m i c) (hfk : E.h.fams[k]? = some f) (hm : f.xs.length = m) (hw : f.wr = true) (hel : f.xs[i]? = some el) (hu : frz E.h false (get fr y') = some u)
    (hl : u.cells.length = n) (hfit : c + n ≤ el.cells.length) (hzc : z.cells = splice el.cells c u.cells) :
    Does P a o E undefA { E.h with fams := E.h.fams.set k { f with xs := f.xs.set i z } } := by
  have hv := opd_sound hf hx
  rw [hg] at hv
  simp only [VR] at hv
  obtain ⟨ad, f', e, hfk', _, had⟩ := hv
  have : f' = f := by rw [hfk] at hfk'; simpa using hfk'.symm
  subst this
  obtain ⟨hlo, rfl⟩ := had hm
  have hF := hS.fams k f' hfk
  obtain ⟨cur, t', c1, c2, c3⟩ := hF.cells
  obtain ⟨e1, e2⟩ := c3 i el hlo hel
  obtain ⟨hPu, hut⟩ := frz_sound hS (am := false) (ok' := E.ok) ⟨fun _ _ h => h, fun h => by cases h⟩ (opd_sound hf hy) hu
  obtain ⟨h1, h2⟩ := PV_cells hPu hut
  obtain ⟨hul, hug⟩ := PVs_get h1
  have hsz : (a.eval y).cells.size = n := by simp at hul; omega
  have hi : i < f'.xs.length := (List.getElem?_eq_some_iff.1 hel).1
  have hroom := hF.room
  have hpos : (E.im k).o + (i - (E.im k).lo) * f'.sz + f'.sz ≤ cur.size := by
    have h3 : (i - (E.im k).lo + 1) * f'.sz ≤ (E.im k).cap * f'.sz := Nat.mul_le_mul_right _ (by omega)
    rw [Nat.succ_mul] at h3
    omega
  have hrun := run_storeVar (P := P) (q := (E.im k).o + (i - (E.im k).lo) * f'.sz + c) hn c1 hsz (by omega) h2
  obtain ⟨us, hus⟩ : ∃ us : Array Value, us = (cur.toList.take ((E.im k).o + (i - (E.im k).lo) * f'.sz + c) ++ (a.eval y).cells.toList ++ cur.toList.drop ((E.im k).o + (i - (E.im k).lo) * f'.sz + c + n)).toArray := ⟨_, rfl⟩
  rw [← hus] at hrun
  have hget : ∀ j : Nat, us[j]? = if j < (E.im k).o + (i - (E.im k).lo) * f'.sz + c then cur[j]? else if j < (E.im k).o + (i - (E.im k).lo) * f'.sz + c + n then (a.eval y).cells[j - ((E.im k).o + (i - (E.im k).lo) * f'.sz + c)]? else cur[j]? := by
    intro j
    have := splice_get (l := cur.toList) (off := (E.im k).o + (i - (E.im k).lo) * f'.sz + c) (vs := (a.eval y).cells.toList) (by simp; omega) j
    simp only [Array.length_toList, hsz, Array.getElem?_toList] at this
    rw [hus, List.getElem?_toArray, this]
  have hussz : us.size = cur.size := by rw [hus]; simp; omega
  refine ⟨_, undef, E.setFam k us { f' with xs := f'.xs.set i z }, ?_, .inr ⟨rfl, rfl⟩,
    setFam_ext hS hfk c1 rfl rfl (by simp) (fun h => by rw [hw] at h; cases h), setFam_SR hS hfk c1 rfl rfl (by simp) (fun h => by rw [hw] at h; cases h) (by simpa using hroom) hussz ?_, rfl, VR_undef _⟩
  · simp only [execOp, ho, Instr.storeAt, e, Instr.sureAddr, Sem.run_bind, Sem.run_pure, Result.andThen_ok, hrun]
    rfl
  · intro j x' hj hx'
    have hx'' : (f'.xs.set i z)[j]? = some x' := hx'
    by_cases hij : i = j
    · subst hij
      rw [List.getElem?_set_self hi] at hx''
      cases hx''
      refine ⟨by rw [hzc]; simp [splice]; omega, fun q y' hq => ?_⟩
      rw [hzc] at hq
      unfold splice at hq
      rw [splice_get (by omega)] at hq
      have hq' : q < f'.sz := by
        rcases Nat.lt_or_ge q f'.sz with h | h
        · exact h
        · rw [if_neg (by omega), if_neg (by omega), List.getElem?_eq_none (by omega)] at hq; cases hq
      rw [hget]
      by_cases hqc : q < c
      · rw [if_pos hqc] at hq
        rw [if_pos (by omega)]
        obtain ⟨v, v1, v2, v3⟩ := e2 q y' hq
        exact ⟨v, by simpa using v1, v2, v3⟩
      · rw [if_neg hqc] at hq
        by_cases hqn : q < c + u.cells.length
        · rw [if_pos hqn] at hq
          rw [if_neg (by omega), if_pos (by omega)]
          obtain ⟨v, v1, v2⟩ := hug hq
          refine ⟨v, ?_, h2 v (List.mem_of_getElem? v1), v2⟩
          rw [show (E.im k).o + (i - (E.im k).lo) * f'.sz + q - ((E.im k).o + (i - (E.im k).lo) * f'.sz + c) = q - c from by omega]
          simpa using v1
        · rw [if_neg hqn] at hq
          rw [if_neg (by omega), if_neg (by omega)]
          obtain ⟨v, v1, v2, v3⟩ := e2 q y' hq
          exact ⟨v, by simpa using v1, v2, v3⟩
    · rw [List.getElem?_set_ne hij] at hx''
      obtain ⟨g1, g2⟩ := c3 j x' hj hx''
      refine ⟨g1, fun q y' hq => ?_⟩
      obtain ⟨v, v1, v2, v3⟩ := g2 q y' hq
      refine ⟨v, ?_, v2, v3⟩
      have hqs : q < f'.sz := by have := (List.getElem?_eq_some_iff.1 hq).1; omega
      rw [hget]
      rcases Nat.lt_or_gt_of_ne (show j ≠ i from fun e => hij e.symm) with hlt | hgt
      · have h3 : (j - (E.im k).lo + 1) * f'.sz ≤ (i - (E.im k).lo) * f'.sz := Nat.mul_le_mul_right _ (by omega)
        rw [Nat.succ_mul] at h3
        rw [if_pos (by omega)]
        simpa using v1
      · have h3 : (i - (E.im k).lo + 1) * f'.sz ≤ (j - (E.im k).lo) * f'.sz := Nat.mul_le_mul_right _ (by omega)
        rw [Nat.succ_mul] at h3
        rw [if_neg (by omega), if_neg (by omega)]
        simpa using v1

end
end Go.Abs
