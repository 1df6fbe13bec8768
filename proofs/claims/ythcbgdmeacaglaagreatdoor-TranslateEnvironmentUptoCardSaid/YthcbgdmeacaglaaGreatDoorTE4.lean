/- A part of the proof. -/
import Derived.Test.YthcbgdmeacaglaaGreatDoorTE3
set_option linter.all false
namespace Go.Abs
open Go.RowKit (Below)
section
variable {E : Env} {P : Program} {fr : Fr} {a : Act} {o : Oper}
def Does (P : Program) (a : Act) (o : Oper) (E : Env) (v : AV) (h' : AH) : Prop :=
  ∃ nx u E', (execOp a.eval o).run P E.w = .ok nx E'.w ∧ (nx = .value u ∨ (nx = .skip ∧ u = undef)) ∧ Ext E E' ∧ SR E' ∧ E'.h = h' ∧ VR E' v u
theorem Quiet.does {v : AV} (hS : SR E) (h : Quiet P a o E v) : Does P a o E v E.h := by
  obtain ⟨u, h1, h2⟩ := h
  exact ⟨_, u, E, h1, .inl rfl, Ext.refl E, hS, rfl, h2⟩
theorem VRs_append {aas bs : List AV} {us vs : List Value} (h1 : VRs E aas us) (h2 : VRs E bs vs) : VRs E (aas ++ bs) (us ++ vs) := by
  refine VRs_of (by simp [VRs_len h1, VRs_len h2]) fun j c u hc hu => ?_
  have e := VRs_len h1
  by_cases hj : j < aas.length
  · rw [List.getElem?_append_left hj] at hc
    rw [List.getElem?_append_left (by omega)] at hu
    obtain ⟨u', h3, h4⟩ := (VRs_get h1).2 hc
    rw [h3] at hu; cases hu; exact h4
  · rw [List.getElem?_append_right (by omega)] at hc
    rw [List.getElem?_append_right (by omega), e] at hu
    obtain ⟨u', h3, h4⟩ := (VRs_get h2).2 hc
    rw [h3] at hu; cases hu; exact h4
theorem VRs_splice {cs ds : List AV} {us vs : List Value} (h1 : VRs E cs us) (h2 : VRs E ds vs) (off : Nat) : VRs E (splice cs off ds) (us.take off ++ vs ++ us.drop (off + vs.length)) := by
  unfold splice
  rw [VRs_len h2]
  exact VRs_append (VRs_append (VRs_take h1 _) h2) (VRs_drop h1 _)
theorem PV_cells {w : World} {ok : Nat → Nat → Prop} {x : AV} {v : Value} (h : PV w ok x v) (ht : x.isTup = false) : PVs w ok x.cells v.cells.toList ∧ ∀ u ∈ v.cells.toList, u.oneCell' = true := by
  cases x <;> simp only [PV] at h
  case tup => simp [AV.isTup] at ht
  case agg cs => obtain ⟨us, rfl, h1, h2⟩ := h; exact ⟨h2, h1⟩
  case junk =>
    have hc : v.cells = #[v] := by cases v <;> simp_all [Value.oneCell', Value.cells]
    rw [hc]; exact ⟨by simp [AV.cells, PVs, PV, h], by simpa using h⟩
  case vs => obtain ⟨ad, len, cap, rfl, h'⟩ := h; exact ⟨by simp only [AV.cells, Value.cells, PVs, PV]; exact ⟨_, _, rfl, ⟨_, _, _, rfl, h'⟩, rfl⟩, by simp [Value.cells, Value.oneCell']⟩
  case pv => obtain ⟨b, q, rfl, h'⟩ := h; exact ⟨by simp only [AV.cells, Value.cells, PVs, PV]; exact ⟨_, _, rfl, ⟨_, _, rfl, h'⟩, rfl⟩, by simp [Value.cells, Value.oneCell']⟩
  case fn => obtain ⟨us, rfl, h'⟩ := h; exact ⟨by simp only [AV.cells, Value.cells, PVs, PV]; exact ⟨_, _, rfl, ⟨_, rfl, h'⟩, rfl⟩, by simp [Value.cells, Value.oneCell']⟩
  case vm => obtain ⟨b, es, clk, rfl, h1, h2, h3, h4⟩ := h; exact ⟨by simp only [AV.cells, Value.cells, PVs]; exact ⟨_, _, rfl, by simp only [PV]; exact ⟨b, es, clk, rfl, h1, h2, h3, h4⟩, rfl⟩, by simp [Value.cells, Value.oneCell']⟩
  all_goals (subst h; exact ⟨by simp [AV.cells, Value.cells, PVs, PV], by simp [Value.cells, Value.oneCell']⟩)
theorem zeroA_spec {t : TypeId} {z : AV} (h : Program.zeroA P t = some z) : ∃ i zv, P.info? t = some i ∧ i.zero = some zv ∧ zv.cells.size = i.size ∧ constAV zv = some z ∧ z.isTup = false := by
  unfold Program.zeroA at h
  split at h
  · rename_i i hi
    split at h
    · rename_i zv hz
      split at h
      · rename_i x hx
        split at h
        · rename_i hc
          cases h
          exact ⟨i, zv, hi, hz, hc.1, hx, hc.2⟩
        · cases h
      · cases h
    · cases h
  · cases h
theorem d_box {t : TypeId} {x : Operand} {x' : Opd} (hS : SR E) (hf : FR E fr a.tmps) (ho : o.op = .box t x) (hx : resOpd x = some x') (ht : (get fr x').isTup = false) :
    Does P a o E (.ptr E.h.boxes.length 0) { E.h with boxes := E.h.boxes ++ [(get fr x').cells] } := by
  obtain ⟨h1, h2⟩ := VR_cells (opd_sound hf hx) ht
  refine ⟨_, .pointer (some ⟨E.w.heap.size, 0, none⟩), E.newBox (a.eval x).cells t (get fr x').cells, ?_, .inl rfl, newBox_ext hS _ _ _, newBox_SR hS h1 h2, rfl, ?_⟩
  · simp only [execOp, ho, Instr.box, newVar, newRow, Sem.run_bind, run_newObj, Result.andThen_ok, Sem.run_pure, World.alloc_eq, Env.newBox]
  · simp only [VR]
    exact ⟨live_new rfl (VRs_hole h1), by simp only [Env.newBox, upd_same]⟩
theorem d_alloc {t : TypeId} {z : AV} (hS : SR E) (ho : o.op = .alloc t) (hz : Program.zeroA P t = some z) :
    Does P a o E (.ptr E.h.boxes.length 0) { E.h with boxes := E.h.boxes ++ [(tagT t z).cells] } := by
  obtain ⟨i, zv, h1, h2, h3, h4, h5⟩ := zeroA_spec hz
  obtain ⟨h6, h7⟩ := VR_cells (E := E) (VR_of_PV _ _ (constAV_sound h4)) h5
  have run : (execOp a.eval o).run P E.w = .ok (.value (.pointer (some ⟨E.w.heap.size, 0, none⟩))) (E.w.alloc (.cells zv.cells t)) := by
    simp only [execOp, ho, Instr.alloc, newVar, newRow, zeroValue, typeInfo, run_program, Sem.run_bind, h1, h2, run_newObj, Result.andThen_ok, Sem.run_pure, World.alloc_eq]
  unfold tagT
  split
  · refine ⟨_, .pointer (some ⟨E.w.heap.size, 0, none⟩), E.newBox zv.cells t [.tbox t z.cells], run, .inl rfl, newBox_ext hS _ _ _, newTBox_SR hS (VRs_all h6) h7, rfl, ?_⟩
    simp only [VR]
    exact ⟨live_new rfl rfl, by simp only [Env.newBox, upd_same]⟩
  · refine ⟨_, .pointer (some ⟨E.w.heap.size, 0, none⟩), E.newBox zv.cells t z.cells, run, .inl rfl, newBox_ext hS _ _ _, newBox_SR hS h6 h7, rfl, ?_⟩
    simp only [VR]
    exact ⟨live_new rfl (VRs_hole h6), by simp only [Env.newBox, upd_same]⟩
theorem fillBox_ok {E : Env} (h : SR E) {p : Nat} {old : List AV} (ho : E.h.boxes[p]? = some old) (hh : isHole old = true) {us : Array Value} {t : TypeId} {cs ys : List AV} (hform : cs = ys ∨ cs = [.tbox t ys]) (hv : VRs E ys us.toList) (h1 : ∀ v ∈ us.toList, v.oneCell' = true) :
    ∃ E' : Env, E'.w = E.w.alloc (.cells us t) ∧ E'.nb p = E.w.heap.size ∧ E'.h = { E.h with boxes := E.h.boxes.set p cs } ∧ Ext E E' ∧ SR E' ∧ E'.Live p := by
  have hcs : isHole cs = false := by rcases hform with rfl | rfl <;> first | exact VRs_hole hv | rfl
  have hnl : ¬ E.Live p := fun hl => by rw [hl.ne ho] at hh; cases hh
  have hp := (List.getElem?_eq_some_iff.1 ho).1
  let E' : Env := { E with w := E.w.alloc (.cells us t), nb := upd E.nb p E.w.heap.size, h := { E.h with boxes := E.h.boxes.set p cs } }
  have hlp : E'.Live p := ⟨cs, by show (E.h.boxes.set p cs)[p]? = _; rw [List.getElem?_set_self hp], hcs⟩
  have hun : ∀ i, E'.Live i → E.Live i ∨ i = p := fun i hi => live_unset (E := E) (E' := E') rfl hi
  have hnb : ∀ i, E.Live i → E'.nb i = E.nb i := fun i hi => upd_other _ _ fun e => hnl (e ▸ hi)
  have hnew : E'.nb p = E.w.heap.size := upd_same _ _ _
  have hx : Ext E E' := by
    refine ⟨fun b o hb => ?_, by simp [E'], fun i hi => ⟨live_set (E := E) (E' := E') rfl hcs hi, hnb i hi⟩, Nat.le_refl _, fun k f f' hf hf' => ?_, rfl, rfl, ⟨(Below.refl _ _).alloc h.basele _, fun _ => Nat.le_refl _⟩⟩
    · have hlt := ok_lt h hb
      refine ⟨?_, cell_eq (Below.heap_alloc _ _ _ hlt)⟩
      rcases hb with hb | ⟨g1, _, g3, g4⟩
      · exact .inl hb
      · refine .inr ⟨g1, by simp [E']; omega, fun i hi e => ?_, g4⟩
        rcases hun i hi with hi' | rfl
        · rw [hnb i hi'] at e
          obtain ⟨cs', hcs'⟩ := g3 i hi' e
          have hne : p ≠ i := fun e' => hnl (e' ▸ hi')
          exact ⟨cs', by show (E.h.boxes.set p cs)[i]? = _; rw [List.getElem?_set_ne hne]; exact hcs'⟩
        · rw [hnew] at e; omega
    · have : f = f' := by have := hf.symm.trans hf'; simpa using this
      subst this
      exact ⟨rfl, Nat.le_refl _, fun _ => rfl⟩
  refine ⟨E', rfl, hnew, rfl, hx, ⟨Nat.le_trans h.basele (by simp [E']), fun i cs' hi hh' => ?_, fun k f hk => ?_, fun i j hi hj he => ?_, h.injf, fun i k hi hk => ?_⟩, hlp⟩
  · by_cases hn : p = i
    · subst hn
      have : cs' = cs := by
        have hi' : (E.h.boxes.set p cs)[p]? = some cs' := hi
        rw [List.getElem?_set_self hp] at hi'
        simpa using hi'.symm
      subst this
      refine ⟨by rw [hnew]; exact h.basele, ?_⟩
      rcases hform with rfl | rfl
      · exact .inl ⟨us, t, by rw [hnew]; exact heap_alloc_new _ _, VRs_ext hx _ _ hv, h1⟩
      · exact .inr (.inr (.inr ⟨t, ys, us, rfl, by rw [hnew]; exact heap_alloc_new _ _, VRs_ext hx _ _ (VRs_all hv), h1⟩))
    · have hi' : E.h.boxes[i]? = some cs' := by
        have hi' : (E.h.boxes.set p cs)[i]? = some cs' := hi
        rwa [List.getElem?_set_ne hn] at hi'
      have hl := live_of hi' hh'
      exact (h.boxes i cs' hi' hh').ext hx hl (Below.heap_alloc _ _ _ (h.nb_lt hl).2)
  · have hk' : k < E.h.fams.length := (List.getElem?_eq_some_iff.1 hk).1
    exact (h.fams k f hk).ext hx rfl (Below.heap_alloc _ _ _ (h.im_lt hk').2)
  · rcases hun i hi with hi' | rfl <;> rcases hun j hj with hj' | rfl
    · rw [hnb i hi', hnb j hj'] at he; exact h.inj i j hi' hj' he
    · rw [hnb i hi', hnew] at he; have := (h.nb_lt hi').2; omega
    · rw [hnb j hj', hnew] at he; have := (h.nb_lt hj').2; omega
    · rfl
  · rcases hun i hi with hi' | rfl
    · rw [hnb i hi']; exact h.sep i k hi' hk
    · rw [hnew]
      have := (h.im_lt hk).2
      show E.w.heap.size ≠ (E.im k).b
      omega
theorem d_allocAt {t : TypeId} {z v : AV} {r : Nat} {h' : AH} (hS : SR E) (ho : o.op = .alloc t) (hz : Program.zeroA P t = some z) (hev : allocAtA E.h r (tagT t z) = some (v, h')) :
    Does P a o E v h' := by
  unfold allocAtA at hev
  split at hev
  case h_2 => cases hev
  rename_i cs hcs
  split at hev
  case isFalse => cases hev
  rename_i hh
  cases hev
  obtain ⟨i, zv, h1, h2, h3, h4, h5⟩ := zeroA_spec hz
  obtain ⟨h6, h7⟩ := VR_cells (E := E) (VR_of_PV _ _ (constAV_sound h4)) h5
  obtain ⟨E', k1, k2, k3, k4, k5, k6⟩ := fillBox_ok hS hcs hh (t := t) (cs := (tagT t z).cells) (ys := z.cells) (by unfold tagT; split <;> simp [AV.cells]) h6 h7
  refine ⟨_, .pointer (some ⟨E.w.heap.size, 0, none⟩), E', ?_, .inl rfl, k4, k5, k3, ?_⟩
  · simp only [execOp, ho, Instr.alloc, newVar, newRow, zeroValue, typeInfo, run_program, Sem.run_bind, h1, h2, run_newObj, Result.andThen_ok, Sem.run_pure, World.alloc_eq, k1]
  · simp only [VR]
    exact ⟨k6, by rw [k2]⟩
theorem run_storeVar {t : TypeId} {b q : Nat} {v : Value} {cur : Array Value} {t' : TypeId} {w : World} {n : Nat} (hn : Program.size? P t = some n) (hg : w.heap[b]? = some (.cells cur t' (0, 0))) (hv : v.cells.size = n) (hfit : q + n ≤ cur.size)
    (h1 : ∀ u ∈ v.cells.toList, u.oneCell' = true) :
    (storeVar t ⟨b, q, none⟩ v).run P w = .ok () (w.setRow b (cur.toList.take q ++ v.cells.toList ++ cur.toList.drop (q + n)).toArray) := by
  have hst := run_storeCells_at P b q t' v.cells.toList 0 cur w hg (by simp; omega) h1
  simp only [Nat.add_zero, Array.length_toList, hv] at hst
  unfold storeVar
  simp [run_size hn, hv, hst]
theorem d_st_box {t : TypeId} {x y : Operand} {x' y' : Opd} {n b off : Nat} {cs : List AV} (hS : SR E) (hf : FR E fr a.tmps) (ho : o.op = .store t x y) (hn : Program.size? P t = some n) (hx : resOpd x = some x') (hy : resOpd y = some y')
    (hg : get fr x' = .ptr b off) (hcs : E.h.boxes[b]? = some cs) (hmb : isMB cs = false) (ht : (get fr y').isTup = false) (hl : (get fr y').cells.length = n) (hfit : off + n ≤ cs.length) :
    Does P a o E undefA { E.h with boxes := E.h.boxes.set b (splice cs off (get fr y').cells) } := by
  have hv := opd_sound hf hx
  rw [hg] at hv
  simp only [VR] at hv
  obtain ⟨hb, e⟩ := hv
  obtain ⟨h1, h2⟩ := VR_cells (opd_sound hf hy) ht
  have hb1 := (hS.boxes b cs hcs (isHole_row hmb)).1
  obtain ⟨cur, t', hc1, hc2, hc3⟩ := (hS.boxes b cs hcs (isHole_row hmb)).row hmb
  have hsz : (a.eval y).cells.size = n := by have := VRs_len h1; simp at this; omega
  have hcl : cur.size = cs.length := by have := VRs_len hc2; simpa using this
  have hrun := run_storeVar (P := P) (q := off) hn hc1 hsz (by omega) h2
  have hvs := VRs_splice hc2 h1 off
  rw [show (a.eval y).cells.toList.length = n from by simp [hsz]] at hvs
  refine ⟨_, undef, E.setBox b (cur.toList.take off ++ (a.eval y).cells.toList ++ cur.toList.drop (off + n)).toArray (splice cs off (get fr y').cells), ?_, .inr ⟨rfl, rfl⟩, setBox_ext hS hcs hmb _ _ (VRs_hole hvs), setBox_SR hS hcs hmb hvs ?_, rfl, VR_undef _⟩
  · simp only [execOp, ho, Instr.storeAt, e, Instr.sureAddr, Sem.run_bind, Sem.run_pure, Result.andThen_ok, hrun]
    rfl
  · intro u hu
    simp only [List.mem_append] at hu
    rcases hu with (hu | hu) | hu
    · exact hc3 u (List.mem_of_mem_take hu)
    · exact h2 u hu
    · exact hc3 u (List.mem_of_mem_drop hu)
theorem splice_get {α : Type} {l : List α} {off : Nat} {vs : List α} (hfit : off + vs.length ≤ l.length) (j : Nat) :
    (l.take off ++ vs ++ l.drop (off + vs.length))[j]? = if j < off then l[j]? else if j < off + vs.length then vs[j - off]? else l[j]? := by
  have hl : (l.take off).length = off := by simp; omega
  by_cases h1 : j < off
  · rw [if_pos h1, List.append_assoc, List.getElem?_append_left (by omega), List.getElem?_take, if_pos h1]
  · rw [if_neg h1]
    by_cases h2 : j < off + vs.length
    · rw [if_pos h2, List.append_assoc, List.getElem?_append_right (by omega), hl, List.getElem?_append_left (by omega)]
    · rw [if_neg h2, List.getElem?_append_right (by simp; omega), List.getElem?_drop]
      congr 1
      simp
      omega
theorem d_st_tbox {t T : TypeId} {x y : Operand} {x' y' : Opd} {n b off : Nat} {cs : List AV} (hS : SR E) (hf : FR E fr a.tmps) (ho : o.op = .store t x y) (hn : Program.size? P t = some n) (hx : resOpd x = some x') (hy : resOpd y = some y')
    (hg : get fr x' = .ptr b off) (hcs : E.h.boxes[b]? = some [.tbox T cs]) (ht : (get fr y').isTup = false) (hl : (get fr y').cells.length = n) (hfit : off + n ≤ cs.length) :
    Does P a o E undefA { E.h with boxes := E.h.boxes.set b [.tbox T (splice cs off (get fr y').cells)] } := by
  have hv := opd_sound hf hx
  rw [hg] at hv
  simp only [VR] at hv
  obtain ⟨hb, e⟩ := hv
  obtain ⟨h1, h2⟩ := VR_cells (opd_sound hf hy) ht
  obtain ⟨cur, hc1, hc2, hc3⟩ := (hS.boxes b _ hcs rfl).typ
  have hsz : (a.eval y).cells.size = n := by have := VRs_len h1; simp at this; omega
  have hcl : cs.length ≤ cur.size := by have := VRs_len hc2; simp at this; omega
  have hrun := run_storeVar (P := P) (q := off) hn hc1 hsz (by omega) h2
  have hvs := VRs_splice hc2 h1 off
  rw [show (a.eval y).cells.toList.length = n from by simp [hsz]] at hvs
  have hsl : (splice cs off (get fr y').cells).length = cs.length := by unfold splice; simp [hl]; omega
  have hvl : (a.eval y).cells.toList.length = n := by simp [hsz]
  have hcut : (cur.toList.take cs.length).take off ++ (a.eval y).cells.toList ++ (cur.toList.take cs.length).drop (off + n) = (cur.toList.take off ++ (a.eval y).cells.toList ++ cur.toList.drop (off + n)).take (splice cs off (get fr y').cells).length := by
    have hto : (cur.toList.take off).length = off := by rw [List.length_take]; simp; omega
    rw [hsl, List.take_append, List.length_append, hto, hvl, List.take_of_length_le (l := cur.toList.take off ++ (a.eval y).cells.toList) (by rw [List.length_append, hto, hvl]; exact hfit), List.take_take, Nat.min_eq_left (by omega), List.drop_take]
  rw [hcut] at hvs
  obtain ⟨k1, k2⟩ := setTBox_SR hS hcs (us := (cur.toList.take off ++ (a.eval y).cells.toList ++ cur.toList.drop (off + n)).toArray) hvs (by
    intro v hv
    simp only [List.mem_append] at hv
    rcases hv with (hv | hv) | hv
    · exact hc3 v (List.mem_of_mem_take hv)
    · exact h2 v hv
    · exact hc3 v (List.mem_of_mem_drop hv))
  refine ⟨_, undef, E.setBox b (cur.toList.take off ++ (a.eval y).cells.toList ++ cur.toList.drop (off + n)).toArray [.tbox T (splice cs off (get fr y').cells)], ?_, .inr ⟨rfl, rfl⟩, k2, k1, rfl, VR_undef _⟩
  simp only [execOp, ho, Instr.storeAt, e, Instr.sureAddr, Sem.run_bind, Sem.run_pure, Result.andThen_ok, hrun]
  rfl
theorem d_st_row {t : TypeId} {x y : Operand} {x' y' : Opd} {n k m i c sz : Nat} {f : Fam} {el u z : AV} (hS : SR E) (hf : FR E fr a.tmps) (ho : o.op = .store t x y) (hn : Program.size? P t = some n) (hx : resOpd x = some x') (hy : resOpd y = some y')
    (hg : get fr x' = .ep k m i c sz) (hfk : E.h.fams[k]? = some f) (hm : f.xs.length = m) (hmz : f.sz = sz) (hw : f.wr = true) (hel : f.xs[i]? = some el) (hu : frz E.h false (get fr y') = some u)
    (hl : u.cells.length = n) (hfit : c + n ≤ el.cells.length) (hzc : z.cells = splice el.cells c u.cells) :
    Does P a o E undefA { E.h with fams := E.h.fams.set k { f with xs := f.xs.set i z } } := by
  have hv := opd_sound hf hx
  rw [hg] at hv
  simp only [VR] at hv
  obtain ⟨b0, o0, f', e, hfk', _, had⟩ := hv
  have : f' = f := by rw [hfk] at hfk'; simpa using hfk'.symm
  subst this
  obtain ⟨hlo, hbo⟩ := had ⟨hm, hmz⟩
  rw [hbo] at e
  have hF := hS.fams k f' hfk
  obtain ⟨cur, t', c1, c2, c3⟩ := hF.cells
  obtain ⟨e1, e2⟩ := c3 i el hlo hel
  obtain ⟨hPu, hut⟩ := frz_sound hS (am := false) (ok' := E.ok) ⟨fun _ _ h => h, fun h => by cases h⟩ (opd_sound hf hy) hu
  obtain ⟨h1, h2⟩ := PV_cells hPu hut
  obtain ⟨hul, hug⟩ := PVs_get h1
  have hsz : (a.eval y).cells.size = n := by simp at hul; omega
  have hi : i < f'.xs.length := (List.getElem?_eq_some_iff.1 hel).1
  have hroom := hF.room
  have hpos : (E.im k).o + (i - (E.im k).lo) * f'.sz + f'.sz ≤ cur.size := by
    have h3 : (i - (E.im k).lo + 1) * f'.sz ≤ (E.im k).cap * f'.sz := Nat.mul_le_mul_right _ (by omega)
    rw [Nat.succ_mul] at h3
    omega
  have hrun := run_storeVar (P := P) (q := (E.im k).o + (i - (E.im k).lo) * f'.sz + c) hn c1 hsz (by omega) h2
  obtain ⟨us, hus⟩ : ∃ us : Array Value, us = (cur.toList.take ((E.im k).o + (i - (E.im k).lo) * f'.sz + c) ++ (a.eval y).cells.toList ++ cur.toList.drop ((E.im k).o + (i - (E.im k).lo) * f'.sz + c + n)).toArray := ⟨_, rfl⟩
  rw [← hus] at hrun
  have hget : ∀ j : Nat, us[j]? = if j < (E.im k).o + (i - (E.im k).lo) * f'.sz + c then cur[j]? else if j < (E.im k).o + (i - (E.im k).lo) * f'.sz + c + n then (a.eval y).cells[j - ((E.im k).o + (i - (E.im k).lo) * f'.sz + c)]? else cur[j]? := by
    intro j
    have := splice_get (l := cur.toList) (off := (E.im k).o + (i - (E.im k).lo) * f'.sz + c) (vs := (a.eval y).cells.toList) (by simp; omega) j
    simp only [Array.length_toList, hsz, Array.getElem?_toList] at this
    rw [hus, List.getElem?_toArray, this]
  have hussz : us.size = cur.size := by rw [hus]; simp; omega
  refine ⟨_, undef, E.setFam k us { f' with xs := f'.xs.set i z }, ?_, .inr ⟨rfl, rfl⟩,
    setFam_ext hS hfk c1 rfl rfl (by simp) (fun h => by rw [hw] at h; cases h), setFam_SR hS hfk c1 rfl rfl (by simp) (fun h => by rw [hw] at h; cases h) (by simpa using hroom) hussz ?_, rfl, VR_undef _⟩
  · simp only [execOp, ho, Instr.storeAt, e, Instr.sureAddr, Sem.run_bind, Sem.run_pure, Result.andThen_ok, hrun]
    rfl
  · intro j x' hj hx'
    have hx'' : (f'.xs.set i z)[j]? = some x' := hx'
    by_cases hij : i = j
    · subst hij
      rw [List.getElem?_set_self hi] at hx''
      cases hx''
      refine ⟨by rw [hzc]; simp [splice]; omega, fun q y' hq => ?_⟩
      rw [hzc] at hq
      unfold splice at hq
      rw [splice_get (by omega)] at hq
      have hq' : q < f'.sz := by
        rcases Nat.lt_or_ge q f'.sz with h | h
        · exact h
        · rw [if_neg (by omega), if_neg (by omega), List.getElem?_eq_none (by omega)] at hq; cases hq
      rw [hget]
      by_cases hqc : q < c
      · rw [if_pos hqc] at hq
        rw [if_pos (by omega)]
        obtain ⟨v, v1, v2, v3⟩ := e2 q y' hq
        exact ⟨v, by simpa using v1, v2, v3⟩
      · rw [if_neg hqc] at hq
        by_cases hqn : q < c + u.cells.length
        · rw [if_pos hqn] at hq
          rw [if_neg (by omega), if_pos (by omega)]
          obtain ⟨v, v1, v2⟩ := hug hq
          refine ⟨v, ?_, h2 v (List.mem_of_getElem? v1), v2⟩
          rw [show (E.im k).o + (i - (E.im k).lo) * f'.sz + q - ((E.im k).o + (i - (E.im k).lo) * f'.sz + c) = q - c from by omega]
          simpa using v1
        · rw [if_neg hqn] at hq
          rw [if_neg (by omega), if_neg (by omega)]
          obtain ⟨v, v1, v2, v3⟩ := e2 q y' hq
          exact ⟨v, by simpa using v1, v2, v3⟩
    · rw [List.getElem?_set_ne hij] at hx''
      obtain ⟨g1, g2⟩ := c3 j x' hj hx''
      refine ⟨g1, fun q y' hq => ?_⟩
      obtain ⟨v, v1, v2, v3⟩ := g2 q y' hq
      refine ⟨v, ?_, v2, v3⟩
      have hqs : q < f'.sz := by have := (List.getElem?_eq_some_iff.1 hq).1; omega
      rw [hget]
      rcases Nat.lt_or_gt_of_ne (show j ≠ i from fun e => hij e.symm) with hlt | hgt
      · have h3 : (j - (E.im k).lo + 1) * f'.sz ≤ (i - (E.im k).lo) * f'.sz := Nat.mul_le_mul_right _ (by omega)
        rw [Nat.succ_mul] at h3
        rw [if_pos (by omega)]
        simpa using v1
      · have h3 : (i - (E.im k).lo + 1) * f'.sz ≤ (j - (E.im k).lo) * f'.sz := Nat.mul_le_mul_right _ (by omega)
        rw [Nat.succ_mul] at h3
        rw [if_neg (by omega), if_neg (by omega)]
        simpa using v1
end
section
variable {E : Env} {P : Program} {fr : Fr} {a : Act} {o : Oper}
theorem fold_put (off : Nat) : ∀ (l : List Value) (k : Nat) (cells : Array Value), off + k + l.length ≤ cells.size →
    ((l.zipIdx k).foldl (fun cs (x : Value × Nat) => cs.setIfInBounds (off + x.2) x.1) cells).toList = cells.toList.take (off + k) ++ l ++ cells.toList.drop (off + k + l.length)
  | [], k, cells, _ => by simp
  | v :: l, k, cells, h => by
    simp only [List.length_cons] at h
    simp only [List.zipIdx_cons, List.foldl_cons]
    rw [fold_put off l (k + 1) _ (by simp; omega)]
    have := list_seg_step cells.toList (off + k) v l (by simp; omega)
    simp only [Array.toList_setIfInBounds, List.length_cons]
    rw [show off + (k + 1) = off + k + 1 from by omega]
    exact this
theorem fill_step {place : Nat → Option (Nat × Nat)} {cells : Array Value} {i off size : Nat} {v : Value} {rest : List (Nat × Value)} (hp : place i = some (off, size)) (hs : v.cells.size = size) (hfit : off + size ≤ cells.size) :
    Instr.fill place cells ((i, v) :: rest) = Instr.fill place (cells.toList.take off ++ v.cells.toList ++ cells.toList.drop (off + size)).toArray rest := by
  have h := fold_put off v.cells.toList 0 cells (by simp; omega)
  simp only [Nat.add_zero, Array.length_toList, hs] at h
  have h2 : (v.cells.zipIdx.foldl (fun cs (x : Value × Nat) => cs.setIfInBounds (off + x.2) x.1) cells) = (cells.toList.take off ++ v.cells.toList ++ cells.toList.drop (off + size)).toArray := by
    apply Array.ext'
    rw [← h, ← Array.foldl_toList]
    simp
  simp only [Instr.fill, hp, hs]
  rw [if_neg (by simp; omega)]
  exact congrArg (fun c => Instr.fill place c rest) h2
theorem build_sound (hf : FR E fr a.tmps) {fs : Array Field} {places : Nat → Option (Nat × Nat)} (hpl : ∀ (j : Nat) (f : Field) (n : Nat), fs[j]? = some f → Program.size? P f.type = some n → places j = some (f.offset, n)) :
    ∀ {parts : List (Nat × Operand)} {ps : List (Nat × Nat × Opd)} {qs : List (Nat × AV)} {cells : Array Value} {zs : List AV}, mapO (resPart P fs) parts = some ps → buildParts fr zs.length ps = some qs → VRs E zs cells.toList → (∀ u ∈ cells.toList, u.oneCell' = true) →
      ∃ us, Instr.fill places cells (parts.map fun p => (p.1, a.eval p.2)) = some us ∧ VRs E (fillParts zs qs) us.toList ∧ ∀ u ∈ us.toList, u.oneCell' = true
  | [], ps, qs, cells, zs, hp, hq, hz, h1 => by
    simp [mapO] at hp; subst hp
    simp [buildParts] at hq; subst hq
    exact ⟨cells, rfl, hz, h1⟩
  | (i, x) :: parts, ps, qs, cells, zs, hp, hq, hz, h1 => by
    simp only [mapO] at hp
    split at hp
    · rename_i y ys hy hys
      cases hp
      obtain ⟨off, n, x'⟩ := y
      unfold resPart at hy
      split at hy
      · rename_i f xx hfi hxx
        split at hy
        · rename_i n' hn'
          simp at hy
          obtain ⟨rfl, rfl, rfl⟩ := hy
          simp only [buildParts] at hq
          split at hq
          · rename_i hc
            simp only [Option.map_eq_some_iff] at hq
            obtain ⟨qs', hqs', rfl⟩ := hq
            obtain ⟨g1, g2⟩ := VR_cells (opd_sound hf hxx) hc.1
            have hsz : (a.eval x).cells.size = n' := by have := VRs_len g1; simp at this; omega
            have hcl : cells.size = zs.length := by have := VRs_len hz; simpa using this
            have hstep := fill_step (place := places) (cells := cells) (rest := parts.map fun p => (p.1, a.eval p.2)) (hpl i f n' hfi hn') hsz (by omega)
            have hvs := VRs_splice hz g1 f.offset
            rw [show (a.eval x).cells.toList.length = n' from by simp [hsz]] at hvs
            have hlen : (splice zs f.offset (get fr xx).cells).length = zs.length := by simp [splice]; omega
            obtain ⟨us, k1, k2, k3⟩ := build_sound hf hpl (cells := (cells.toList.take f.offset ++ (a.eval x).cells.toList ++ cells.toList.drop (f.offset + n')).toArray) (zs := splice zs f.offset (get fr xx).cells) hys (by rw [hlen]; exact hqs') (by simpa using hvs) (by
              intro u hu
              simp only [List.mem_append] at hu
              rcases hu with (hu | hu) | hu
              · exact h1 u (List.mem_of_mem_take hu)
              · exact g2 u hu
              · exact h1 u (List.mem_of_mem_drop hu))
            refine ⟨us, ?_, ?_, k3⟩
            · simp only [List.map_cons]; rw [hstep]; exact k1
            · simpa [fillParts] using k2
          · cases hq
        · cases hy
      · cases hy
    · cases hp
theorem mapM_get {α β : Type} {f : α → Option β} : ∀ {l : List α} {r : List β}, l.mapM f = some r → ∀ {j : Nat} {x : α}, l[j]? = some x → ∃ y, f x = some y ∧ r[j]? = some y
  | [], r, _, j, x, hx => by simp at hx
  | b :: l, r, h, j, x, hx => by
    simp only [List.mapM_cons, Option.bind_eq_bind, Option.pure_def, Option.bind_eq_some_iff] at h
    obtain ⟨y, hy, ys, hys, hr⟩ := h
    cases hr
    cases j with
    | zero => simp at hx; subst hx; exact ⟨y, hy, rfl⟩
    | succ j => simpa using mapM_get hys (j := j) (x := x) (by simpa using hx)
theorem q_build {t : TypeId} {parts : Array (Nat × Operand)} {fs : Array Field} {zs : List AV} {ps : List (Nat × Nat × Opd)} {qs : List (Nat × AV)} (hf : FR E fr a.tmps) (ho : o.op = .build t parts) (hu : P.underlying t = some (.struct fs)) (hz : Program.zeroA P t = some (.agg zs))
    (hs : (fs.toList.mapM fun f => (P.info? f.type).map fun i => (f.offset, i.size)).isSome = true) (hp : mapO (resPart P fs) parts.toList = some ps) (hq : buildParts fr zs.length ps = some qs) : Quiet P a o E (.agg (fillParts zs qs)) := by
  obtain ⟨i, zv, h1, h2, h3, h4, h5⟩ := zeroA_spec hz
  obtain ⟨places, hpl⟩ := Option.isSome_iff_exists.1 hs
  obtain ⟨g1, g2⟩ := VR_cells (E := E) (VR_of_PV _ _ (constAV_sound h4)) h5
  obtain ⟨us, k1, k2, k3⟩ := build_sound (E := E) (P := P) hf (places := fun j => places.toArray[j]?) (fun j f n hj hn => by
    obtain ⟨y, hy, hy'⟩ := mapM_get hpl (j := j) (x := f) (by simpa using hj)
    unfold Program.size? at hn
    simp only [Option.map_eq_some_iff] at hn hy
    obtain ⟨i', hi', rfl⟩ := hn
    obtain ⟨i'', hi'', rfl⟩ := hy
    rw [hi'] at hi''; cases hi''
    simpa using hy') hp hq g1 g2
  have hb : P.built t (parts.map fun (i, x) => (i, a.eval x)).toList = some us := by
    unfold Program.built
    simp only [h1, hu, h2, hpl, Array.toList_map]
    exact k1
  refine ⟨.agg us, ?_, ?_⟩
  · simp only [execOp, ho, Sem.run_bind, run_build E.w t _ us hb, Result.andThen_ok, Sem.run_pure]
  · simp only [VR]
    exact ⟨us, rfl, k3, k2⟩
def RowL (E : Env) (us : List Value) (xs : List AV) (sz : Nat) : Prop :=
  ∀ (i : Nat) (x : AV), xs[i]? = some x → x.cells.length = sz ∧ ∀ (c : Nat) (y : AV), x.cells[c]? = some y → ∃ v, us[i * sz + c]? = some v ∧ v.oneCell' = true ∧ PV E.w E.ok y v
theorem madeCells_get (z : Array Value) (n : Nat) (i c : Nat) (hc : c < z.size) (hi : i < n) : (madeCells z (n * z.size))[i * z.size + c]? = some z[c] := by
  have hlt := mul_room hi hc
  unfold madeCells
  rw [Array.getElem?_map, Array.getElem?_range, if_pos hlt]
  have : (i * z.size + c) % z.size = c := by rw [Nat.add_comm, Nat.mul_comm, Nat.add_mul_mod_self_left, Nat.mod_eq_of_lt hc]
  simp [this, getElem!_pos, hc]
theorem made_RowL {t : TypeId} {z : AV} (hz : Program.zeroA P t = some z) {n : Nat} {i : TypeInfo} (hi : P.info? t = some i) (hpos : 0 < i.size) : ∃ zv, i.zero = some zv ∧ z.cells.length = i.size ∧ zv.cells.size = i.size ∧ RowL E (madeCells zv.cells (n * i.size)).toList (List.replicate n z) i.size ∧ ∀ u ∈ (madeCells zv.cells (n * i.size)).toList, u.oneCell' = true := by
  obtain ⟨i', zv, h1, h2, h3, h4, h5⟩ := zeroA_spec hz
  rw [hi] at h1; cases h1
  have hpv := constAV_sound (w := E.w) (ok := E.ok) h4
  obtain ⟨g1, g2⟩ := PV_cells hpv h5
  obtain ⟨gl, gg⟩ := PVs_get g1
  have hl : z.cells.length = i.size := by simp at gl; omega
  refine ⟨zv, h2, hl, h3, fun j x hx => ?_, fun u hu => ?_⟩
  · rw [List.getElem?_replicate] at hx
    split at hx
    · rename_i hj
      cases hx
      refine ⟨hl, fun c y hy => ?_⟩
      have hc : c < zv.cells.size := by have := (List.getElem?_eq_some_iff.1 hy).1; omega
      obtain ⟨v, v1, v2⟩ := gg hy
      have := madeCells_get zv.cells n j c hc hj
      rw [h3] at this
      refine ⟨zv.cells[c], by rw [Array.getElem?_toList]; exact this, g2 _ (by simp), ?_⟩
      have e : v = zv.cells[c] := by
        rw [Array.getElem?_toList, Array.getElem?_eq_getElem hc] at v1; simpa using v1.symm
      rw [← e]; exact v2
    · cases hx
  · obtain ⟨j, hj⟩ := List.getElem?_of_mem hu
    rw [Array.getElem?_toList] at hj
    unfold madeCells at hj
    rw [Array.getElem?_map, Array.getElem?_range] at hj
    split at hj
    · simp at hj
      have hm : j % zv.cells.size < zv.cells.size := Nat.mod_lt _ (by omega)
      rw [getElem!_pos zv.cells _ hm] at hj
      subst hj
      exact g2 _ (by simp)
    · simp at hj
theorem slice_sound (hS : SR E) (hf : FR E fr a.tmps) {sz : Nat} (hpos : 0 < sz) :
    ∀ {parts : List (Nat × Operand)} {ps : List (Nat × Opd)} {xs ys : List AV} {cells : Array Value}, mapO resElem parts = some ps → sliceParts fr E.h xs ps = some ys → RowL E cells.toList xs sz → cells.size = xs.length * sz → (∀ u ∈ cells.toList, u.oneCell' = true) →
      ∃ us, Instr.fill (fun i => some (i * sz, sz)) cells (parts.map fun p => (p.1, a.eval p.2)) = some us ∧ RowL E us.toList ys sz ∧ us.size = ys.length * sz ∧ ys.length = xs.length
  | [], ps, xs, ys, cells, hp, hq, hr, hs, _ => by
    simp [mapO] at hp; subst hp
    simp [sliceParts] at hq; subst hq
    exact ⟨cells, rfl, hr, hs, rfl⟩
  | (i, x) :: parts, ps, xs, ys, cells, hp, hq, hr, hs, h1 => by
    simp only [mapO] at hp
    split at hp
    · rename_i y yr hy hyr
      cases hp
      unfold resElem at hy
      simp only [Option.map_eq_some_iff] at hy
      obtain ⟨x', hx', rfl⟩ := hy
      simp only [sliceParts] at hq
      split at hq
      · rename_i z y hz hyy
        split at hq
        · rename_i hc
          obtain ⟨hPu, hut⟩ := frz_sound hS (am := false) (ok' := E.ok) ⟨fun _ _ h => h, fun h => by cases h⟩ (opd_sound hf hx') hyy
          obtain ⟨g1, g2⟩ := PV_cells hPu hut
          obtain ⟨gl, gg⟩ := PVs_get g1
          obtain ⟨r1, r2⟩ := hr i z hz
          have hi : i < xs.length := (List.getElem?_eq_some_iff.1 hz).1
          have hsz : (a.eval x).cells.size = sz := by simp at gl; omega
          have hfit : i * sz + sz ≤ cells.size := by
            have : (i + 1) * sz ≤ xs.length * sz := Nat.mul_le_mul_right _ hi
            rw [Nat.succ_mul] at this; omega
          have hstep := fill_step (place := fun i => some (i * sz, sz)) (cells := cells) (i := i) (rest := parts.map fun p => (p.1, a.eval p.2)) rfl hsz hfit
          have hget := fun j => splice_get (l := cells.toList) (off := i * sz) (vs := (a.eval x).cells.toList) (by simp; omega) j
          simp only [Array.length_toList, hsz] at hget
          obtain ⟨us, k1, k2, k3, k4⟩ := slice_sound hS hf hpos (parts := parts) (xs := xs.set i y) (cells := (cells.toList.take (i * sz) ++ (a.eval x).cells.toList ++ cells.toList.drop (i * sz + sz)).toArray) hyr hq (fun j w hw => by
            by_cases hij : i = j
            · subst hij
              rw [List.getElem?_set_self hi] at hw
              cases hw
              refine ⟨by omega, fun c q hq' => ?_⟩
              obtain ⟨v, v1, v2⟩ := gg hq'
              have hcs : c < sz := by have := (List.getElem?_eq_some_iff.1 hq').1; omega
              refine ⟨v, ?_, g2 v (List.mem_of_getElem? v1), v2⟩
              show (List.take _ _ ++ _ ++ List.drop _ _)[_]? = some v
              rw [hget, if_neg (by omega), if_pos (by omega), show i * sz + c - i * sz = c from by omega]
              exact v1
            · rw [List.getElem?_set_ne hij] at hw
              obtain ⟨s1, s2⟩ := hr j w hw
              refine ⟨s1, fun c q hq' => ?_⟩
              obtain ⟨v, v1, v2, v3⟩ := s2 c q hq'
              refine ⟨v, ?_, v2, v3⟩
              have hcs : c < sz := by have := (List.getElem?_eq_some_iff.1 hq').1; omega
              show (List.take _ _ ++ _ ++ List.drop _ _)[_]? = some v
              rw [hget]
              rcases Nat.lt_or_gt_of_ne (show j ≠ i from fun e => hij e.symm) with hlt | hgt
              · have := mul_room hlt hcs
                rw [if_pos this]; exact v1
              · have h3 : (i + 1) * sz ≤ j * sz := Nat.mul_le_mul_right _ hgt
                rw [Nat.succ_mul] at h3
                rw [if_neg (by omega), if_neg (by omega)]; exact v1) (by
              simp only [List.size_toArray, List.length_append, List.length_take, List.length_drop, Array.length_toList, hsz, List.length_set]
              omega) (by
              intro u hu
              simp only [List.mem_append] at hu
              rcases hu with (hu | hu) | hu
              · exact h1 u (List.mem_of_mem_take hu)
              · exact g2 u hu
              · exact h1 u (List.mem_of_mem_drop hu))
          exact ⟨us, by simp only [List.map_cons]; rw [hstep]; exact k1, k2, k3, by simpa using k4⟩
        · cases hq
      · cases hq
    · cases hp
theorem fresh_PV (hS : SR E) {us : Array Value} {e : TypeId} {xs : List AV} {sz : Nat} (hpos : 0 < sz) (hr : RowL E us.toList xs sz) (hm : xs.length ≤ maxLen) :
    PV (E.w.alloc (.cells us e)) ({ E with w := E.w.alloc (.cells us e) } : Env).ok (.vs true sz xs) (.slice (some ⟨E.w.heap.size, 0, none⟩) xs.length xs.length) := by
  have hb : Bl E.w.heap.size E.w (E.w.alloc (.cells us e)) := ⟨(Below.refl _ _).alloc (Nat.le_refl _) _, fun _ => Nat.le_refl _⟩
  have hx := grow_ext hS hb
  simp only [PV]
  refine ⟨_, _, _, rfl, rfl, Nat.le_refl _, hm, fun _ => rfl, ⟨(fun h => nomatch h), ⟨(fun h => nomatch h), fun e => absurd hpos (by omega)⟩⟩, fun _ => ⟨_, _, rfl, hpos, PEls_of fun j x hj => ?_⟩⟩
  obtain ⟨r1, r2⟩ := hr j x hj
  refine ⟨r1, PCells_of fun c y hc => ?_⟩
  obtain ⟨v, v1, v2, v3⟩ := r2 c y hc
  refine ⟨v, ?_, ?_, v2, PV_mono hx.cells _ _ v3⟩
  · refine .inr ⟨hS.basele, by simp, fun i hi => ?_, fun k f hk he => ?_⟩
    · have := (hS.nb_lt hi).2
      intro e
      have e' : E.nb i = E.w.heap.size := e
      omega
    · have := (hS.im_lt (List.getElem?_eq_some_iff.1 hk).1).2
      have he' : (E.im k).b = E.w.heap.size := he
      omega
  · rw [Nat.zero_add, cell_of_row _ _ _ _ _ _ (heap_alloc_new _ _)]
    simpa using v1
theorem d_bslice {t e : TypeId} {len : Nat} {parts : Array (Nat × Operand)} {z : AV} {n : Nat} {ps : List (Nat × Opd)} {xs : List AV} (hS : SR E) (hf : FR E fr a.tmps) (ho : o.op = .buildSlice t len parts) (hu : P.underlying t = some (.slice e)) (hz : Program.zeroA P e = some z) (hn : Program.size? P e = some n)
    (hpos : 0 < n) (hlim : len * n ≤ 2 ^ 24) (hp : mapO resElem parts.toList = some ps) (hq : sliceParts fr E.h (List.replicate len z) ps = some xs) : Does P a o E (.vs true z.cells.length xs) E.h := by
  have hn' := hn
  unfold Program.size? at hn'
  simp only [Option.map_eq_some_iff] at hn'
  obtain ⟨i, hi, rfl⟩ := hn'
  obtain ⟨zv, h2, hl, h3, hr, h1⟩ := made_RowL (E := E) hz (n := len) hi hpos
  obtain ⟨us, k1, k2, k3, k4⟩ := slice_sound hS hf hpos hp hq hr (by simp [madeCells]) h1
  have hlen : xs.length = len := by simpa using k4
  have hmax : xs.length ≤ maxLen := by
    have : len * 1 ≤ len * i.size := Nat.mul_le_mul_left _ hpos
    rw [hlen]; unfold maxLen; omega
  have hpv := fresh_PV (e := e) hS hpos k2 hmax
  have hb : Bl E.w.heap.size E.w (E.w.alloc (.cells us e)) := ⟨(Below.refl _ _).alloc (Nat.le_refl _) _, fun _ => Nat.le_refl _⟩
  rw [hl]
  refine ⟨_, .slice (some ⟨E.w.heap.size, 0, none⟩) xs.length xs.length, { E with w := E.w.alloc (.cells us e) }, ?_, .inl rfl, grow_ext hS hb, grow_SR hS hb, rfl, ?_⟩
  · have hsize : (sizeOf e).run P E.w = .ok i.size E.w := run_size hn _
    by_cases h0 : len * i.size = 0
    · have hc0 : madeCells zv.cells (len * i.size) = #[] := by simp [h0, madeCells]
      rw [hc0] at k1
      simp [execOp, ho, Instr.buildSlice, run_under hu, hsize, h0, newRow, hlen, Array.range_zero', k1]
    · simp [execOp, ho, Instr.buildSlice, run_under hu, hsize, h0, show ¬ (16777216 < len * i.size) from by omega, zeroValue, typeInfo, hi, h2, newRow, hlen]
      unfold madeCells at k1
      simp [k1]
  · simp only [VR]
    exact hpv
end
section
variable {E : Env} {P : Program} {fr : Fr} {a : Act} {o : Oper}
theorem RowL_FElem {us : Array Value} {xs : List AV} {sz : Nat} (h : RowL E us.toList xs sz) (i : Nat) (x : AV) (hx : xs[i]? = some x) : FElem E us (i * sz) sz x := by
  obtain ⟨h1, h2⟩ := h i x hx
  exact ⟨h1, fun c y hc => by obtain ⟨v, v1, v2, v3⟩ := h2 c y hc; exact ⟨v, by simpa using v1, v2, v3⟩⟩
theorem d_mkslice {t e : TypeId} {l c : Operand} {l' c' : Opd} {z : AV} {i : TypeInfo} {k1 k2 : IntKind} {x y : Int} (hS : SR E) (hf : FR E fr a.tmps) (ho : o.op = .makeSlice t l c) (hu : P.underlying t = some (.slice e)) (hi : P.info? e = some i) (hz : Program.zeroA P e = some z)
    (hpos : 0 < i.size) (hl : resOpd l = some l') (hc : resOpd c = some c') (hx : get fr l' = .int k1 x) (hy : get fr c' = .int k2 y) (h0 : 0 ≤ x) (hxy : x ≤ y) (hb : y * i.bytes ≤ roomA) (hm : y ≤ maxLen) :
    Does P a o E (.sl E.h.fams.length x.toNat 0 x.toNat) { E.h with fams := E.h.fams ++ [⟨List.replicate x.toNat z, z.cells.length, true⟩] } := by
  have e1 := opd_sound hf hl
  have e2 := opd_sound hf hc
  rw [hx] at e1; rw [hy] at e2
  simp only [VR] at e1 e2
  obtain ⟨zv, h2, hzl, h3, hr, h1⟩ := made_RowL (E := E) hz (n := y.toNat) hi hpos
  have hrun := run_make (P := P) E.w t e i zv hu hi h2 k1 k2 x y h0 hxy (by rw [Int.mul_comm]; unfold roomA at hb; omega) (by unfold maxLen at hm; omega)
  have hlen : (List.replicate x.toNat z).length = x.toNat := by simp
  have hel : ∀ (j : Nat) (w : AV), (List.replicate x.toNat z)[j]? = some w → FElem E (madeCells zv.cells (y.toNat * i.size)) (j * z.cells.length) z.cells.length w := by
    intro j w hw
    rw [hzl]
    refine RowL_FElem hr j w ?_
    rw [List.getElem?_replicate] at hw ⊢
    split at hw
    · rename_i hj
      cases hw
      rw [if_pos (by omega)]
    · cases hw
  refine ⟨_, .slice (some ⟨E.w.heap.size, 0, none⟩) x.toNat y.toNat, E.newFam (madeCells zv.cells (y.toNat * i.size)) e y.toNat ⟨List.replicate x.toNat z, z.cells.length, true⟩, ?_, .inl rfl, newFam_ext hS _ _ _ _,
    newFam_SR hS (by simpa [hzl] using hpos) (by simp; omega) (by omega) (by simp [size_madeCells, hzl]) hel, rfl, ?_⟩
  · simp only [execOp, ho, e1, e2, Sem.run_bind, hrun, Result.andThen_ok, Sem.run_pure, Env.newFam]
  · simp only [VR, Env.newFam, upd_same]
    refine ⟨_, _, ⟨List.replicate x.toNat z, z.cells.length, true⟩, rfl, by simp, ⟨by simp, fun _ => ⟨_, _, rfl⟩⟩, fun _ => ⟨Nat.zero_le _, by simp, by simp, (fun h => nomatch h), fun _ => by simp⟩⟩
theorem div_cut {n sz j : Nat} (hsz : 0 < sz) (hj : j < n * sz) : j / sz < n ∧ j % sz < sz ∧ j / sz * sz + j % sz = j :=
  ⟨Nat.div_lt_of_lt_mul (by rwa [Nat.mul_comm]), Nat.mod_lt _ hsz, by rw [Nat.mul_comm]; exact Nat.div_add_mod j sz⟩
def MemRow (E : Env) (b q sz : Nat) (ys : List AV) : Prop :=
  ∀ (i : Nat) (x : AV), ys[i]? = some x → x.cells.length = sz ∧ ∀ (c : Nat) (y : AV), x.cells[c]? = some y → ∃ v, E.w.cell? ⟨b, q + i * sz + c, none⟩ = some v ∧ v.oneCell' = true ∧ PV E.w E.ok y v
theorem MemRow_list {b q sz : Nat} {ys : List AV} (hsz : 0 < sz) (h : MemRow E b q sz ys) :
    ∃ news : List Value, news.length = ys.length * sz ∧ (∀ (j : Nat) (u : Value), news[j]? = some u → E.w.cell? ((⟨b, q, none⟩ : Addr).add j) = some u) ∧ (∀ u ∈ news, u.oneCell' = true) ∧ RowL E news ys sz := by
  have hex : ∀ j, j < ys.length * sz → ∃ u, E.w.cell? ⟨b, q + j, none⟩ = some u ∧ u.oneCell' = true ∧ ∃ y x, ys[j / sz]? = some x ∧ x.cells[j % sz]? = some y ∧ PV E.w E.ok y u := by
    intro j hj
    obtain ⟨h1, h2, h3⟩ := div_cut hsz hj
    obtain ⟨g1, g2⟩ := h (j / sz) _ (List.getElem?_eq_getElem h1)
    obtain ⟨v, v1, v2, v3⟩ := g2 (j % sz) _ (List.getElem?_eq_getElem (by omega))
    rw [show q + j / sz * sz + j % sz = q + j from by omega] at v1
    exact ⟨v, v1, v2, _, _, List.getElem?_eq_getElem h1, List.getElem?_eq_getElem _, v3⟩
  have hpick : ∃ g : Nat → Value, ∀ j, j < ys.length * sz → E.w.cell? ⟨b, q + j, none⟩ = some (g j) ∧ (g j).oneCell' = true ∧ ∃ y x, ys[j / sz]? = some x ∧ x.cells[j % sz]? = some y ∧ PV E.w E.ok y (g j) := by
    refine ⟨fun j => if hj : j < ys.length * sz then Classical.choose (hex j hj) else default, fun j hj => ?_⟩
    simp only [hj, dif_pos]
    exact Classical.choose_spec (hex j hj)
  obtain ⟨g, hg⟩ := hpick
  refine ⟨(List.range (ys.length * sz)).map g, by simp, fun j u hu => ?_, fun u hu => ?_, fun i x hx => ?_⟩
  · rw [List.getElem?_map] at hu
    by_cases hj : j < ys.length * sz
    · rw [List.getElem?_range hj] at hu
      simp at hu; subst hu
      rw [add_addr]; exact (hg j hj).1
    · rw [List.getElem?_eq_none (by simpa using hj)] at hu; simp at hu
  · simp at hu
    obtain ⟨j, hj, rfl⟩ := hu
    exact (hg j hj).2.1
  · obtain ⟨g1, g2⟩ := h i x hx
    refine ⟨g1, fun c y hc => ?_⟩
    obtain ⟨v, v1, v2, v3⟩ := g2 c y hc
    have hi : i < ys.length := (List.getElem?_eq_some_iff.1 hx).1
    have hcs : c < sz := by have := (List.getElem?_eq_some_iff.1 hc).1; omega
    have hlt := mul_room hi hcs
    refine ⟨v, ?_, v2, v3⟩
    rw [List.getElem?_map, List.getElem?_range hlt]
    have := (hg _ hlt).1
    rw [show q + (i * sz + c) = q + i * sz + c from by omega] at this
    rw [this] at v1
    simpa using v1
theorem elems_sound (hS : SR E) {sz : Nat} (hsz : 0 < sz) {x : AV} {v : Value} {ys : List AV} (hv : VR E x v) (h : elems E.h sz x = some ys) :
    ∃ ad c, v = .slice ad ys.length c ∧ (ad = none → ys.length = 0) ∧ (ys ≠ [] → ∃ b q, ad = some ⟨b, q, none⟩ ∧ MemRow E b q sz ys) := by
  unfold elems at h
  split at h
  · rename_i full z xs
    split at h
    · rename_i hz
      cases h
      simp only [VR, PV] at hv
      obtain ⟨ad, len, cap, rfl, rfl, h2, h3, h4, h5, h6⟩ := hv
      refine ⟨ad, cap, rfl, fun hn => by have := h5.1 hn; omega, fun hne => ?_⟩
      obtain ⟨b, q, rfl, _, hels⟩ := h6 hne
      have : z = sz := by
        rcases hz with hz | hz
        · exact hz
        · exact absurd (List.eq_nil_of_length_eq_zero hz) hne
      subst this
      refine ⟨b, q, rfl, fun i x hx => ?_⟩
      obtain ⟨p1, p2⟩ := PEls_get hels hx
      refine ⟨p1, fun c y hc => ?_⟩
      obtain ⟨u, _, u2, u3, u4⟩ := PCells_get p2 hc
      exact ⟨u, u2, u3, u4⟩
    · cases h
  · rename_i k n off len
    split at h
    · rename_i f hfk
      split at h
      · rename_i hc
        cases h
        obtain ⟨hn, hz, ho⟩ := hc
        simp only [VR] at hv
        obtain ⟨ad, cap, f', rfl, hf', _, hcc⟩ := hv
        have : f' = f := by rw [hfk] at hf'; simpa using hf'.symm
        subst this
        obtain ⟨l1, l2, l3, l4, l5⟩ := hcc hn
        have hF := hS.fams k f' hfk
        have hroom := hF.room
        have hlen : ((f'.xs.drop off).take len).length = len := by simp; omega
        refine ⟨ad, cap, by rw [hlen], fun h => absurd h l4, fun hne => ?_⟩
        have hpos : 0 < len := by
          rcases Nat.eq_zero_or_pos len with h0 | h0
          · subst h0; simp at hne
          · exact h0
        refine ⟨_, _, l5 (by omega), fun i x hx => ?_⟩
        have hi : i < len := by have := (List.getElem?_eq_some_iff.1 hx).1; omega
        have hx' : f'.xs[off + i]? = some x := by
          rw [List.getElem?_take, if_pos hi, List.getElem?_drop] at hx; exact hx
        obtain ⟨cur, t, c1, c2, c3⟩ := hF.cells
        obtain ⟨e1, e2⟩ := c3 (off + i) x (by omega) hx'
        refine ⟨by omega, fun c y hc => ?_⟩
        obtain ⟨u, u1, u2, u3⟩ := e2 c y hc
        refine ⟨u, ?_, u2, u3⟩
        rw [cell_of_row _ _ _ _ _ _ c1]
        rw [show (E.im k).o + (off - (E.im k).lo) * f'.sz + i * sz + c = (E.im k).o + (off + i - (E.im k).lo) * f'.sz + c from by
          rw [show off + i - (E.im k).lo = (off - (E.im k).lo) + i from by omega, Nat.add_mul, hz]; omega]
        exact u1
      · cases h
    · cases h
  · cases h
theorem run_append_zero (t ty e : TypeId) (i : TypeInfo) (ht : P.underlying t = some (.slice e)) (hi : P.info? e = some i) (base ad : Option Addr) (n c m : Nat) (hnc : n ≤ c) (w : World) :
    (Builtin.append_ #[t, t] ty #[.slice base n c, .slice ad 0 m]).run P w = .ok (.slice base n c) w := by
  have hf : (Builtin.firstCells i.size 0 (.slice ad 0 m)).run P w = .ok #[] w := by
    cases ad <;> simp [Builtin.firstCells, loadCells, loadCellsFrom]
  cases base <;> simp [Builtin.append_, run_underlying ht, sizeOf, typeInfo, hi, Builtin.lenOf, hnc, hf, storeCells]
theorem run_append_in (t ty e : TypeId) (i : TypeInfo) (ht : P.underlying t = some (.slice e)) (hi : P.info? e = some i)
    (g q sLen sCap : Nat) (cur : Array Value) (t' : TypeId) (w : World) (hg : w.heap[g]? = some (.cells cur t' (0, 0)))
    (a : Addr) (m c : Nat) (news : List Value) (hl : news.length = m * i.size) (hnews : ∀ j u, news[j]? = some u → w.cell? (a.add j) = some u) (h1 : ∀ u ∈ news, u.oneCell' = true)
    (hroom : sLen + m ≤ sCap) (hfit : q + sLen * i.size + news.length ≤ cur.size) :
    (Builtin.append_ #[t, t] ty #[.slice (some ⟨g, q, none⟩) sLen sCap, .slice (some a) m c]).run P w =
      .ok (.slice (some ⟨g, q, none⟩) (sLen + m) sCap) (w.setRow g (cur.toList.take (q + sLen * i.size) ++ news ++ cur.toList.drop (q + sLen * i.size + news.length)).toArray) := by
  have hf := run_firstCells_some (P := P) w i.size m a m c news hl hnews
  have hst := run_storeCells_at P g (q + sLen * i.size) t' news 0 cur w hg (by simpa using hfit) h1
  simp only [Nat.add_zero] at hst
  simp [Builtin.append_, run_underlying ht, sizeOf, typeInfo, hi, Builtin.lenOf, hroom, hf, add_addr, hst]
theorem drew_below {B : Nat} (w : World) : Bl B w w.drew := ⟨(Below.refl B w).drew, fun _ => Nat.le_succ _⟩
theorem RowL_append {us vs : List Value} {xs ys : List AV} {sz : Nat} (h1 : RowL E us xs sz) (hl : us.length = xs.length * sz) (h2 : RowL E vs ys sz) : RowL E (us ++ vs) (xs ++ ys) sz := by
  intro i x hx
  by_cases hi : i < xs.length
  · rw [List.getElem?_append_left hi] at hx
    obtain ⟨g1, g2⟩ := h1 i x hx
    refine ⟨g1, fun c y hc => ?_⟩
    obtain ⟨v, v1, v2⟩ := g2 c y hc
    exact ⟨v, by rw [List.getElem?_append_left (List.getElem?_eq_some_iff.1 v1).1]; exact v1, v2⟩
  · rw [List.getElem?_append_right (by omega)] at hx
    obtain ⟨g1, g2⟩ := h2 _ x hx
    refine ⟨g1, fun c y hc => ?_⟩
    obtain ⟨v, v1, v2⟩ := g2 c y hc
    refine ⟨v, ?_, v2⟩
    have : xs.length * sz ≤ i * sz := Nat.mul_le_mul_right _ (by omega)
    rw [List.getElem?_append_right (by omega), hl, show i * sz + c - xs.length * sz = (i - xs.length) * sz + c from by rw [Nat.sub_mul]; omega]
    exact v1
theorem RowL_more {us vs : List Value} {xs : List AV} {sz : Nat} (h1 : RowL E us xs sz) : RowL E (us ++ vs) xs sz := by
  intro i x hx
  obtain ⟨g1, g2⟩ := h1 i x hx
  refine ⟨g1, fun c y hc => ?_⟩
  obtain ⟨v, v1, v2⟩ := g2 c y hc
  exact ⟨v, by rw [List.getElem?_append_left (List.getElem?_eq_some_iff.1 v1).1]; exact v1, v2⟩
theorem RowL_ext {E' : Env} (h : Ext E E') {us : List Value} {xs : List AV} {sz : Nat} (h1 : RowL E us xs sz) : RowL E' us xs sz := by
  intro i x hx
  obtain ⟨g1, g2⟩ := h1 i x hx
  refine ⟨g1, fun c y hc => ?_⟩
  obtain ⟨v, v1, v2, v3⟩ := g2 c y hc
  exact ⟨v, v1, v2, PV_mono h.cells _ _ v3⟩
end
end Go.Abs
