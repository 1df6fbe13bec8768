/- Append: what it does to the abstract heap is what it does to memory. -/
import Derived.Test.YtpkegmgepnhfnaaA12
namespace Go.Abs
open Go.RowKit (Below)
section
variable {E : Env} {P : Program} {fr : Fr} {a : Act} {o : Oper}

theorem exec_append {args : Array Operand} {ats : Array TypeId} {s x : Operand} {t : TypeId} (ho : o.op = .call { callee := .builtin .append, args := args, argTypes := ats }) (h1 : args.toList = [s, x]) (h2 : ats.toList = [t, t]) {v : Value} {w w' : World}
    (h : (Builtin.append_ #[t, t] o.type #[a.eval s, a.eval x]).run P w = .ok v w') : (execOp a.eval o).run P w = .ok (.value v) w' := by
  rw [arr_two h1, arr_two h2] at ho
  simp only [execOp, ho, resolve, invoke, builtin, Sem.run_bind, Sem.run_pure, Result.andThen_ok, List.map_toArray, List.map_cons, List.map_nil, h]

theorem grown_row {us : List Value} {xs : List AV} {sz n cap : Nat} (hr : RowL E us xs sz) (hl : us.length = n * sz) (z : Array Value) (hz : z.size = sz) (hcap : n ≤ cap) :
    RowL E (us.toArray ++ Builtin.zeroCells z (cap - n)).toList xs sz ∧ cap * sz ≤ (us.toArray ++ Builtin.zeroCells z (cap - n)).size := by
  refine ⟨?_, ?_⟩
  · rw [Array.toList_append]
    exact RowL_more hr
  · rw [Array.size_append, size_zeroCells, hz, List.size_toArray, hl, ← Nat.add_mul]
    exact Nat.mul_le_mul_right _ (by omega)

/-- An append that makes a new block: onto nothing, or onto a row that has no room. -/
theorem run_append_new {t ty e : TypeId} {i : TypeInfo} {z : Value} (ht : P.underlying t = some (.slice e)) (hi : P.info? e = some i) (hz : i.zero = some z) (hzs : z.cells.size = i.size)
    {base : Option Addr} {n cap : Nat} {olds : List Value} {xs : List AV} (hb : base = none → cap = 0) (hnc : n ≤ cap) (hold : olds.length = n * i.size) (hxs : xs.length = n)
    (holds : ∀ b, base = some b → ∀ (j : Nat) (u : Value), olds[j]? = some u → E.w.cell? (b.add j) = some u) (hro : RowL E olds xs i.size)
    {ad : Addr} {ys : List AV} {c : Nat} {news : List Value} (hl : news.length = ys.length * i.size) (hnews : ∀ (j : Nat) (u : Value), news[j]? = some u → E.w.cell? (ad.add j) = some u) (hrn : RowL E news ys i.size)
    (hg : cap < n + ys.length) (hm : n + ys.length ≤ maxLen) (hbytes : (n + ys.length) * i.bytes ≤ roomA) :
    ∃ us newCap, (Builtin.append_ #[t, t] ty #[.slice base n cap, .slice (some ad) ys.length c]).run P E.w = .ok (.slice (some ⟨E.w.heap.size, 0, none⟩) (n + ys.length) newCap) (E.w.drew.alloc (.cells us e)) ∧
      n + ys.length ≤ newCap ∧ newCap ≤ maxLen ∧ newCap * i.size ≤ us.size ∧ RowL E us.toList (xs ++ ys) i.size := by
  have hfit := growslice_fits hg hbytes
  have h63 : ((n + ys.length : Nat) : Int) ≤ 9223372036854775807 := by unfold maxLen at hm; omega
  refine ⟨(olds ++ news).toArray ++ Builtin.zeroCells z.cells (grownCap E.w (n + ys.length) cap e - (n + ys.length)), grownCap E.w (n + ys.length) cap e, ?_, grownCap_ge _ _ _ _, grownCap_le_maxLen _ _ _ _ hm, ?_, ?_⟩
  rotate_left 1
  · exact (grown_row (us := olds ++ news) (xs := xs ++ ys) (n := n + ys.length) (RowL_append hro (by rw [hold, hxs]) hrn) (by rw [List.length_append, hold, hl, Nat.add_mul]) z.cells hzs (grownCap_ge E.w _ cap e)).2
  · exact (grown_row (us := olds ++ news) (xs := xs ++ ys) (n := n + ys.length) (RowL_append hro (by rw [hold, hxs]) hrn) (by rw [List.length_append, hold, hl, Nat.add_mul]) z.cells hzs (grownCap_ge E.w _ cap e)).1
  · cases base with
    | none =>
      have hc := hb rfl
      subst hc
      have hn0 : n = 0 := by omega
      subst hn0
      have ho0 : olds = [] := List.eq_nil_of_length_eq_zero (by simpa using hold)
      subst ho0
      have := run_append_nil (P := P) E.w t ty e i z ht hi hz ad ys.length c news hl hnews (by omega) (by simpa using h63) (by simp at hbytes; unfold roomA at hbytes; omega)
      simpa using this
    | some b =>
      have := run_append_grow (P := P) E.w t ty e i z ht hi hz b n cap olds hold (holds b rfl) ad ys.length c news hl hnews hg h63 hfit
      rw [this]
      simp

theorem drew_ext (hS : SR E) : Ext E { E with w := E.w.drew } := grow_ext hS (drew_below _)
theorem drew_SR (hS : SR E) : SR { E with w := E.w.drew } := grow_SR hS (drew_below _)

theorem d_app_full {c : Ctx} {args : Array Operand} {ats : Array TypeId} {s x : Operand} {s' x' : Opd} {t e : TypeId} {i : TypeInfo} {z : AV} {z0 : Nat} {xs ys : List AV} (hS : SR E) (hf : FR E fr a.tmps)
    (ho : o.op = .call { callee := .builtin .append, args := args, argTypes := ats }) (h1 : args.toList = [s, x]) (h2 : ats.toList = [t, t]) (ht : P.underlying t = some (.slice e)) (hi : P.info? e = some i) (hz : Program.zeroA P e = some z) (hpos : 0 < i.size)
    (hs : resOpd s = some s') (hx : resOpd x = some x') (hg : get fr s' = .vs true z0 xs) (hys : elems E.h i.size (get fr x') = some ys) (hne : ys.length ≠ 0) (hz0 : z0 = i.size ∨ xs.length = 0)
    (hb : (xs.length + ys.length) * i.bytes ≤ roomA) (hm : xs.length + ys.length ≤ maxLen) :
    Does P a o E (.sl E.h.fams.length (xs.length + ys.length) 0 (xs.length + ys.length)) { E.h with fams := E.h.fams ++ [⟨xs ++ ys, i.size, c.mutApp⟩] } := by
  obtain ⟨i', zv, q1, q2, q3, q4, q5⟩ := zeroA_spec hz
  rw [hi] at q1; cases q1
  have e1 := opd_sound hf hs
  rw [hg] at e1
  simp only [VR, PV] at e1
  obtain ⟨base, len, cap, e2, rfl, e4, e5, e6, e7, e8⟩ := e1
  have ecap : cap = xs.length := e6 trivial
  obtain ⟨ad, cx, f1, f2, f3⟩ := elems_sound hS hpos (opd_sound hf hx) hys
  obtain ⟨b, q, rfl, f4⟩ := f3 (by intro h; subst h; simp at hne)
  obtain ⟨news, n1, n2, _, n4⟩ := MemRow_list hpos f4
  have hold : ∃ olds : List Value, olds.length = xs.length * i.size ∧ (∀ b, base = some b → ∀ (j : Nat) (u : Value), olds[j]? = some u → E.w.cell? (b.add j) = some u) ∧ RowL E olds xs i.size := by
    by_cases hxe : xs = []
    · subst hxe
      exact ⟨[], by simp, fun b _ j u h => by simp at h, fun j x h => by simp at h⟩
    · obtain ⟨b', q', rfl, _, hels⟩ := e8 hxe
      have : z0 = i.size := by
        rcases hz0 with h | h
        · exact h
        · exact absurd (List.eq_nil_of_length_eq_zero h) hxe
      subst this
      obtain ⟨olds, o1, o2, _, o4⟩ := MemRow_list (E := E) (b := b') (q := q') hpos (ys := xs) (fun j x hj => by
        obtain ⟨p1, p2⟩ := PEls_get hels hj
        refine ⟨p1, fun c y hc => ?_⟩
        obtain ⟨u, _, u2, u3, u4⟩ := PCells_get p2 hc
        exact ⟨u, u2, u3, u4⟩)
      exact ⟨olds, o1, fun b'' hb'' => by cases hb''; exact o2, o4⟩
  obtain ⟨olds, o1, o2, o3⟩ := hold
  obtain ⟨us, newCap, r1, r2, r3, r4, r5⟩ := run_append_new (P := P) (ty := o.type) ht hi q2 q3 e7.1 e4 o1 rfl o2 o3 n1 n2 n4 (c := cx) (by omega) hm hb
  have hE1 := drew_SR hS
  have hx1 := drew_ext hS
  refine ⟨_, .slice (some ⟨E.w.heap.size, 0, none⟩) (xs.length + ys.length) newCap, ({ E with w := E.w.drew } : Env).newFam us e newCap ⟨xs ++ ys, i.size, c.mutApp⟩, ?_, .inl rfl, hx1.trans (newFam_ext hE1 _ _ _ _),
    newFam_SR hE1 hpos (by simpa using r2) r3 r4 (fun j x hj => RowL_FElem (RowL_ext hx1 r5) j x hj), rfl, ?_⟩
  · refine exec_append ho h1 h2 ?_
    rw [e2, f1, r1]
    rfl
  · simp only [VR, Env.newFam, upd_same]
    exact ⟨_, _, ⟨xs ++ ys, i.size, c.mutApp⟩, rfl, by simp, by simp, fun _ => ⟨Nat.zero_le _, by simp, by simp, (fun h => nomatch h), fun _ => by simp⟩⟩

theorem set_same {α : Type} {l : List α} {k : Nat} {x : α} (h : l[k]? = some x) : l.set k x = l := by
  apply List.ext_getElem?
  intro j
  rw [List.getElem?_set]
  split
  · rename_i hj; subst hj
    have := (List.getElem?_eq_some_iff.1 h).1
    rw [if_pos this]; exact h.symm
  · rfl

theorem d_app_row {args : Array Operand} {ats : Array TypeId} {s x : Operand} {s' x' : Opd} {t e : TypeId} {i : TypeInfo} {z : AV} {k n off len : Nat} {f : Fam} {ys : List AV} (hS : SR E) (hf : FR E fr a.tmps)
    (ho : o.op = .call { callee := .builtin .append, args := args, argTypes := ats }) (h1 : args.toList = [s, x]) (h2 : ats.toList = [t, t]) (ht : P.underlying t = some (.slice e)) (hi : P.info? e = some i) (hz : Program.zeroA P e = some z) (hpos : 0 < i.size)
    (hs : resOpd s = some s') (hx : resOpd x = some x') (hg : get fr s' = .sl k n off len) (hys : elems E.h i.size (get fr x') = some ys) (hfk : E.h.fams[k]? = some f) (hn : f.xs.length = n) (hsz : f.sz = i.size) (hoff : off + len = n)
    (hb : (n + ys.length) * i.bytes ≤ roomA) (hm : n + ys.length ≤ maxLen) :
    Does P a o E (.sl k (n + ys.length) off (len + ys.length)) { E.h with fams := E.h.fams.set k { f with xs := f.xs ++ ys } } := by
  obtain ⟨i', zv, q1, q2, q3, q4, q5⟩ := zeroA_spec hz
  rw [hi] at q1; cases q1
  have e1 := opd_sound hf hs
  rw [hg] at e1
  have e1' := e1
  simp only [VR] at e1
  obtain ⟨base, cap, f', e2, hf', e4, e5⟩ := e1
  have : f' = f := by rw [hfk] at hf'; simpa using hf'.symm
  subst this
  obtain ⟨l1, l2, l3, l4, l5⟩ := e5 hn
  have hF := hS.fams k f' hfk
  have hroom := hF.room
  have hk' := (List.getElem?_eq_some_iff.1 hfk).1
  obtain ⟨ad, cx, f1, f2, f3⟩ := elems_sound hS hpos (opd_sound hf hx) hys
  have hlencap : len ≤ cap := by omega
  by_cases h0 : ys = []
  · subst h0
    have hset : E.h.fams.set k { f' with xs := f'.xs ++ [] } = E.h.fams := set_same (by rw [List.append_nil]; exact hfk)
    refine ⟨_, .slice base len cap, E, exec_append ho h1 h2 ?_, .inl rfl, Ext.refl E, hS, by rw [hset], by rw [e2] at e1'; simpa using e1'⟩
    rw [e2, f1]
    exact run_append_zero t _ e i ht hi base ad len cap cx hlencap E.w
  have hylen : 0 < ys.length := by
    rcases Nat.eq_zero_or_pos ys.length with h | h
    · exact absurd (List.eq_nil_of_length_eq_zero h) h0
    · exact h
  obtain ⟨b, q, rfl, f4⟩ := f3 h0
  obtain ⟨news, n1, n2, n3, n4⟩ := MemRow_list hpos f4
  by_cases hin : len + ys.length ≤ cap
  · -- there is room
    have hbase := l5 (by omega)
    obtain ⟨cur, t', c1, c2, c3⟩ := hF.cells
    have hnl : off - (E.im k).lo + len = n - (E.im k).lo := by omega
    have epos : (E.im k).o + (off - (E.im k).lo) * f'.sz + len * i.size = (E.im k).o + (n - (E.im k).lo) * f'.sz := by
      rw [← hnl, Nat.add_mul, hsz]; omega
    have hfit : (E.im k).o + (n - (E.im k).lo) * f'.sz + news.length ≤ cur.size := by
      have h3 : (n - (E.im k).lo + ys.length) * f'.sz ≤ (E.im k).cap * f'.sz := Nat.mul_le_mul_right _ (by omega)
      rw [Nat.add_mul] at h3
      rw [n1, ← hsz]; omega
    have hrun := run_append_in (P := P) t o.type e i ht hi (E.im k).b ((E.im k).o + (off - (E.im k).lo) * f'.sz) len cap cur t' E.w c1 ⟨b, q, none⟩ ys.length cx news n1 n2 n3 hin (by rw [epos]; exact hfit)
    rw [epos] at hrun
    obtain ⟨us, hus⟩ : ∃ us : Array Value, us = (cur.toList.take ((E.im k).o + (n - (E.im k).lo) * f'.sz) ++ news ++ cur.toList.drop ((E.im k).o + (n - (E.im k).lo) * f'.sz + news.length)).toArray := ⟨_, rfl⟩
    rw [← hus] at hrun
    have hget : ∀ j : Nat, us[j]? = if j < (E.im k).o + (n - (E.im k).lo) * f'.sz then cur[j]? else if j < (E.im k).o + (n - (E.im k).lo) * f'.sz + news.length then news[j - ((E.im k).o + (n - (E.im k).lo) * f'.sz)]? else cur[j]? := by
      intro j
      have := splice_get (l := cur.toList) (off := (E.im k).o + (n - (E.im k).lo) * f'.sz) (vs := news) (by simpa using hfit) j
      simp only [Array.getElem?_toList] at this
      rw [hus, List.getElem?_toArray, this]
    have hkeep : f'.wr = false → ∀ j, j < (E.im k).o + (f'.xs.length - (E.im k).lo) * f'.sz → us[j]? = cur[j]? := by
      intro _ j hj
      rw [hn] at hj
      rw [hget, if_pos hj]
    refine ⟨_, .slice base (len + ys.length) cap, E.setFam k us { f' with xs := f'.xs ++ ys }, exec_append ho h1 h2 ?_, .inl rfl, setFam_ext hS hfk c1 rfl rfl (by simp) hkeep,
      setFam_SR hS hfk c1 rfl rfl (by simp) hkeep (by simp; omega) (by rw [hus]; simp; omega) ?_, rfl, ?_⟩
    · rw [e2, f1, hbase, hrun]
      rfl
    · intro j x' hj hx'
      have hx'' : (f'.xs ++ ys)[j]? = some x' := hx'
      by_cases hjn : j < n
      · rw [List.getElem?_append_left (by omega)] at hx''
        obtain ⟨g1, g2⟩ := c3 j x' hj hx''
        refine ⟨g1, fun c y hc => ?_⟩
        obtain ⟨v, v1, v2⟩ := g2 c y hc
        have hcs : c < f'.sz := by have := (List.getElem?_eq_some_iff.1 hc).1; omega
        have := mul_room (show j - (E.im k).lo < n - (E.im k).lo by omega) hcs
        exact ⟨v, by rw [hget, if_pos (by omega)]; exact v1, v2⟩
      · rw [List.getElem?_append_right (by omega), hn] at hx''
        obtain ⟨g1, g2⟩ := n4 _ x' hx''
        refine ⟨by omega, fun c y hc => ?_⟩
        obtain ⟨v, v1, v2⟩ := g2 c y hc
        have hcs : c < f'.sz := by have := (List.getElem?_eq_some_iff.1 hc).1; omega
        have hjy : j - n < ys.length := by have := (List.getElem?_eq_some_iff.1 hx'').1; omega
        have h5 := mul_room hjy hcs
        have ej : (j - (E.im k).lo) * f'.sz = (n - (E.im k).lo) * f'.sz + (j - n) * f'.sz := by
          rw [← Nat.add_mul]; congr 1; omega
        refine ⟨v, ?_, v2⟩
        rw [hget, ej, if_neg (by omega), if_pos (by rw [n1, ← hsz]; omega)]
        rw [show (E.im k).o + ((n - (E.im k).lo) * f'.sz + (j - n) * f'.sz) + c - ((E.im k).o + (n - (E.im k).lo) * f'.sz) = (j - n) * i.size + c from by rw [← hsz]; omega]
        exact v1
    · simp only [VR, Env.setFam]
      refine ⟨base, cap, { f' with xs := f'.xs ++ ys }, rfl, by simp [hk'], by simp [hn], fun _ => ⟨l1, by omega, l3, l4, l5⟩⟩
  · -- there is none
    have hold : ∃ olds : List Value, olds.length = len * i.size ∧ (∀ b, base = some b → ∀ (j : Nat) (u : Value), olds[j]? = some u → E.w.cell? (b.add j) = some u) ∧ RowL E olds ((f'.xs.drop off).take len) i.size := by
      have hll : ((f'.xs.drop off).take len).length = len := by simp; omega
      by_cases hl0 : len = 0
      · subst hl0
        exact ⟨[], by simp, fun b _ j u h => by simp at h, fun j x h => by simp at h⟩
      · obtain ⟨ad', cx', g1, g2, g3⟩ := elems_sound hS (sz := i.size) hpos e1' (ys := (f'.xs.drop off).take len) (by simp only [elems, hfk]; rw [if_pos ⟨hn, hsz, by omega⟩])
        obtain ⟨b', q', rfl, g4⟩ := g3 (by intro h; rw [h] at hll; simp at hll; omega)
        obtain ⟨olds, o1, o2, _, o4⟩ := MemRow_list hpos g4
        rw [e2] at g1
        have : base = some ⟨b', q', none⟩ := by simp at g1; exact g1.1
        subst this
        exact ⟨olds, by rw [o1, hll], fun b'' hb'' => by cases hb''; exact o2, o4⟩
    obtain ⟨olds, o1, o2, o3⟩ := hold
    have hll : ((f'.xs.drop off).take len).length = len := by simp; omega
    obtain ⟨us, newCap, r1, r2, r3, r4, r5⟩ := run_append_new (P := P) (ty := o.type) ht hi q2 q3 (fun e => absurd e l4) hlencap o1 hll o2 o3 n1 n2 n4 (c := cx) (by omega) (by omega) (by
      refine Nat.le_trans (Nat.mul_le_mul_right _ ?_) hb
      omega)
    have hE1 := drew_SR hS
    have hx1 := drew_ext hS
    refine ⟨_, .slice (some ⟨E.w.heap.size, 0, none⟩) (len + ys.length) newCap, ({ E with w := E.w.drew } : Env).moveFam k us e off newCap { f' with xs := f'.xs ++ ys }, exec_append ho h1 h2 ?_, .inl rfl,
      hx1.trans (moveFam_ext hE1 hfk _ _ _ _ rfl (by simp; omega)),
      moveFam_SR hE1 hfk rfl (by simp; omega) (by simp; omega) (by simp; omega) r3 (by rw [hsz]; exact r4) ?_, rfl, ?_⟩
    · rw [e2, f1, r1]
      rfl
    · intro j x' hj hx'
      have hx'' : (f'.xs ++ ys)[j]? = some x' := hx'
      rw [hsz]
      refine RowL_FElem (RowL_ext hx1 r5) (j - off) x' ?_
      by_cases hjn : j < n
      · rw [List.getElem?_append_left (by omega)] at hx''
        rw [List.getElem?_append_left (by omega), List.getElem?_take, if_pos (by omega), List.getElem?_drop, show off + (j - off) = j from by omega]
        exact hx''
      · rw [List.getElem?_append_right (by omega)] at hx''
        rw [List.getElem?_append_right (by omega), hll, show j - off - len = j - f'.xs.length from by omega]
        exact hx''
    · simp only [VR, Env.moveFam, upd_same]
      refine ⟨_, _, { f' with xs := f'.xs ++ ys }, rfl, by simp [hk'], by simp [hn], fun _ => ⟨Nat.le_refl _, by omega, by omega, (fun h => nomatch h), fun _ => by simp⟩⟩

end
end Go.Abs
