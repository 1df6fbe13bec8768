/- A slice that is made; append: in place, in a new block, onto nothing. -/
import Derived.Test.YtpkegmgepnhfnaaA11
namespace Go.Abs
open Go.RowKit (Below)
section
variable {E : Env} {P : Program} {fr : Fr} {a : Act} {o : Oper}

theorem RowL_FElem {us : Array Value} {xs : List AV} {sz : Nat} (h : RowL E us.toList xs sz) (i : Nat) (x : AV) (hx : xs[i]? = some x) : FElem E us (i * sz) sz x := by
  obtain ⟨h1, h2⟩ := h i x hx
  exact ⟨h1, fun c y hc => by obtain ⟨v, v1, v2, v3⟩ := h2 c y hc; exact ⟨v, by simpa using v1, v2, v3⟩⟩

theorem d_mkslice {t e : TypeId} {l c : Operand} {l' c' : Opd} {z : AV} {i : TypeInfo} {k1 k2 : IntKind} {x y : Int} (hS : SR E) (hf : FR E fr a.tmps) (ho : o.op = .makeSlice t l c) (hu : P.underlying t = some (.slice e)) (hi : P.info? e = some i) (hz : Program.zeroA P e = some z)
    (hpos : 0 < i.size) (hl : resOpd l = some l') (hc : resOpd c = some c') (hx : get fr l' = .int k1 x) (hy : get fr c' = .int k2 y) (h0 : 0 ≤ x) (hxy : x ≤ y) (hb : y * i.bytes ≤ roomA) (hm : y ≤ maxLen) :
    Does P a o E (.sl E.h.fams.length x.toNat 0 x.toNat) { E.h with fams := E.h.fams ++ [⟨List.replicate x.toNat z, z.cells.length, true⟩] } := by
  have e1 := opd_sound hf hl
  have e2 := opd_sound hf hc
  rw [hx] at e1; rw [hy] at e2
  simp only [VR] at e1 e2
  obtain ⟨zv, h2, hzl, h3, hr, h1⟩ := made_RowL (E := E) hz (n := y.toNat) hi hpos
  have hrun := run_make (P := P) E.w t e i zv hu hi h2 k1 k2 x y h0 hxy (by rw [Int.mul_comm]; unfold roomA at hb; omega) (by unfold maxLen at hm; omega)
  have hlen : (List.replicate x.toNat z).length = x.toNat := by simp
  have hel : ∀ (j : Nat) (w : AV), (List.replicate x.toNat z)[j]? = some w → FElem E (madeCells zv.cells (y.toNat * i.size)) (j * z.cells.length) z.cells.length w := by
    intro j w hw
    rw [hzl]
    refine RowL_FElem hr j w ?_
    rw [List.getElem?_replicate] at hw ⊢
    split at hw
    · rename_i hj
      cases hw
      rw [if_pos (by omega)]
    · cases hw
  refine ⟨_, .slice (some ⟨E.w.heap.size, 0, none⟩) x.toNat y.toNat, E.newFam (madeCells zv.cells (y.toNat * i.size)) e y.toNat ⟨List.replicate x.toNat z, z.cells.length, true⟩, ?_, .inl rfl, newFam_ext hS _ _ _ _,
    newFam_SR hS (by simpa [hzl] using hpos) (by simp; omega) (by omega) (by simp [size_madeCells, hzl]) hel, rfl, ?_⟩
  · simp only [execOp, ho, e1, e2, Sem.run_bind, hrun, Result.andThen_ok, Sem.run_pure, Env.newFam]
  · simp only [VR, Env.newFam, upd_same]
    refine ⟨_, _, ⟨List.replicate x.toNat z, z.cells.length, true⟩, rfl, by simp, by simp, fun _ => ⟨Nat.zero_le _, by simp, by simp, (fun h => nomatch h), fun _ => by simp⟩⟩

/-! ### The source of an append -/

theorem div_cut {n sz j : Nat} (hsz : 0 < sz) (hj : j < n * sz) : j / sz < n ∧ j % sz < sz ∧ j / sz * sz + j % sz = j :=
  ⟨Nat.div_lt_of_lt_mul (by rwa [Nat.mul_comm]), Nat.mod_lt _ hsz, by rw [Nat.mul_comm]; exact Nat.div_add_mod j sz⟩

/-- Elements in memory, one behind the other. -/
def MemRow (E : Env) (b q sz : Nat) (ys : List AV) : Prop :=
  ∀ (i : Nat) (x : AV), ys[i]? = some x → x.cells.length = sz ∧ ∀ (c : Nat) (y : AV), x.cells[c]? = some y → ∃ v, E.w.cell? ⟨b, q + i * sz + c, none⟩ = some v ∧ v.oneCell' = true ∧ PV E.w E.ok y v

theorem MemRow_list {b q sz : Nat} {ys : List AV} (hsz : 0 < sz) (h : MemRow E b q sz ys) :
    ∃ news : List Value, news.length = ys.length * sz ∧ (∀ (j : Nat) (u : Value), news[j]? = some u → E.w.cell? ((⟨b, q, none⟩ : Addr).add j) = some u) ∧ (∀ u ∈ news, u.oneCell' = true) ∧ RowL E news ys sz := by
  have hex : ∀ j, j < ys.length * sz → ∃ u, E.w.cell? ⟨b, q + j, none⟩ = some u ∧ u.oneCell' = true ∧ ∃ y x, ys[j / sz]? = some x ∧ x.cells[j % sz]? = some y ∧ PV E.w E.ok y u := by
    intro j hj
    obtain ⟨h1, h2, h3⟩ := div_cut hsz hj
    obtain ⟨g1, g2⟩ := h (j / sz) _ (List.getElem?_eq_getElem h1)
    obtain ⟨v, v1, v2, v3⟩ := g2 (j % sz) _ (List.getElem?_eq_getElem (by omega))
    rw [show q + j / sz * sz + j % sz = q + j from by omega] at v1
    exact ⟨v, v1, v2, _, _, List.getElem?_eq_getElem h1, List.getElem?_eq_getElem _, v3⟩
  have hpick : ∃ g : Nat → Value, ∀ j, j < ys.length * sz → E.w.cell? ⟨b, q + j, none⟩ = some (g j) ∧ (g j).oneCell' = true ∧ ∃ y x, ys[j / sz]? = some x ∧ x.cells[j % sz]? = some y ∧ PV E.w E.ok y (g j) := by
    refine ⟨fun j => if hj : j < ys.length * sz then Classical.choose (hex j hj) else default, fun j hj => ?_⟩
    simp only [hj, dif_pos]
    exact Classical.choose_spec (hex j hj)
  obtain ⟨g, hg⟩ := hpick
  refine ⟨(List.range (ys.length * sz)).map g, by simp, fun j u hu => ?_, fun u hu => ?_, fun i x hx => ?_⟩
  · rw [List.getElem?_map] at hu
    by_cases hj : j < ys.length * sz
    · rw [List.getElem?_range hj] at hu
      simp at hu; subst hu
      rw [add_addr]; exact (hg j hj).1
    · rw [List.getElem?_eq_none (by simpa using hj)] at hu; simp at hu
  · simp at hu
    obtain ⟨j, hj, rfl⟩ := hu
    exact (hg j hj).2.1
  · obtain ⟨g1, g2⟩ := h i x hx
    refine ⟨g1, fun c y hc => ?_⟩
    obtain ⟨v, v1, v2, v3⟩ := g2 c y hc
    have hi : i < ys.length := (List.getElem?_eq_some_iff.1 hx).1
    have hcs : c < sz := by have := (List.getElem?_eq_some_iff.1 hc).1; omega
    have hlt := mul_room hi hcs
    refine ⟨v, ?_, v2, v3⟩
    rw [List.getElem?_map, List.getElem?_range hlt]
    have := (hg _ hlt).1
    rw [show q + (i * sz + c) = q + i * sz + c from by omega] at this
    rw [this] at v1
    simpa using v1

theorem elems_sound (hS : SR E) {sz : Nat} (hsz : 0 < sz) {x : AV} {v : Value} {ys : List AV} (hv : VR E x v) (h : elems E.h sz x = some ys) :
    ∃ ad c, v = .slice ad ys.length c ∧ (ad = none → ys.length = 0) ∧ (ys ≠ [] → ∃ b q, ad = some ⟨b, q, none⟩ ∧ MemRow E b q sz ys) := by
  unfold elems at h
  split at h
  · rename_i full z xs
    split at h
    · rename_i hz
      cases h
      simp only [VR, PV] at hv
      obtain ⟨ad, len, cap, rfl, rfl, h2, h3, h4, h5, h6⟩ := hv
      refine ⟨ad, cap, rfl, fun hn => by have := h5.1 hn; omega, fun hne => ?_⟩
      obtain ⟨b, q, rfl, _, hels⟩ := h6 hne
      have : z = sz := by
        rcases hz with hz | hz
        · exact hz
        · exact absurd (List.eq_nil_of_length_eq_zero hz) hne
      subst this
      refine ⟨b, q, rfl, fun i x hx => ?_⟩
      obtain ⟨p1, p2⟩ := PEls_get hels hx
      refine ⟨p1, fun c y hc => ?_⟩
      obtain ⟨u, _, u2, u3, u4⟩ := PCells_get p2 hc
      exact ⟨u, u2, u3, u4⟩
    · cases h
  · rename_i k n off len
    split at h
    · rename_i f hfk
      split at h
      · rename_i hc
        cases h
        obtain ⟨hn, hz, ho⟩ := hc
        simp only [VR] at hv
        obtain ⟨ad, cap, f', rfl, hf', _, hcc⟩ := hv
        have : f' = f := by rw [hfk] at hf'; simpa using hf'.symm
        subst this
        obtain ⟨l1, l2, l3, l4, l5⟩ := hcc hn
        have hF := hS.fams k f' hfk
        have hroom := hF.room
        have hlen : ((f'.xs.drop off).take len).length = len := by simp; omega
        refine ⟨ad, cap, by rw [hlen], fun h => absurd h l4, fun hne => ?_⟩
        have hpos : 0 < len := by
          rcases Nat.eq_zero_or_pos len with h0 | h0
          · subst h0; simp at hne
          · exact h0
        refine ⟨_, _, l5 (by omega), fun i x hx => ?_⟩
        have hi : i < len := by have := (List.getElem?_eq_some_iff.1 hx).1; omega
        have hx' : f'.xs[off + i]? = some x := by
          rw [List.getElem?_take, if_pos hi, List.getElem?_drop] at hx; exact hx
        obtain ⟨cur, t, c1, c2, c3⟩ := hF.cells
        obtain ⟨e1, e2⟩ := c3 (off + i) x (by omega) hx'
        refine ⟨by omega, fun c y hc => ?_⟩
        obtain ⟨u, u1, u2, u3⟩ := e2 c y hc
        refine ⟨u, ?_, u2, u3⟩
        rw [cell_of_row _ _ _ _ _ _ c1]
        rw [show (E.im k).o + (off - (E.im k).lo) * f'.sz + i * sz + c = (E.im k).o + (off + i - (E.im k).lo) * f'.sz + c from by
          rw [show off + i - (E.im k).lo = (off - (E.im k).lo) + i from by omega, Nat.add_mul, hz]; omega]
        exact u1
      · cases h
    · cases h
  · cases h

/-! ### Append in the model -/

theorem run_append_zero (t ty e : TypeId) (i : TypeInfo) (ht : P.underlying t = some (.slice e)) (hi : P.info? e = some i) (base ad : Option Addr) (n c m : Nat) (hnc : n ≤ c) (w : World) :
    (Builtin.append_ #[t, t] ty #[.slice base n c, .slice ad 0 m]).run P w = .ok (.slice base n c) w := by
  have hf : (Builtin.firstCells i.size 0 (.slice ad 0 m)).run P w = .ok #[] w := by
    cases ad <;> simp [Builtin.firstCells, loadCells, loadCellsFrom]
  cases base <;> simp [Builtin.append_, run_underlying ht, sizeOf, typeInfo, hi, Builtin.lenOf, hnc, hf, storeCells]

theorem run_append_in (t ty e : TypeId) (i : TypeInfo) (ht : P.underlying t = some (.slice e)) (hi : P.info? e = some i)
    (g q sLen sCap : Nat) (cur : Array Value) (t' : TypeId) (w : World) (hg : w.heap[g]? = some (.cells cur t' (0, 0)))
    (a : Addr) (m c : Nat) (news : List Value) (hl : news.length = m * i.size) (hnews : ∀ j u, news[j]? = some u → w.cell? (a.add j) = some u) (h1 : ∀ u ∈ news, u.oneCell' = true)
    (hroom : sLen + m ≤ sCap) (hfit : q + sLen * i.size + news.length ≤ cur.size) :
    (Builtin.append_ #[t, t] ty #[.slice (some ⟨g, q, none⟩) sLen sCap, .slice (some a) m c]).run P w =
      .ok (.slice (some ⟨g, q, none⟩) (sLen + m) sCap) (w.setRow g (cur.toList.take (q + sLen * i.size) ++ news ++ cur.toList.drop (q + sLen * i.size + news.length)).toArray) := by
  have hf := run_firstCells_some (P := P) w i.size m a m c news hl hnews
  have hst := run_storeCells_at P g (q + sLen * i.size) t' news 0 cur w hg (by simpa using hfit) h1
  simp only [Nat.add_zero] at hst
  simp [Builtin.append_, run_underlying ht, sizeOf, typeInfo, hi, Builtin.lenOf, hroom, hf, add_addr, hst]

theorem drew_below {B : Nat} (w : World) : Below B w w.drew := (Below.refl B w).drew

theorem RowL_append {us vs : List Value} {xs ys : List AV} {sz : Nat} (h1 : RowL E us xs sz) (hl : us.length = xs.length * sz) (h2 : RowL E vs ys sz) : RowL E (us ++ vs) (xs ++ ys) sz := by
  intro i x hx
  by_cases hi : i < xs.length
  · rw [List.getElem?_append_left hi] at hx
    obtain ⟨g1, g2⟩ := h1 i x hx
    refine ⟨g1, fun c y hc => ?_⟩
    obtain ⟨v, v1, v2⟩ := g2 c y hc
    exact ⟨v, by rw [List.getElem?_append_left (List.getElem?_eq_some_iff.1 v1).1]; exact v1, v2⟩
  · rw [List.getElem?_append_right (by omega)] at hx
    obtain ⟨g1, g2⟩ := h2 _ x hx
    refine ⟨g1, fun c y hc => ?_⟩
    obtain ⟨v, v1, v2⟩ := g2 c y hc
    refine ⟨v, ?_, v2⟩
    have : xs.length * sz ≤ i * sz := Nat.mul_le_mul_right _ (by omega)
    rw [List.getElem?_append_right (by omega), hl, show i * sz + c - xs.length * sz = (i - xs.length) * sz + c from by rw [Nat.sub_mul]; omega]
    exact v1

theorem RowL_more {us vs : List Value} {xs : List AV} {sz : Nat} (h1 : RowL E us xs sz) : RowL E (us ++ vs) xs sz := by
  intro i x hx
  obtain ⟨g1, g2⟩ := h1 i x hx
  refine ⟨g1, fun c y hc => ?_⟩
  obtain ⟨v, v1, v2⟩ := g2 c y hc
  exact ⟨v, by rw [List.getElem?_append_left (List.getElem?_eq_some_iff.1 v1).1]; exact v1, v2⟩

theorem RowL_ext {E' : Env} (h : Ext E E') {us : List Value} {xs : List AV} {sz : Nat} (h1 : RowL E us xs sz) : RowL E' us xs sz := by
  intro i x hx
  obtain ⟨g1, g2⟩ := h1 i x hx
  refine ⟨g1, fun c y hc => ?_⟩
  obtain ⟨v, v1, v2, v3⟩ := g2 c y hc
  exact ⟨v, v1, v2, PV_mono h.cells _ _ v3⟩

end
end Go.Abs
