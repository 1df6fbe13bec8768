/- Append: what it does to the abstract heap is what it does to memory. -/
import Derived.Test.YtpkegmgepnhfnaaGreatV2
/- More quiet operations: len, max, slicing. -/
namespace Go.Abs
open Go.RowKit (Below)
section
variable {E : Env} {P : Program} {fr : Fr} {a : Act} {o : Oper}

theorem arr_one {α : Type} {aas : Array α} {x : α} (h : aas.toList = [x]) : aas = #[x] := by cases aas; simp_all
theorem arr_two {α : Type} {aas : Array α} {x y : α} (h : aas.toList = [x, y]) : aas = #[x, y] := by cases aas; simp_all

theorem q_len_str {args : Array Operand} {ats : Array TypeId} {x : Operand} {t : TypeId} {x' : Opd} {s : ByteArray} (hf : FR E fr a.tmps) (ho : o.op = .call { callee := .builtin .len, args := args, argTypes := ats }) (h1 : args.toList = [x]) (h2 : ats.toList = [t])
    (hts : P.underlying t = some .string) (hx : resOpd x = some x') (hs : get fr x' = .str s) : Quiet P a o E (.int .i64 s.size) := by
  have hv := opd_sound hf hx
  rw [arr_one h1, arr_one h2] at ho
  rw [hs] at hv
  simp only [VR] at hv
  exact ⟨_, by simp [execOp, ho, resolve, invoke, builtin, Builtin.len_, hv, run_under hts, goInt], VR_int _ _⟩

theorem q_len {args : Array Operand} {ats : Array TypeId} {x : Operand} {t e : TypeId} {x' : Opd} {v : AV} (hf : FR E fr a.tmps) (ho : o.op = .call { callee := .builtin .len, args := args, argTypes := ats }) (h1 : args.toList = [x]) (h2 : ats.toList = [t])
    (hts : P.underlying t = some (.slice e)) (hx : resOpd x = some x')
    (h : (match get fr x' with | .vs _ _ xs => some (AV.int .i64 xs.length, E.h) | .sl _ _ _ len => some (.int .i64 len, E.h) | _ => none) = some (v, E.h)) : Quiet P a o E v := by
  have hv := opd_sound hf hx
  rw [arr_one h1, arr_one h2] at ho
  split at h
  · rename_i full z xs hg
    rw [hg] at hv
    simp only [VR, PV] at hv
    obtain ⟨ad, len, cap, e1, rfl, _⟩ := hv
    simp at h; subst h
    exact ⟨_, by simp [execOp, ho, resolve, invoke, builtin, Builtin.len_, e1, run_under hts, goInt], VR_int _ _⟩
  · rename_i k n off len hg
    rw [hg] at hv
    simp only [VR] at hv
    obtain ⟨ad, cap, f, e1, _⟩ := hv
    simp at h; subst h
    exact ⟨_, by simp [execOp, ho, resolve, invoke, builtin, Builtin.len_, e1, run_under hts, goInt], VR_int _ _⟩
  · cases h

theorem q_max {args : Array Operand} {ats : Array TypeId} {x y : Operand} {x' y' : Opd} {k k' : IntKind} {i j : Int} (hf : FR E fr a.tmps) (ho : o.op = .call { callee := .builtin .max, args := args, argTypes := ats }) (h1 : args.toList = [x, y])
    (hx : resOpd x = some x') (hy : resOpd y = some y') (hi : get fr x' = .int k i) (hj : get fr y' = .int k' j) : Quiet P a o E (.int k (if j > i then j else i)) := by
  have e1 := opd_sound hf hx
  have e2 := opd_sound hf hy
  rw [hi] at e1; rw [hj] at e2
  simp only [VR] at e1 e2
  rw [arr_two h1] at ho
  exact ⟨_, by simp [execOp, ho, resolve, invoke, builtin, Builtin.max_, Builtin.max2, e1, e2], VR_int _ _⟩

theorem PEls_cut {w : World} {ok : Nat → Nat → Prop} {sz b o : Nat} {xs : List AV} (h : PEls w ok sz b o xs) (l n : Nat) : PEls w ok sz b (o + l * sz) ((xs.drop l).take n) := by
  refine PEls_of fun j x hx => ?_
  have hj : (xs.drop l)[j]? = some x := by
    rw [List.getElem?_take] at hx
    split at hx
    · exact hx
    · cases hx
  rw [List.getElem?_drop] at hj
  have := PEls_get h hj
  rwa [show o + (l + j) * sz = o + l * sz + j * sz from by rw [Nat.add_mul]; omega] at this

theorem vs_cut {w : World} {ok : Nat → Nat → Prop} {full full' : Bool} {z sz : Nat} {xs : List AV} {ad : Option Addr} {len cap l h m : Nat} (hv : PV w ok (.vs full z xs) (.slice ad len cap)) (hz : z = sz ∨ xs.length = 0)
    (h1 : l ≤ h) (h2 : h ≤ len) (h3 : h ≤ m) (h4 : m ≤ cap) (hfull : full' = true → m = h) :
    PV w ok (.vs full' z ((xs.drop l).take (h - l))) (.slice (if m = l then ad else ad.map (·.add (l * sz))) (h - l) (m - l)) := by
  simp only [PV] at hv ⊢
  obtain ⟨ad', len', cap', e, e2, e3, e4, e5, e6, e7⟩ := hv
  obtain ⟨rfl, rfl, rfl⟩ : ad = ad' ∧ len = len' ∧ cap = cap' := by simpa using e
  refine ⟨_, _, _, rfl, by simp; omega, by omega, by omega, fun hf => by rw [hfull hf], ?_, fun hne => ?_⟩
  · have hnn : (if m = l then ad else ad.map (·.add (l * sz))) = none ↔ ad = none := by split <;> simp
    refine ⟨fun hn => ?_, hnn.trans e6.2⟩
    have := e6.1 (hnn.1 hn)
    omega
  · have hlt : l < h := by
      rcases Nat.lt_or_ge l h with h' | h'
      · exact h'
      · exact absurd (by simp [show h - l = 0 from by omega]) hne
    have hxs : xs ≠ [] := by intro hn; subst hn; simp at e2; omega
    obtain ⟨b, q, rfl, hp, hels⟩ := e7 hxs
    rw [if_neg (by omega)]
    have hzz : z = sz := by
      rcases hz with hz | hz
      · exact hz
      · exact absurd (List.eq_nil_of_length_eq_zero hz) hxs
    subst hzz
    exact ⟨b, q + l * z, by simp [add_addr], hp, PEls_cut hels l (h - l)⟩

theorem q_slc_str {t : TypeId} {x : Operand} {lo hi : Option Operand} {x' : Opd} {lo' hi' : Option Opd} {s : ByteArray} {l u : Option Int} (hf : FR E fr a.tmps) (ho : o.op = .slice t x lo hi none) (ht : P.underlying t = some .string)
    (hx : resOpd x = some x') (hlo : resOpt lo = some lo') (hhi : resOpt hi = some hi') (hg : get fr x' = .str s) (hl : boundA fr lo' = some l) (hu : boundA fr hi' = some u)
    (h0 : 0 ≤ l.getD 0) (h1 : l.getD 0 ≤ u.getD s.size) (h2 : u.getD s.size ≤ s.size) : Quiet P a o E (.str (s.extract (l.getD 0).toNat (u.getD s.size).toNat)) := by
  have hv := opd_sound hf hx
  rw [hg] at hv
  simp only [VR] at hv
  have hb := sliceBounds_none (P := P) (b := false) E.w (bound_sound hf hlo hl) (bound_sound hf hhi hu) h0 h1 h2 (Nat.le_refl _)
  exact ⟨_, by simp [execOp, ho, Instr.sliceAt, Instr.slice, run_under ht, hv, hb], VR_str _⟩

theorem q_slc_vs {t e : TypeId} {x : Operand} {lo hi mx : Option Operand} {x' : Opd} {lo' hi' mx' : Option Opd} {full full' : Bool} {z n : Nat} {xs : List AV} {l u m : Option Int} (hf : FR E fr a.tmps) (ho : o.op = .slice t x lo hi mx) (ht : P.underlying t = some (.slice e)) (hn : Program.size? P e = some n)
    (hx : resOpd x = some x') (hlo : resOpt lo = some lo') (hhi : resOpt hi = some hi') (hmx : resOpt mx = some mx') (hg : get fr x' = .vs full z xs) (hl : boundA fr lo' = some l) (hu : boundA fr hi' = some u) (hm : boundA fr mx' = some m)
    (hz : z = n ∨ xs.length = 0) (h0 : 0 ≤ l.getD 0) (h1 : l.getD 0 ≤ u.getD xs.length)
    (hc : (m = none ∧ u.getD xs.length ≤ xs.length ∧ full' = (full && decide (u.getD xs.length = xs.length))) ∨ (∃ q, m = some q ∧ u.isSome = true ∧ u.getD xs.length ≤ q ∧ q ≤ xs.length ∧ full' = decide (q = u.getD xs.length))) :
    Quiet P a o E (.vs full' z ((xs.drop (l.getD 0).toNat).take (u.getD xs.length - l.getD 0).toNat)) := by
  have hv := opd_sound hf hx
  rw [hg] at hv
  simp only [VR] at hv
  have hv' := hv
  simp only [PV] at hv'
  obtain ⟨ad, len, cap, e1, e2, e3, e4, e5, e6, e7⟩ := hv'
  rw [e1] at hv
  subst e2
  have etn : (u.getD xs.length - l.getD 0).toNat = (u.getD (xs.length : Int)).toNat - (l.getD 0).toNat := by omega
  rw [etn]
  rcases hc with ⟨rfl, h2, hfull⟩ | ⟨q, rfl, hs, h2, h3, hfull⟩
  · have hmn : mx.map a.eval = none := by
      rcases bound_sound hf hmx hm with ⟨_, h⟩ | ⟨k, i, h, _⟩
      · exact h
      · cases h
    have hb := sliceBounds_none (P := P) (b := true) (cap := cap) E.w (bound_sound hf hlo hl) (bound_sound hf hhi hu) h0 h1 h2 e3
    refine ⟨_, by simp [execOp, ho, Instr.sliceAt, Instr.slice, run_under ht, e1, hmn, hb, run_size hn]; rfl, ?_⟩
    simp only [VR]
    refine vs_cut hv hz (by omega) (by omega) (by omega) (Nat.le_refl _) fun hf' => ?_
    rw [hfull] at hf'
    simp at hf'
    have := e5 hf'.1
    omega
  · have hms : ∃ k, mx.map a.eval = some (.int k q) := by
      rcases bound_sound hf hmx hm with ⟨h, _⟩ | ⟨k, i, h, h'⟩
      · cases h
      · cases h; exact ⟨k, h'⟩
    have hb := sliceBounds_some (P := P) (b := true) (len := xs.length) (cap := cap) E.w (bound_sound hf hlo hl) (bound_sound hf hhi hu) hms hs h0 h1 h2 (by omega)
    refine ⟨_, by simp [execOp, ho, Instr.sliceAt, Instr.slice, run_under ht, e1, hb, run_size hn]; rfl, ?_⟩
    simp only [VR]
    refine vs_cut hv hz (by omega) (by omega) (by omega) (by omega) fun hf' => ?_
    rw [hfull] at hf'
    simp at hf'
    omega

theorem q_slc_sl {t e : TypeId} {x : Operand} {lo hi mx : Option Operand} {x' : Opd} {lo' hi' mx' : Option Opd} {n k m off len : Nat} {f : Fam} {l u q : Option Int} {v : AV} (hS : SR E) (hf : FR E fr a.tmps) (ho : o.op = .slice t x lo hi mx) (ht : P.underlying t = some (.slice e)) (hn : Program.size? P e = some n)
    (hx : resOpd x = some x') (hlo : resOpt lo = some lo') (hhi : resOpt hi = some hi') (hmx : resOpt mx = some mx') (hg : get fr x' = .sl k m off len) (hl : boundA fr lo' = some l) (hu : boundA fr hi' = some u) (hm : boundA fr mx' = some q)
    (hfk : E.h.fams[k]? = some f) (hz : f.sz = n) (hlen : f.xs.length = m)
    (hc : (q = none ∧ 0 ≤ l.getD 0 ∧ l.getD 0 ≤ u.getD len ∧ u.getD len ≤ len ∧ v = .sl k m (off + (l.getD 0).toNat) (u.getD len - l.getD 0).toNat) ∨ (q = some 0 ∧ u.isSome = true ∧ l.getD 0 = 0 ∧ u.getD len = 0 ∧ v = .vs true n [])) :
    Quiet P a o E v := by
  have hv := opd_sound hf hx
  rw [hg] at hv
  simp only [VR] at hv
  obtain ⟨ad, cap, f', e1, e2, e3, e4⟩ := hv
  have : f' = f := by rw [hfk] at e2; simpa using e2.symm
  subst this
  obtain ⟨l1, l2, l3, l4, l5⟩ := e4 hlen
  have hroom := (hS.fams k f' hfk).room
  rcases hc with ⟨rfl, h0, h1, h2, rfl⟩ | ⟨rfl, hs, h0, h1, rfl⟩
  · have hmn : mx.map a.eval = none := by
      rcases bound_sound hf hmx hm with ⟨_, h⟩ | ⟨k, i, h, _⟩
      · exact h
      · cases h
    have hb := sliceBounds_none (P := P) (b := true) (len := len) (cap := cap) E.w (bound_sound hf hlo hl) (bound_sound hf hhi hu) h0 h1 h2 (by omega)
    have etn : (u.getD len - l.getD 0).toNat = (u.getD (len : Int)).toNat - (l.getD 0).toNat := by omega
    rw [etn]
    refine ⟨_, by simp [execOp, ho, Instr.sliceAt, Instr.slice, run_under ht, e1, hmn, hb, run_size hn]; rfl, ?_⟩
    simp only [VR]
    refine ⟨_, _, f', rfl, hfk, ⟨e3.1, fun hlen0 => ?_⟩, fun _ => ⟨by omega, by omega, by omega, fun hnone => ?_, fun hne => ?_⟩⟩
    · obtain ⟨b, q', had⟩ := e3.2 (by omega)
      rw [if_neg (by omega), had]
      simp only [Option.map_some, add_addr]
      exact ⟨_, _, rfl⟩
    · split at hnone
      · exact l4 hnone
      · exact l4 (by simpa using hnone)
    · rw [if_neg (by omega), l5 (by omega)]
      simp only [Option.map_some, add_addr]
      congr 2
      rw [show off + (l.getD 0).toNat - (E.im k).lo = (off - (E.im k).lo) + (l.getD 0).toNat from by omega, Nat.add_mul, hz]
      omega
  · have hms : ∃ k, mx.map a.eval = some (.int k 0) := by
      rcases bound_sound hf hmx hm with ⟨h, _⟩ | ⟨k, i, h, h'⟩
      · cases h
      · cases h; exact ⟨k, h'⟩
    have hb := sliceBounds_some (P := P) (b := true) (len := len) (cap := cap) E.w (bound_sound hf hlo hl) (bound_sound hf hhi hu) hms hs (by omega) (by omega) (by omega) (by omega)
    refine ⟨.slice ad 0 0, by simp [execOp, ho, Instr.sliceAt, Instr.slice, run_under ht, e1, hb, run_size hn, h0, h1], ?_⟩
    simp only [VR, PV]
    exact ⟨_, _, _, rfl, rfl, Nat.le_refl _, by simp, fun _ => rfl, ⟨fun _ => rfl, ⟨fun e => absurd e l4, fun e => absurd (hS.fams k f' hfk).sz (by omega)⟩⟩, fun h => absurd rfl h⟩

end
end Go.Abs

/- Operations that make or turn memory: a box, a store, a struct, a literal slice. -/
namespace Go.Abs
open Go.RowKit (Below)
section
variable {E : Env} {P : Program} {fr : Fr} {a : Act} {o : Oper}

/-- The operation leads to a state that goes on from this one. -/
def Does (P : Program) (a : Act) (o : Oper) (E : Env) (v : AV) (h' : AH) : Prop :=
  ∃ nx u E', (execOp a.eval o).run P E.w = .ok nx E'.w ∧ (nx = .value u ∨ (nx = .skip ∧ u = undef)) ∧ Ext E E' ∧ SR E' ∧ E'.h = h' ∧ VR E' v u

theorem Quiet.does {v : AV} (hS : SR E) (h : Quiet P a o E v) : Does P a o E v E.h := by
  obtain ⟨u, h1, h2⟩ := h
  exact ⟨_, u, E, h1, .inl rfl, Ext.refl E, hS, rfl, h2⟩

theorem VRs_len {cs : List AV} {us : List Value} (h : VRs E cs us) : us.length = cs.length := (VRs_get h).1

theorem VRs_append {aas bs : List AV} {us vs : List Value} (h1 : VRs E aas us) (h2 : VRs E bs vs) : VRs E (aas ++ bs) (us ++ vs) := by
  refine VRs_of (by simp [VRs_len h1, VRs_len h2]) fun j c u hc hu => ?_
  have e := VRs_len h1
  by_cases hj : j < aas.length
  · rw [List.getElem?_append_left hj] at hc
    rw [List.getElem?_append_left (by omega)] at hu
    obtain ⟨u', h3, h4⟩ := (VRs_get h1).2 hc
    rw [h3] at hu; cases hu; exact h4
  · rw [List.getElem?_append_right (by omega)] at hc
    rw [List.getElem?_append_right (by omega), e] at hu
    obtain ⟨u', h3, h4⟩ := (VRs_get h2).2 hc
    rw [h3] at hu; cases hu; exact h4

theorem VRs_take {aas : List AV} {us : List Value} (h : VRs E aas us) (n : Nat) : VRs E (aas.take n) (us.take n) := by
  refine VRs_of (by simp [VRs_len h]) fun j c u hc hu => ?_
  rw [List.getElem?_take] at hc hu
  split at hc
  · rename_i hj
    rw [if_pos hj] at hu
    obtain ⟨u', h3, h4⟩ := (VRs_get h).2 hc
    rw [h3] at hu; cases hu; exact h4
  · cases hc

theorem VRs_drop {aas : List AV} {us : List Value} (h : VRs E aas us) (n : Nat) : VRs E (aas.drop n) (us.drop n) := by
  refine VRs_of (by simp [VRs_len h]) fun j c u hc hu => ?_
  rw [List.getElem?_drop] at hc hu
  obtain ⟨u', h3, h4⟩ := (VRs_get h).2 hc
  rw [h3] at hu; cases hu; exact h4

theorem VRs_splice {cs ds : List AV} {us vs : List Value} (h1 : VRs E cs us) (h2 : VRs E ds vs) (off : Nat) : VRs E (splice cs off ds) (us.take off ++ vs ++ us.drop (off + vs.length)) := by
  unfold splice
  rw [VRs_len h2]
  exact VRs_append (VRs_append (VRs_take h1 _) h2) (VRs_drop h1 _)

theorem PV_cells {w : World} {ok : Nat → Nat → Prop} {x : AV} {v : Value} (h : PV w ok x v) (ht : x.isTup = false) : PVs w ok x.cells v.cells.toList ∧ ∀ u ∈ v.cells.toList, u.oneCell' = true := by
  cases x <;> simp only [PV] at h
  case tup => simp [AV.isTup] at ht
  case agg cs => obtain ⟨us, rfl, h1, h2⟩ := h; exact ⟨h2, h1⟩
  case junk =>
    have hc : v.cells = #[v] := by cases v <;> simp_all [Value.oneCell', Value.cells]
    rw [hc]; exact ⟨by simp [AV.cells, PVs, PV, h], by simpa using h⟩
  case vs => obtain ⟨ad, len, cap, rfl, h'⟩ := h; exact ⟨by simp only [AV.cells, Value.cells, PVs, PV]; exact ⟨_, _, rfl, ⟨_, _, _, rfl, h'⟩, rfl⟩, by simp [Value.cells, Value.oneCell']⟩
  case pv => obtain ⟨b, q, rfl, h'⟩ := h; exact ⟨by simp only [AV.cells, Value.cells, PVs, PV]; exact ⟨_, _, rfl, ⟨_, _, rfl, h'⟩, rfl⟩, by simp [Value.cells, Value.oneCell']⟩
  case fn => obtain ⟨us, rfl, h'⟩ := h; exact ⟨by simp only [AV.cells, Value.cells, PVs, PV]; exact ⟨_, _, rfl, ⟨_, rfl, h'⟩, rfl⟩, by simp [Value.cells, Value.oneCell']⟩
  case vm => obtain ⟨b, es, clk, rfl, h1, h2, h3, h4⟩ := h; exact ⟨by simp only [AV.cells, Value.cells, PVs]; exact ⟨_, _, rfl, by simp only [PV]; exact ⟨b, es, clk, rfl, h1, h2, h3, h4⟩, rfl⟩, by simp [Value.cells, Value.oneCell']⟩
  all_goals (subst h; exact ⟨by simp [AV.cells, Value.cells, PVs, PV], by simp [Value.cells, Value.oneCell']⟩)

theorem zeroA_spec {t : TypeId} {z : AV} (h : Program.zeroA P t = some z) : ∃ i zv, P.info? t = some i ∧ i.zero = some zv ∧ zv.cells.size = i.size ∧ constAV zv = some z ∧ z.isTup = false := by
  unfold Program.zeroA at h
  split at h
  · rename_i i hi
    split at h
    · rename_i zv hz
      split at h
      · rename_i x hx
        split at h
        · rename_i hc
          cases h
          exact ⟨i, zv, hi, hz, hc.1, hx, hc.2⟩
        · cases h
      · cases h
    · cases h
  · cases h

/-! ### A new box -/

theorem d_box {t : TypeId} {x : Operand} {x' : Opd} (hS : SR E) (hf : FR E fr a.tmps) (ho : o.op = .box t x) (hx : resOpd x = some x') (ht : (get fr x').isTup = false) :
    Does P a o E (.ptr E.h.boxes.length 0) { E.h with boxes := E.h.boxes ++ [(get fr x').cells] } := by
  obtain ⟨h1, h2⟩ := VR_cells (opd_sound hf hx) ht
  refine ⟨_, .pointer (some ⟨E.w.heap.size, 0, none⟩), E.newBox (a.eval x).cells t (get fr x').cells, ?_, .inl rfl, newBox_ext hS _ _ _, newBox_SR hS h1 h2, rfl, ?_⟩
  · simp only [execOp, ho, Instr.box, newVar, newRow, Sem.run_bind, run_newObj, Result.andThen_ok, Sem.run_pure, World.alloc_eq, Env.newBox]
  · simp only [VR, Env.newBox, upd_same]
    exact ⟨by simp, trivial⟩

theorem d_alloc {t : TypeId} {z : AV} (hS : SR E) (ho : o.op = .alloc t) (hz : Program.zeroA P t = some z) :
    Does P a o E (.ptr E.h.boxes.length 0) { E.h with boxes := E.h.boxes ++ [z.cells] } := by
  obtain ⟨i, zv, h1, h2, h3, h4, h5⟩ := zeroA_spec hz
  obtain ⟨h6, h7⟩ := VR_cells (E := E) (VR_of_PV _ _ (constAV_sound h4)) h5
  refine ⟨_, .pointer (some ⟨E.w.heap.size, 0, none⟩), E.newBox zv.cells t z.cells, ?_, .inl rfl, newBox_ext hS _ _ _, newBox_SR hS h6 h7, rfl, ?_⟩
  · simp only [execOp, ho, Instr.alloc, newVar, newRow, zeroValue, typeInfo, run_program, Sem.run_bind, h1, h2, run_newObj, Result.andThen_ok, Sem.run_pure, World.alloc_eq, Env.newBox]
  · simp only [VR, Env.newBox, upd_same]
    exact ⟨by simp, trivial⟩

/-! ### Stores -/

theorem run_storeVar {t : TypeId} {b q : Nat} {v : Value} {cur : Array Value} {t' : TypeId} {w : World} {n : Nat} (hn : Program.size? P t = some n) (hg : w.heap[b]? = some (.cells cur t' (0, 0))) (hv : v.cells.size = n) (hfit : q + n ≤ cur.size)
    (h1 : ∀ u ∈ v.cells.toList, u.oneCell' = true) :
    (storeVar t ⟨b, q, none⟩ v).run P w = .ok () (w.setRow b (cur.toList.take q ++ v.cells.toList ++ cur.toList.drop (q + n)).toArray) := by
  have hst := run_storeCells_at P b q t' v.cells.toList 0 cur w hg (by simp; omega) h1
  simp only [Nat.add_zero, Array.length_toList, hv] at hst
  unfold storeVar
  simp [run_size hn, hv, hst]

theorem d_st_box {t : TypeId} {x y : Operand} {x' y' : Opd} {n b off : Nat} {cs : List AV} (hS : SR E) (hf : FR E fr a.tmps) (ho : o.op = .store t x y) (hn : Program.size? P t = some n) (hx : resOpd x = some x') (hy : resOpd y = some y')
    (hg : get fr x' = .ptr b off) (hcs : E.h.boxes[b]? = some cs) (hmb : isMB cs = false) (ht : (get fr y').isTup = false) (hl : (get fr y').cells.length = n) (hfit : off + n ≤ cs.length) :
    Does P a o E undefA { E.h with boxes := E.h.boxes.set b (splice cs off (get fr y').cells) } := by
  have hv := opd_sound hf hx
  rw [hg] at hv
  simp only [VR] at hv
  obtain ⟨hb, e⟩ := hv
  obtain ⟨h1, h2⟩ := VR_cells (opd_sound hf hy) ht
  have hb1 := (hS.boxes b cs hcs).1
  obtain ⟨cur, t', hc1, hc2, hc3⟩ := (hS.boxes b cs hcs).row hmb
  have hsz : (a.eval y).cells.size = n := by have := VRs_len h1; simp at this; omega
  have hcl : cur.size = cs.length := by have := VRs_len hc2; simpa using this
  have hrun := run_storeVar (P := P) (q := off) hn hc1 hsz (by omega) h2
  have hvs := VRs_splice hc2 h1 off
  rw [show (a.eval y).cells.toList.length = n from by simp [hsz]] at hvs
  refine ⟨_, undef, E.setBox b (cur.toList.take off ++ (a.eval y).cells.toList ++ cur.toList.drop (off + n)).toArray (splice cs off (get fr y').cells), ?_, .inr ⟨rfl, rfl⟩, setBox_ext hS hb hcs hmb _ _, setBox_SR hS hcs hmb hvs ?_, rfl, VR_undef _⟩
  · simp only [execOp, ho, Instr.storeAt, e, Instr.sureAddr, Sem.run_bind, Sem.run_pure, Result.andThen_ok, hrun]
    rfl
  · intro u hu
    simp only [List.mem_append] at hu
    rcases hu with (hu | hu) | hu
    · exact hc3 u (List.mem_of_mem_take hu)
    · exact h2 u hu
    · exact hc3 u (List.mem_of_mem_drop hu)

theorem splice_get {α : Type} {l : List α} {off : Nat} {vs : List α} (hfit : off + vs.length ≤ l.length) (j : Nat) :
    (l.take off ++ vs ++ l.drop (off + vs.length))[j]? = if j < off then l[j]? else if j < off + vs.length then vs[j - off]? else l[j]? := by
  have hl : (l.take off).length = off := by simp; omega
  by_cases h1 : j < off
  · rw [if_pos h1, List.append_assoc, List.getElem?_append_left (by omega), List.getElem?_take, if_pos h1]
  · rw [if_neg h1]
    by_cases h2 : j < off + vs.length
    · rw [if_pos h2, List.append_assoc, List.getElem?_append_right (by omega), hl, List.getElem?_append_left (by omega)]
    · rw [if_neg h2, List.getElem?_append_right (by simp; omega), List.getElem?_drop]
      congr 1
      simp
      omega

theorem reform_cells {x y : AV} {cs : List AV} (h : x.reform cs = some y) (hl : cs.length = x.cells.length) (hflat : ∀ c ∈ cs, c.cells = [c] ∨ x = .agg x.cells) : y.cells = cs := by
  cases x <;> simp only [AV.reform] at h
  case agg => cases h; rfl
  all_goals
    simp only [AV.cells, List.length_cons, List.length_nil] at hl
    cases cs with
    | nil => simp at hl
    | cons c r =>
      have hr : r = [] := by simpa using hl
      subst hr
      simp at h
      subst h
      rcases hflat c (by simp) with h' | h'
      · exact h'
      · cases h'

theorem d_st_row {t : TypeId} {x y : Operand} {x' y' : Opd} {n k m i c sz : Nat} {f : Fam} {el u z : AV} (hS : SR E) (hf : FR E fr a.tmps) (ho : o.op = .store t x y) (hn : Program.size? P t = some n) (hx : resOpd x = some x') (hy : resOpd y = some y')
    (hg : get fr x' = .ep k m i c sz) (hfk : E.h.fams[k]? = some f) (hm : f.xs.length = m) (hmz : f.sz = sz) (hw : f.wr = true) (hel : f.xs[i]? = some el) (hu : frz E.h false (get fr y') = some u)
    (hl : u.cells.length = n) (hfit : c + n ≤ el.cells.length) (hzc : z.cells = splice el.cells c u.cells) :
    Does P a o E undefA { E.h with fams := E.h.fams.set k { f with xs := f.xs.set i z } } := by
  have hv := opd_sound hf hx
  rw [hg] at hv
  simp only [VR] at hv
  obtain ⟨b0, o0, f', e, hfk', _, had⟩ := hv
  have : f' = f := by rw [hfk] at hfk'; simpa using hfk'.symm
  subst this
  obtain ⟨hlo, hbo⟩ := had ⟨hm, hmz⟩
  rw [hbo] at e
  have hF := hS.fams k f' hfk
  obtain ⟨cur, t', c1, c2, c3⟩ := hF.cells
  obtain ⟨e1, e2⟩ := c3 i el hlo hel
  obtain ⟨hPu, hut⟩ := frz_sound hS (am := false) (ok' := E.ok) ⟨fun _ _ h => h, fun h => by cases h⟩ (opd_sound hf hy) hu
  obtain ⟨h1, h2⟩ := PV_cells hPu hut
  obtain ⟨hul, hug⟩ := PVs_get h1
  have hsz : (a.eval y).cells.size = n := by simp at hul; omega
  have hi : i < f'.xs.length := (List.getElem?_eq_some_iff.1 hel).1
  have hroom := hF.room
  have hpos : (E.im k).o + (i - (E.im k).lo) * f'.sz + f'.sz ≤ cur.size := by
    have h3 : (i - (E.im k).lo + 1) * f'.sz ≤ (E.im k).cap * f'.sz := Nat.mul_le_mul_right _ (by omega)
    rw [Nat.succ_mul] at h3
    omega
  have hrun := run_storeVar (P := P) (q := (E.im k).o + (i - (E.im k).lo) * f'.sz + c) hn c1 hsz (by omega) h2
  obtain ⟨us, hus⟩ : ∃ us : Array Value, us = (cur.toList.take ((E.im k).o + (i - (E.im k).lo) * f'.sz + c) ++ (a.eval y).cells.toList ++ cur.toList.drop ((E.im k).o + (i - (E.im k).lo) * f'.sz + c + n)).toArray := ⟨_, rfl⟩
  rw [← hus] at hrun
  have hget : ∀ j : Nat, us[j]? = if j < (E.im k).o + (i - (E.im k).lo) * f'.sz + c then cur[j]? else if j < (E.im k).o + (i - (E.im k).lo) * f'.sz + c + n then (a.eval y).cells[j - ((E.im k).o + (i - (E.im k).lo) * f'.sz + c)]? else cur[j]? := by
    intro j
    have := splice_get (l := cur.toList) (off := (E.im k).o + (i - (E.im k).lo) * f'.sz + c) (vs := (a.eval y).cells.toList) (by simp; omega) j
    simp only [Array.length_toList, hsz, Array.getElem?_toList] at this
    rw [hus, List.getElem?_toArray, this]
  have hussz : us.size = cur.size := by rw [hus]; simp; omega
  refine ⟨_, undef, E.setFam k us { f' with xs := f'.xs.set i z }, ?_, .inr ⟨rfl, rfl⟩,
    setFam_ext hS hfk c1 rfl rfl (by simp) (fun h => by rw [hw] at h; cases h), setFam_SR hS hfk c1 rfl rfl (by simp) (fun h => by rw [hw] at h; cases h) (by simpa using hroom) hussz ?_, rfl, VR_undef _⟩
  · simp only [execOp, ho, Instr.storeAt, e, Instr.sureAddr, Sem.run_bind, Sem.run_pure, Result.andThen_ok, hrun]
    rfl
  · intro j x' hj hx'
    have hx'' : (f'.xs.set i z)[j]? = some x' := hx'
    by_cases hij : i = j
    · subst hij
      rw [List.getElem?_set_self hi] at hx''
      cases hx''
      refine ⟨by rw [hzc]; simp [splice]; omega, fun q y' hq => ?_⟩
      rw [hzc] at hq
      unfold splice at hq
      rw [splice_get (by omega)] at hq
      have hq' : q < f'.sz := by
        rcases Nat.lt_or_ge q f'.sz with h | h
        · exact h
        · rw [if_neg (by omega), if_neg (by omega), List.getElem?_eq_none (by omega)] at hq; cases hq
      rw [hget]
      by_cases hqc : q < c
      · rw [if_pos hqc] at hq
        rw [if_pos (by omega)]
        obtain ⟨v, v1, v2, v3⟩ := e2 q y' hq
        exact ⟨v, by simpa using v1, v2, v3⟩
      · rw [if_neg hqc] at hq
        by_cases hqn : q < c + u.cells.length
        · rw [if_pos hqn] at hq
          rw [if_neg (by omega), if_pos (by omega)]
          obtain ⟨v, v1, v2⟩ := hug hq
          refine ⟨v, ?_, h2 v (List.mem_of_getElem? v1), v2⟩
          rw [show (E.im k).o + (i - (E.im k).lo) * f'.sz + q - ((E.im k).o + (i - (E.im k).lo) * f'.sz + c) = q - c from by omega]
          simpa using v1
        · rw [if_neg hqn] at hq
          rw [if_neg (by omega), if_neg (by omega)]
          obtain ⟨v, v1, v2, v3⟩ := e2 q y' hq
          exact ⟨v, by simpa using v1, v2, v3⟩
    · rw [List.getElem?_set_ne hij] at hx''
      obtain ⟨g1, g2⟩ := c3 j x' hj hx''
      refine ⟨g1, fun q y' hq => ?_⟩
      obtain ⟨v, v1, v2, v3⟩ := g2 q y' hq
      refine ⟨v, ?_, v2, v3⟩
      have hqs : q < f'.sz := by have := (List.getElem?_eq_some_iff.1 hq).1; omega
      rw [hget]
      rcases Nat.lt_or_gt_of_ne (show j ≠ i from fun e => hij e.symm) with hlt | hgt
      · have h3 : (j - (E.im k).lo + 1) * f'.sz ≤ (i - (E.im k).lo) * f'.sz := Nat.mul_le_mul_right _ (by omega)
        rw [Nat.succ_mul] at h3
        rw [if_pos (by omega)]
        simpa using v1
      · have h3 : (i - (E.im k).lo + 1) * f'.sz ≤ (j - (E.im k).lo) * f'.sz := Nat.mul_le_mul_right _ (by omega)
        rw [Nat.succ_mul] at h3
        rw [if_neg (by omega), if_neg (by omega)]
        simpa using v1

end
end Go.Abs

/- A struct that is built; a literal slice; a slice that is made. -/
namespace Go.Abs
open Go.RowKit (Below)
section
variable {E : Env} {P : Program} {fr : Fr} {a : Act} {o : Oper}

/-! ### Parts laid into a row of cells -/

theorem fold_put (off : Nat) : ∀ (l : List Value) (k : Nat) (cells : Array Value), off + k + l.length ≤ cells.size →
    ((l.zipIdx k).foldl (fun cs (x : Value × Nat) => cs.setIfInBounds (off + x.2) x.1) cells).toList = cells.toList.take (off + k) ++ l ++ cells.toList.drop (off + k + l.length)
  | [], k, cells, _ => by simp
  | v :: l, k, cells, h => by
    simp only [List.length_cons] at h
    simp only [List.zipIdx_cons, List.foldl_cons]
    rw [fold_put off l (k + 1) _ (by simp; omega)]
    have := list_seg_step cells.toList (off + k) v l (by simp; omega)
    simp only [Array.toList_setIfInBounds, List.length_cons]
    rw [show off + (k + 1) = off + k + 1 from by omega]
    exact this

theorem fill_step {place : Nat → Option (Nat × Nat)} {cells : Array Value} {i off size : Nat} {v : Value} {rest : List (Nat × Value)} (hp : place i = some (off, size)) (hs : v.cells.size = size) (hfit : off + size ≤ cells.size) :
    Instr.fill place cells ((i, v) :: rest) = Instr.fill place (cells.toList.take off ++ v.cells.toList ++ cells.toList.drop (off + size)).toArray rest := by
  have h := fold_put off v.cells.toList 0 cells (by simp; omega)
  simp only [Nat.add_zero, Array.length_toList, hs] at h
  have h2 : (v.cells.zipIdx.foldl (fun cs (x : Value × Nat) => cs.setIfInBounds (off + x.2) x.1) cells) = (cells.toList.take off ++ v.cells.toList ++ cells.toList.drop (off + size)).toArray := by
    apply Array.ext'
    rw [← h, ← Array.foldl_toList]
    simp
  simp only [Instr.fill, hp, hs]
  rw [if_neg (by simp; omega)]
  exact congrArg (fun c => Instr.fill place c rest) h2

/-! ### A struct -/

theorem build_sound (hf : FR E fr a.tmps) {fs : Array Field} {places : Nat → Option (Nat × Nat)} (hpl : ∀ (j : Nat) (f : Field) (n : Nat), fs[j]? = some f → Program.size? P f.type = some n → places j = some (f.offset, n)) :
    ∀ {parts : List (Nat × Operand)} {ps : List (Nat × Nat × Opd)} {qs : List (Nat × AV)} {cells : Array Value} {zs : List AV}, mapO (resPart P fs) parts = some ps → buildParts fr zs.length ps = some qs → VRs E zs cells.toList → (∀ u ∈ cells.toList, u.oneCell' = true) →
      ∃ us, Instr.fill places cells (parts.map fun p => (p.1, a.eval p.2)) = some us ∧ VRs E (fillParts zs qs) us.toList ∧ ∀ u ∈ us.toList, u.oneCell' = true
  | [], ps, qs, cells, zs, hp, hq, hz, h1 => by
    simp [mapO] at hp; subst hp
    simp [buildParts] at hq; subst hq
    exact ⟨cells, rfl, hz, h1⟩
  | (i, x) :: parts, ps, qs, cells, zs, hp, hq, hz, h1 => by
    simp only [mapO] at hp
    split at hp
    · rename_i y ys hy hys
      cases hp
      obtain ⟨off, n, x'⟩ := y
      unfold resPart at hy
      split at hy
      · rename_i f xx hfi hxx
        split at hy
        · rename_i n' hn'
          simp at hy
          obtain ⟨rfl, rfl, rfl⟩ := hy
          simp only [buildParts] at hq
          split at hq
          · rename_i hc
            simp only [Option.map_eq_some_iff] at hq
            obtain ⟨qs', hqs', rfl⟩ := hq
            obtain ⟨g1, g2⟩ := VR_cells (opd_sound hf hxx) hc.1
            have hsz : (a.eval x).cells.size = n' := by have := VRs_len g1; simp at this; omega
            have hcl : cells.size = zs.length := by have := VRs_len hz; simpa using this
            have hstep := fill_step (place := places) (cells := cells) (rest := parts.map fun p => (p.1, a.eval p.2)) (hpl i f n' hfi hn') hsz (by omega)
            have hvs := VRs_splice hz g1 f.offset
            rw [show (a.eval x).cells.toList.length = n' from by simp [hsz]] at hvs
            have hlen : (splice zs f.offset (get fr xx).cells).length = zs.length := by simp [splice]; omega
            obtain ⟨us, k1, k2, k3⟩ := build_sound hf hpl (cells := (cells.toList.take f.offset ++ (a.eval x).cells.toList ++ cells.toList.drop (f.offset + n')).toArray) (zs := splice zs f.offset (get fr xx).cells) hys (by rw [hlen]; exact hqs') (by simpa using hvs) (by
              intro u hu
              simp only [List.mem_append] at hu
              rcases hu with (hu | hu) | hu
              · exact h1 u (List.mem_of_mem_take hu)
              · exact g2 u hu
              · exact h1 u (List.mem_of_mem_drop hu))
            refine ⟨us, ?_, ?_, k3⟩
            · simp only [List.map_cons]; rw [hstep]; exact k1
            · simpa [fillParts] using k2
          · cases hq
        · cases hy
      · cases hy
    · cases hp

theorem mapM_get {α β : Type} {f : α → Option β} : ∀ {l : List α} {r : List β}, l.mapM f = some r → ∀ {j : Nat} {x : α}, l[j]? = some x → ∃ y, f x = some y ∧ r[j]? = some y
  | [], r, _, j, x, hx => by simp at hx
  | b :: l, r, h, j, x, hx => by
    simp only [List.mapM_cons, Option.bind_eq_bind, Option.pure_def, Option.bind_eq_some_iff] at h
    obtain ⟨y, hy, ys, hys, hr⟩ := h
    cases hr
    cases j with
    | zero => simp at hx; subst hx; exact ⟨y, hy, rfl⟩
    | succ j => simpa using mapM_get hys (j := j) (x := x) (by simpa using hx)

theorem q_build {t : TypeId} {parts : Array (Nat × Operand)} {fs : Array Field} {zs : List AV} {ps : List (Nat × Nat × Opd)} {qs : List (Nat × AV)} (hf : FR E fr a.tmps) (ho : o.op = .build t parts) (hu : P.underlying t = some (.struct fs)) (hz : Program.zeroA P t = some (.agg zs))
    (hs : (fs.toList.mapM fun f => (P.info? f.type).map fun i => (f.offset, i.size)).isSome = true) (hp : mapO (resPart P fs) parts.toList = some ps) (hq : buildParts fr zs.length ps = some qs) : Quiet P a o E (.agg (fillParts zs qs)) := by
  obtain ⟨i, zv, h1, h2, h3, h4, h5⟩ := zeroA_spec hz
  obtain ⟨places, hpl⟩ := Option.isSome_iff_exists.1 hs
  obtain ⟨g1, g2⟩ := VR_cells (E := E) (VR_of_PV _ _ (constAV_sound h4)) h5
  obtain ⟨us, k1, k2, k3⟩ := build_sound (E := E) (P := P) hf (places := fun j => places.toArray[j]?) (fun j f n hj hn => by
    obtain ⟨y, hy, hy'⟩ := mapM_get hpl (j := j) (x := f) (by simpa using hj)
    unfold Program.size? at hn
    simp only [Option.map_eq_some_iff] at hn hy
    obtain ⟨i', hi', rfl⟩ := hn
    obtain ⟨i'', hi'', rfl⟩ := hy
    rw [hi'] at hi''; cases hi''
    simpa using hy') hp hq g1 g2
  have hb : P.built t (parts.map fun (i, x) => (i, a.eval x)).toList = some us := by
    unfold Program.built
    simp only [h1, hu, h2, hpl, Array.toList_map]
    exact k1
  refine ⟨.agg us, ?_, ?_⟩
  · simp only [execOp, ho, Sem.run_bind, run_build E.w t _ us hb, Result.andThen_ok, Sem.run_pure]
  · simp only [VR]
    exact ⟨us, rfl, k3, k2⟩

/-! ### A row of equal elements -/

/-- A list of cells that holds the elements of a list, one behind the other. -/
def RowL (E : Env) (us : List Value) (xs : List AV) (sz : Nat) : Prop :=
  ∀ (i : Nat) (x : AV), xs[i]? = some x → x.cells.length = sz ∧ ∀ (c : Nat) (y : AV), x.cells[c]? = some y → ∃ v, us[i * sz + c]? = some v ∧ v.oneCell' = true ∧ PV E.w E.ok y v

theorem madeCells_get (z : Array Value) (n : Nat) (i c : Nat) (hc : c < z.size) (hi : i < n) : (madeCells z (n * z.size))[i * z.size + c]? = some z[c] := by
  have hlt := mul_room hi hc
  unfold madeCells
  rw [Array.getElem?_map, Array.getElem?_range, if_pos hlt]
  have : (i * z.size + c) % z.size = c := by rw [Nat.add_comm, Nat.mul_comm, Nat.add_mul_mod_self_left, Nat.mod_eq_of_lt hc]
  simp [this, getElem!_pos, hc]

theorem made_RowL {t : TypeId} {z : AV} (hz : Program.zeroA P t = some z) {n : Nat} {i : TypeInfo} (hi : P.info? t = some i) (hpos : 0 < i.size) : ∃ zv, i.zero = some zv ∧ z.cells.length = i.size ∧ zv.cells.size = i.size ∧ RowL E (madeCells zv.cells (n * i.size)).toList (List.replicate n z) i.size ∧ ∀ u ∈ (madeCells zv.cells (n * i.size)).toList, u.oneCell' = true := by
  obtain ⟨i', zv, h1, h2, h3, h4, h5⟩ := zeroA_spec hz
  rw [hi] at h1; cases h1
  have hpv := constAV_sound (w := E.w) (ok := E.ok) h4
  obtain ⟨g1, g2⟩ := PV_cells hpv h5
  obtain ⟨gl, gg⟩ := PVs_get g1
  have hl : z.cells.length = i.size := by simp at gl; omega
  refine ⟨zv, h2, hl, h3, fun j x hx => ?_, fun u hu => ?_⟩
  · rw [List.getElem?_replicate] at hx
    split at hx
    · rename_i hj
      cases hx
      refine ⟨hl, fun c y hy => ?_⟩
      have hc : c < zv.cells.size := by have := (List.getElem?_eq_some_iff.1 hy).1; omega
      obtain ⟨v, v1, v2⟩ := gg hy
      have := madeCells_get zv.cells n j c hc hj
      rw [h3] at this
      refine ⟨zv.cells[c], by rw [Array.getElem?_toList]; exact this, g2 _ (by simp), ?_⟩
      have e : v = zv.cells[c] := by
        rw [Array.getElem?_toList, Array.getElem?_eq_getElem hc] at v1; simpa using v1.symm
      rw [← e]; exact v2
    · cases hx
  · obtain ⟨j, hj⟩ := List.getElem?_of_mem hu
    rw [Array.getElem?_toList] at hj
    unfold madeCells at hj
    rw [Array.getElem?_map, Array.getElem?_range] at hj
    split at hj
    · simp at hj
      have hm : j % zv.cells.size < zv.cells.size := Nat.mod_lt _ (by omega)
      rw [getElem!_pos zv.cells _ hm] at hj
      subst hj
      exact g2 _ (by simp)
    · simp at hj

theorem slice_sound (hS : SR E) (hf : FR E fr a.tmps) {sz : Nat} (hpos : 0 < sz) :
    ∀ {parts : List (Nat × Operand)} {ps : List (Nat × Opd)} {xs ys : List AV} {cells : Array Value}, mapO resElem parts = some ps → sliceParts fr E.h xs ps = some ys → RowL E cells.toList xs sz → cells.size = xs.length * sz → (∀ u ∈ cells.toList, u.oneCell' = true) →
      ∃ us, Instr.fill (fun i => some (i * sz, sz)) cells (parts.map fun p => (p.1, a.eval p.2)) = some us ∧ RowL E us.toList ys sz ∧ us.size = ys.length * sz ∧ ys.length = xs.length
  | [], ps, xs, ys, cells, hp, hq, hr, hs, _ => by
    simp [mapO] at hp; subst hp
    simp [sliceParts] at hq; subst hq
    exact ⟨cells, rfl, hr, hs, rfl⟩
  | (i, x) :: parts, ps, xs, ys, cells, hp, hq, hr, hs, h1 => by
    simp only [mapO] at hp
    split at hp
    · rename_i y yr hy hyr
      cases hp
      unfold resElem at hy
      simp only [Option.map_eq_some_iff] at hy
      obtain ⟨x', hx', rfl⟩ := hy
      simp only [sliceParts] at hq
      split at hq
      · rename_i z y hz hyy
        split at hq
        · rename_i hc
          obtain ⟨hPu, hut⟩ := frz_sound hS (am := false) (ok' := E.ok) ⟨fun _ _ h => h, fun h => by cases h⟩ (opd_sound hf hx') hyy
          obtain ⟨g1, g2⟩ := PV_cells hPu hut
          obtain ⟨gl, gg⟩ := PVs_get g1
          obtain ⟨r1, r2⟩ := hr i z hz
          have hi : i < xs.length := (List.getElem?_eq_some_iff.1 hz).1
          have hsz : (a.eval x).cells.size = sz := by simp at gl; omega
          have hfit : i * sz + sz ≤ cells.size := by
            have : (i + 1) * sz ≤ xs.length * sz := Nat.mul_le_mul_right _ hi
            rw [Nat.succ_mul] at this; omega
          have hstep := fill_step (place := fun i => some (i * sz, sz)) (cells := cells) (i := i) (rest := parts.map fun p => (p.1, a.eval p.2)) rfl hsz hfit
          have hget := fun j => splice_get (l := cells.toList) (off := i * sz) (vs := (a.eval x).cells.toList) (by simp; omega) j
          simp only [Array.length_toList, hsz] at hget
          obtain ⟨us, k1, k2, k3, k4⟩ := slice_sound hS hf hpos (parts := parts) (xs := xs.set i y) (cells := (cells.toList.take (i * sz) ++ (a.eval x).cells.toList ++ cells.toList.drop (i * sz + sz)).toArray) hyr hq (fun j w hw => by
            by_cases hij : i = j
            · subst hij
              rw [List.getElem?_set_self hi] at hw
              cases hw
              refine ⟨by omega, fun c q hq' => ?_⟩
              obtain ⟨v, v1, v2⟩ := gg hq'
              have hcs : c < sz := by have := (List.getElem?_eq_some_iff.1 hq').1; omega
              refine ⟨v, ?_, g2 v (List.mem_of_getElem? v1), v2⟩
              show (List.take _ _ ++ _ ++ List.drop _ _)[_]? = some v
              rw [hget, if_neg (by omega), if_pos (by omega), show i * sz + c - i * sz = c from by omega]
              exact v1
            · rw [List.getElem?_set_ne hij] at hw
              obtain ⟨s1, s2⟩ := hr j w hw
              refine ⟨s1, fun c q hq' => ?_⟩
              obtain ⟨v, v1, v2, v3⟩ := s2 c q hq'
              refine ⟨v, ?_, v2, v3⟩
              have hcs : c < sz := by have := (List.getElem?_eq_some_iff.1 hq').1; omega
              show (List.take _ _ ++ _ ++ List.drop _ _)[_]? = some v
              rw [hget]
              rcases Nat.lt_or_gt_of_ne (show j ≠ i from fun e => hij e.symm) with hlt | hgt
              · have := mul_room hlt hcs
                rw [if_pos this]; exact v1
              · have h3 : (i + 1) * sz ≤ j * sz := Nat.mul_le_mul_right _ hgt
                rw [Nat.succ_mul] at h3
                rw [if_neg (by omega), if_neg (by omega)]; exact v1) (by
              simp only [List.size_toArray, List.length_append, List.length_take, List.length_drop, Array.length_toList, hsz, List.length_set]
              omega) (by
              intro u hu
              simp only [List.mem_append] at hu
              rcases hu with (hu | hu) | hu
              · exact h1 u (List.mem_of_mem_take hu)
              · exact g2 u hu
              · exact h1 u (List.mem_of_mem_drop hu))
          exact ⟨us, by simp only [List.map_cons]; rw [hstep]; exact k1, k2, k3, by simpa using k4⟩
        · cases hq
      · cases hq
    · cases hp

/-- A row in a block of its own that no one will turn. -/
theorem fresh_PV (hS : SR E) {us : Array Value} {e : TypeId} {xs : List AV} {sz : Nat} (hpos : 0 < sz) (hr : RowL E us.toList xs sz) (hm : xs.length ≤ maxLen) :
    PV (E.w.alloc (.cells us e)) ({ E with w := E.w.alloc (.cells us e) } : Env).ok (.vs true sz xs) (.slice (some ⟨E.w.heap.size, 0, none⟩) xs.length xs.length) := by
  have hb : Below E.w.heap.size E.w (E.w.alloc (.cells us e)) := (Below.refl _ _).alloc (Nat.le_refl _) _
  have hx := grow_ext hS hb
  simp only [PV]
  refine ⟨_, _, _, rfl, rfl, Nat.le_refl _, hm, fun _ => rfl, ⟨(fun h => nomatch h), ⟨(fun h => nomatch h), fun e => absurd hpos (by omega)⟩⟩, fun _ => ⟨_, _, rfl, hpos, PEls_of fun j x hj => ?_⟩⟩
  obtain ⟨r1, r2⟩ := hr j x hj
  refine ⟨r1, PCells_of fun c y hc => ?_⟩
  obtain ⟨v, v1, v2, v3⟩ := r2 c y hc
  refine ⟨v, ?_, ?_, v2, PV_mono hx.cells _ _ v3⟩
  · refine .inr ⟨hS.basele, by simp, fun i hi => ?_, fun k f hk he => ?_⟩
    · have := (hS.nb_lt hi).2
      intro e
      have e' : E.nb i = E.w.heap.size := e
      omega
    · have := (hS.im_lt (List.getElem?_eq_some_iff.1 hk).1).2
      have he' : (E.im k).b = E.w.heap.size := he
      omega
  · rw [Nat.zero_add, cell_of_row _ _ _ _ _ _ (heap_alloc_new _ _)]
    simpa using v1

theorem d_bslice {t e : TypeId} {len : Nat} {parts : Array (Nat × Operand)} {z : AV} {n : Nat} {ps : List (Nat × Opd)} {xs : List AV} (hS : SR E) (hf : FR E fr a.tmps) (ho : o.op = .buildSlice t len parts) (hu : P.underlying t = some (.slice e)) (hz : Program.zeroA P e = some z) (hn : Program.size? P e = some n)
    (hpos : 0 < n) (hlim : len * n ≤ 2 ^ 24) (hp : mapO resElem parts.toList = some ps) (hq : sliceParts fr E.h (List.replicate len z) ps = some xs) : Does P a o E (.vs true z.cells.length xs) E.h := by
  have hn' := hn
  unfold Program.size? at hn'
  simp only [Option.map_eq_some_iff] at hn'
  obtain ⟨i, hi, rfl⟩ := hn'
  obtain ⟨zv, h2, hl, h3, hr, h1⟩ := made_RowL (E := E) hz (n := len) hi hpos
  obtain ⟨us, k1, k2, k3, k4⟩ := slice_sound hS hf hpos hp hq hr (by simp [madeCells]) h1
  have hlen : xs.length = len := by simpa using k4
  have hmax : xs.length ≤ maxLen := by
    have : len * 1 ≤ len * i.size := Nat.mul_le_mul_left _ hpos
    rw [hlen]; unfold maxLen; omega
  have hpv := fresh_PV (e := e) hS hpos k2 hmax
  have hb : Below E.w.heap.size E.w (E.w.alloc (.cells us e)) := (Below.refl _ _).alloc (Nat.le_refl _) _
  rw [hl]
  refine ⟨_, .slice (some ⟨E.w.heap.size, 0, none⟩) xs.length xs.length, { E with w := E.w.alloc (.cells us e) }, ?_, .inl rfl, grow_ext hS hb, grow_SR hS hb, rfl, ?_⟩
  · have hsize : (sizeOf e).run P E.w = .ok i.size E.w := run_size hn _
    by_cases h0 : len * i.size = 0
    · have hc0 : madeCells zv.cells (len * i.size) = #[] := by simp [h0, madeCells]
      rw [hc0] at k1
      simp [execOp, ho, Instr.buildSlice, run_under hu, hsize, h0, newRow, hlen, Array.range_zero', k1]
    · simp [execOp, ho, Instr.buildSlice, run_under hu, hsize, h0, show ¬ (16777216 < len * i.size) from by omega, zeroValue, typeInfo, hi, h2, newRow, hlen]
      unfold madeCells at k1
      simp [k1]
  · simp only [VR]
    exact hpv

end
end Go.Abs

/- A slice that is made; append: in place, in a new block, onto nothing. -/
namespace Go.Abs
open Go.RowKit (Below)
section
variable {E : Env} {P : Program} {fr : Fr} {a : Act} {o : Oper}

theorem RowL_FElem {us : Array Value} {xs : List AV} {sz : Nat} (h : RowL E us.toList xs sz) (i : Nat) (x : AV) (hx : xs[i]? = some x) : FElem E us (i * sz) sz x := by
  obtain ⟨h1, h2⟩ := h i x hx
  exact ⟨h1, fun c y hc => by obtain ⟨v, v1, v2, v3⟩ := h2 c y hc; exact ⟨v, by simpa using v1, v2, v3⟩⟩

theorem d_mkslice {t e : TypeId} {l c : Operand} {l' c' : Opd} {z : AV} {i : TypeInfo} {k1 k2 : IntKind} {x y : Int} (hS : SR E) (hf : FR E fr a.tmps) (ho : o.op = .makeSlice t l c) (hu : P.underlying t = some (.slice e)) (hi : P.info? e = some i) (hz : Program.zeroA P e = some z)
    (hpos : 0 < i.size) (hl : resOpd l = some l') (hc : resOpd c = some c') (hx : get fr l' = .int k1 x) (hy : get fr c' = .int k2 y) (h0 : 0 ≤ x) (hxy : x ≤ y) (hb : y * i.bytes ≤ roomA) (hm : y ≤ maxLen) :
    Does P a o E (.sl E.h.fams.length x.toNat 0 x.toNat) { E.h with fams := E.h.fams ++ [⟨List.replicate x.toNat z, z.cells.length, true⟩] } := by
  have e1 := opd_sound hf hl
  have e2 := opd_sound hf hc
  rw [hx] at e1; rw [hy] at e2
  simp only [VR] at e1 e2
  obtain ⟨zv, h2, hzl, h3, hr, h1⟩ := made_RowL (E := E) hz (n := y.toNat) hi hpos
  have hrun := run_make (P := P) E.w t e i zv hu hi h2 k1 k2 x y h0 hxy (by rw [Int.mul_comm]; unfold roomA at hb; omega) (by unfold maxLen at hm; omega)
  have hlen : (List.replicate x.toNat z).length = x.toNat := by simp
  have hel : ∀ (j : Nat) (w : AV), (List.replicate x.toNat z)[j]? = some w → FElem E (madeCells zv.cells (y.toNat * i.size)) (j * z.cells.length) z.cells.length w := by
    intro j w hw
    rw [hzl]
    refine RowL_FElem hr j w ?_
    rw [List.getElem?_replicate] at hw ⊢
    split at hw
    · rename_i hj
      cases hw
      rw [if_pos (by omega)]
    · cases hw
  refine ⟨_, .slice (some ⟨E.w.heap.size, 0, none⟩) x.toNat y.toNat, E.newFam (madeCells zv.cells (y.toNat * i.size)) e y.toNat ⟨List.replicate x.toNat z, z.cells.length, true⟩, ?_, .inl rfl, newFam_ext hS _ _ _ _,
    newFam_SR hS (by simpa [hzl] using hpos) (by simp; omega) (by omega) (by simp [size_madeCells, hzl]) hel, rfl, ?_⟩
  · simp only [execOp, ho, e1, e2, Sem.run_bind, hrun, Result.andThen_ok, Sem.run_pure, Env.newFam]
  · simp only [VR, Env.newFam, upd_same]
    refine ⟨_, _, ⟨List.replicate x.toNat z, z.cells.length, true⟩, rfl, by simp, ⟨by simp, fun _ => ⟨_, _, rfl⟩⟩, fun _ => ⟨Nat.zero_le _, by simp, by simp, (fun h => nomatch h), fun _ => by simp⟩⟩

/-! ### The source of an append -/

theorem div_cut {n sz j : Nat} (hsz : 0 < sz) (hj : j < n * sz) : j / sz < n ∧ j % sz < sz ∧ j / sz * sz + j % sz = j :=
  ⟨Nat.div_lt_of_lt_mul (by rwa [Nat.mul_comm]), Nat.mod_lt _ hsz, by rw [Nat.mul_comm]; exact Nat.div_add_mod j sz⟩

/-- Elements in memory, one behind the other. -/
def MemRow (E : Env) (b q sz : Nat) (ys : List AV) : Prop :=
  ∀ (i : Nat) (x : AV), ys[i]? = some x → x.cells.length = sz ∧ ∀ (c : Nat) (y : AV), x.cells[c]? = some y → ∃ v, E.w.cell? ⟨b, q + i * sz + c, none⟩ = some v ∧ v.oneCell' = true ∧ PV E.w E.ok y v

theorem MemRow_list {b q sz : Nat} {ys : List AV} (hsz : 0 < sz) (h : MemRow E b q sz ys) :
    ∃ news : List Value, news.length = ys.length * sz ∧ (∀ (j : Nat) (u : Value), news[j]? = some u → E.w.cell? ((⟨b, q, none⟩ : Addr).add j) = some u) ∧ (∀ u ∈ news, u.oneCell' = true) ∧ RowL E news ys sz := by
  have hex : ∀ j, j < ys.length * sz → ∃ u, E.w.cell? ⟨b, q + j, none⟩ = some u ∧ u.oneCell' = true ∧ ∃ y x, ys[j / sz]? = some x ∧ x.cells[j % sz]? = some y ∧ PV E.w E.ok y u := by
    intro j hj
    obtain ⟨h1, h2, h3⟩ := div_cut hsz hj
    obtain ⟨g1, g2⟩ := h (j / sz) _ (List.getElem?_eq_getElem h1)
    obtain ⟨v, v1, v2, v3⟩ := g2 (j % sz) _ (List.getElem?_eq_getElem (by omega))
    rw [show q + j / sz * sz + j % sz = q + j from by omega] at v1
    exact ⟨v, v1, v2, _, _, List.getElem?_eq_getElem h1, List.getElem?_eq_getElem _, v3⟩
  have hpick : ∃ g : Nat → Value, ∀ j, j < ys.length * sz → E.w.cell? ⟨b, q + j, none⟩ = some (g j) ∧ (g j).oneCell' = true ∧ ∃ y x, ys[j / sz]? = some x ∧ x.cells[j % sz]? = some y ∧ PV E.w E.ok y (g j) := by
    refine ⟨fun j => if hj : j < ys.length * sz then Classical.choose (hex j hj) else default, fun j hj => ?_⟩
    simp only [hj, dif_pos]
    exact Classical.choose_spec (hex j hj)
  obtain ⟨g, hg⟩ := hpick
  refine ⟨(List.range (ys.length * sz)).map g, by simp, fun j u hu => ?_, fun u hu => ?_, fun i x hx => ?_⟩
  · rw [List.getElem?_map] at hu
    by_cases hj : j < ys.length * sz
    · rw [List.getElem?_range hj] at hu
      simp at hu; subst hu
      rw [add_addr]; exact (hg j hj).1
    · rw [List.getElem?_eq_none (by simpa using hj)] at hu; simp at hu
  · simp at hu
    obtain ⟨j, hj, rfl⟩ := hu
    exact (hg j hj).2.1
  · obtain ⟨g1, g2⟩ := h i x hx
    refine ⟨g1, fun c y hc => ?_⟩
    obtain ⟨v, v1, v2, v3⟩ := g2 c y hc
    have hi : i < ys.length := (List.getElem?_eq_some_iff.1 hx).1
    have hcs : c < sz := by have := (List.getElem?_eq_some_iff.1 hc).1; omega
    have hlt := mul_room hi hcs
    refine ⟨v, ?_, v2, v3⟩
    rw [List.getElem?_map, List.getElem?_range hlt]
    have := (hg _ hlt).1
    rw [show q + (i * sz + c) = q + i * sz + c from by omega] at this
    rw [this] at v1
    simpa using v1

theorem elems_sound (hS : SR E) {sz : Nat} (hsz : 0 < sz) {x : AV} {v : Value} {ys : List AV} (hv : VR E x v) (h : elems E.h sz x = some ys) :
    ∃ ad c, v = .slice ad ys.length c ∧ (ad = none → ys.length = 0) ∧ (ys ≠ [] → ∃ b q, ad = some ⟨b, q, none⟩ ∧ MemRow E b q sz ys) := by
  unfold elems at h
  split at h
  · rename_i full z xs
    split at h
    · rename_i hz
      cases h
      simp only [VR, PV] at hv
      obtain ⟨ad, len, cap, rfl, rfl, h2, h3, h4, h5, h6⟩ := hv
      refine ⟨ad, cap, rfl, fun hn => by have := h5.1 hn; omega, fun hne => ?_⟩
      obtain ⟨b, q, rfl, _, hels⟩ := h6 hne
      have : z = sz := by
        rcases hz with hz | hz
        · exact hz
        · exact absurd (List.eq_nil_of_length_eq_zero hz) hne
      subst this
      refine ⟨b, q, rfl, fun i x hx => ?_⟩
      obtain ⟨p1, p2⟩ := PEls_get hels hx
      refine ⟨p1, fun c y hc => ?_⟩
      obtain ⟨u, _, u2, u3, u4⟩ := PCells_get p2 hc
      exact ⟨u, u2, u3, u4⟩
    · cases h
  · rename_i k n off len
    split at h
    · rename_i f hfk
      split at h
      · rename_i hc
        cases h
        obtain ⟨hn, hz, ho⟩ := hc
        simp only [VR] at hv
        obtain ⟨ad, cap, f', rfl, hf', _, hcc⟩ := hv
        have : f' = f := by rw [hfk] at hf'; simpa using hf'.symm
        subst this
        obtain ⟨l1, l2, l3, l4, l5⟩ := hcc hn
        have hF := hS.fams k f' hfk
        have hroom := hF.room
        have hlen : ((f'.xs.drop off).take len).length = len := by simp; omega
        refine ⟨ad, cap, by rw [hlen], fun h => absurd h l4, fun hne => ?_⟩
        have hpos : 0 < len := by
          rcases Nat.eq_zero_or_pos len with h0 | h0
          · subst h0; simp at hne
          · exact h0
        refine ⟨_, _, l5 (by omega), fun i x hx => ?_⟩
        have hi : i < len := by have := (List.getElem?_eq_some_iff.1 hx).1; omega
        have hx' : f'.xs[off + i]? = some x := by
          rw [List.getElem?_take, if_pos hi, List.getElem?_drop] at hx; exact hx
        obtain ⟨cur, t, c1, c2, c3⟩ := hF.cells
        obtain ⟨e1, e2⟩ := c3 (off + i) x (by omega) hx'
        refine ⟨by omega, fun c y hc => ?_⟩
        obtain ⟨u, u1, u2, u3⟩ := e2 c y hc
        refine ⟨u, ?_, u2, u3⟩
        rw [cell_of_row _ _ _ _ _ _ c1]
        rw [show (E.im k).o + (off - (E.im k).lo) * f'.sz + i * sz + c = (E.im k).o + (off + i - (E.im k).lo) * f'.sz + c from by
          rw [show off + i - (E.im k).lo = (off - (E.im k).lo) + i from by omega, Nat.add_mul, hz]; omega]
        exact u1
      · cases h
    · cases h
  · cases h

/-! ### Append in the model -/

theorem run_append_zero (t ty e : TypeId) (i : TypeInfo) (ht : P.underlying t = some (.slice e)) (hi : P.info? e = some i) (base ad : Option Addr) (n c m : Nat) (hnc : n ≤ c) (w : World) :
    (Builtin.append_ #[t, t] ty #[.slice base n c, .slice ad 0 m]).run P w = .ok (.slice base n c) w := by
  have hf : (Builtin.firstCells i.size 0 (.slice ad 0 m)).run P w = .ok #[] w := by
    cases ad <;> simp [Builtin.firstCells, loadCells, loadCellsFrom]
  cases base <;> simp [Builtin.append_, run_underlying ht, sizeOf, typeInfo, hi, Builtin.lenOf, hnc, hf, storeCells]

theorem run_append_in (t ty e : TypeId) (i : TypeInfo) (ht : P.underlying t = some (.slice e)) (hi : P.info? e = some i)
    (g q sLen sCap : Nat) (cur : Array Value) (t' : TypeId) (w : World) (hg : w.heap[g]? = some (.cells cur t' (0, 0)))
    (a : Addr) (m c : Nat) (news : List Value) (hl : news.length = m * i.size) (hnews : ∀ j u, news[j]? = some u → w.cell? (a.add j) = some u) (h1 : ∀ u ∈ news, u.oneCell' = true)
    (hroom : sLen + m ≤ sCap) (hfit : q + sLen * i.size + news.length ≤ cur.size) :
    (Builtin.append_ #[t, t] ty #[.slice (some ⟨g, q, none⟩) sLen sCap, .slice (some a) m c]).run P w =
      .ok (.slice (some ⟨g, q, none⟩) (sLen + m) sCap) (w.setRow g (cur.toList.take (q + sLen * i.size) ++ news ++ cur.toList.drop (q + sLen * i.size + news.length)).toArray) := by
  have hf := run_firstCells_some (P := P) w i.size m a m c news hl hnews
  have hst := run_storeCells_at P g (q + sLen * i.size) t' news 0 cur w hg (by simpa using hfit) h1
  simp only [Nat.add_zero] at hst
  simp [Builtin.append_, run_underlying ht, sizeOf, typeInfo, hi, Builtin.lenOf, hroom, hf, add_addr, hst]

theorem drew_below {B : Nat} (w : World) : Below B w w.drew := (Below.refl B w).drew

theorem RowL_append {us vs : List Value} {xs ys : List AV} {sz : Nat} (h1 : RowL E us xs sz) (hl : us.length = xs.length * sz) (h2 : RowL E vs ys sz) : RowL E (us ++ vs) (xs ++ ys) sz := by
  intro i x hx
  by_cases hi : i < xs.length
  · rw [List.getElem?_append_left hi] at hx
    obtain ⟨g1, g2⟩ := h1 i x hx
    refine ⟨g1, fun c y hc => ?_⟩
    obtain ⟨v, v1, v2⟩ := g2 c y hc
    exact ⟨v, by rw [List.getElem?_append_left (List.getElem?_eq_some_iff.1 v1).1]; exact v1, v2⟩
  · rw [List.getElem?_append_right (by omega)] at hx
    obtain ⟨g1, g2⟩ := h2 _ x hx
    refine ⟨g1, fun c y hc => ?_⟩
    obtain ⟨v, v1, v2⟩ := g2 c y hc
    refine ⟨v, ?_, v2⟩
    have : xs.length * sz ≤ i * sz := Nat.mul_le_mul_right _ (by omega)
    rw [List.getElem?_append_right (by omega), hl, show i * sz + c - xs.length * sz = (i - xs.length) * sz + c from by rw [Nat.sub_mul]; omega]
    exact v1

theorem RowL_more {us vs : List Value} {xs : List AV} {sz : Nat} (h1 : RowL E us xs sz) : RowL E (us ++ vs) xs sz := by
  intro i x hx
  obtain ⟨g1, g2⟩ := h1 i x hx
  refine ⟨g1, fun c y hc => ?_⟩
  obtain ⟨v, v1, v2⟩ := g2 c y hc
  exact ⟨v, by rw [List.getElem?_append_left (List.getElem?_eq_some_iff.1 v1).1]; exact v1, v2⟩

theorem RowL_ext {E' : Env} (h : Ext E E') {us : List Value} {xs : List AV} {sz : Nat} (h1 : RowL E us xs sz) : RowL E' us xs sz := by
  intro i x hx
  obtain ⟨g1, g2⟩ := h1 i x hx
  refine ⟨g1, fun c y hc => ?_⟩
  obtain ⟨v, v1, v2, v3⟩ := g2 c y hc
  exact ⟨v, v1, v2, PV_mono h.cells _ _ v3⟩

end
end Go.Abs

namespace Go.Abs
open Go.RowKit (Below)
section
variable {E : Env} {P : Program} {fr : Fr} {a : Act} {o : Oper}

theorem exec_append {args : Array Operand} {ats : Array TypeId} {s x : Operand} {t : TypeId} (ho : o.op = .call { callee := .builtin .append, args := args, argTypes := ats }) (h1 : args.toList = [s, x]) (h2 : ats.toList = [t, t]) {v : Value} {w w' : World}
    (h : (Builtin.append_ #[t, t] o.type #[a.eval s, a.eval x]).run P w = .ok v w') : (execOp a.eval o).run P w = .ok (.value v) w' := by
  rw [arr_two h1, arr_two h2] at ho
  simp only [execOp, ho, resolve, invoke, builtin, Sem.run_bind, Sem.run_pure, Result.andThen_ok, List.map_toArray, List.map_cons, List.map_nil, h]

theorem grown_row {us : List Value} {xs : List AV} {sz n cap : Nat} (hr : RowL E us xs sz) (hl : us.length = n * sz) (z : Array Value) (hz : z.size = sz) (hcap : n ≤ cap) :
    RowL E (us.toArray ++ Builtin.zeroCells z (cap - n)).toList xs sz ∧ cap * sz ≤ (us.toArray ++ Builtin.zeroCells z (cap - n)).size := by
  refine ⟨?_, ?_⟩
  · rw [Array.toList_append]
    exact RowL_more hr
  · rw [Array.size_append, size_zeroCells, hz, List.size_toArray, hl, ← Nat.add_mul]
    exact Nat.mul_le_mul_right _ (by omega)

/-- An append that makes a new block: onto nothing, or onto a row that has no room. -/
theorem run_append_new {t ty e : TypeId} {i : TypeInfo} {z : Value} (ht : P.underlying t = some (.slice e)) (hi : P.info? e = some i) (hz : i.zero = some z) (hzs : z.cells.size = i.size)
    {base : Option Addr} {n cap : Nat} {olds : List Value} {xs : List AV} (hb : base = none → cap = 0) (hnc : n ≤ cap) (hold : olds.length = n * i.size) (hxs : xs.length = n)
    (holds : ∀ b, base = some b → ∀ (j : Nat) (u : Value), olds[j]? = some u → E.w.cell? (b.add j) = some u) (hro : RowL E olds xs i.size)
    {ad : Addr} {ys : List AV} {c : Nat} {news : List Value} (hl : news.length = ys.length * i.size) (hnews : ∀ (j : Nat) (u : Value), news[j]? = some u → E.w.cell? (ad.add j) = some u) (hrn : RowL E news ys i.size)
    (hg : cap < n + ys.length) (hm : n + ys.length ≤ maxLen) (hbytes : (n + ys.length) * i.bytes ≤ roomA) :
    ∃ us newCap, (Builtin.append_ #[t, t] ty #[.slice base n cap, .slice (some ad) ys.length c]).run P E.w = .ok (.slice (some ⟨E.w.heap.size, 0, none⟩) (n + ys.length) newCap) (E.w.drew.alloc (.cells us e)) ∧
      n + ys.length ≤ newCap ∧ newCap ≤ maxLen ∧ newCap * i.size ≤ us.size ∧ RowL E us.toList (xs ++ ys) i.size := by
  have hfit := growslice_fits hg hbytes
  have h63 : ((n + ys.length : Nat) : Int) ≤ 9223372036854775807 := by unfold maxLen at hm; omega
  refine ⟨(olds ++ news).toArray ++ Builtin.zeroCells z.cells (grownCap E.w (n + ys.length) cap e - (n + ys.length)), grownCap E.w (n + ys.length) cap e, ?_, grownCap_ge _ _ _ _, grownCap_le_maxLen _ _ _ _ hm, ?_, ?_⟩
  rotate_left 1
  · exact (grown_row (us := olds ++ news) (xs := xs ++ ys) (n := n + ys.length) (RowL_append hro (by rw [hold, hxs]) hrn) (by rw [List.length_append, hold, hl, Nat.add_mul]) z.cells hzs (grownCap_ge E.w _ cap e)).2
  · exact (grown_row (us := olds ++ news) (xs := xs ++ ys) (n := n + ys.length) (RowL_append hro (by rw [hold, hxs]) hrn) (by rw [List.length_append, hold, hl, Nat.add_mul]) z.cells hzs (grownCap_ge E.w _ cap e)).1
  · cases base with
    | none =>
      have hc := hb rfl
      subst hc
      have hn0 : n = 0 := by omega
      subst hn0
      have ho0 : olds = [] := List.eq_nil_of_length_eq_zero (by simpa using hold)
      subst ho0
      have := run_append_nil (P := P) E.w t ty e i z ht hi hz ad ys.length c news hl hnews (by omega) (by simpa using h63) (by simp at hbytes; unfold roomA at hbytes; omega)
      simpa using this
    | some b =>
      have := run_append_grow (P := P) E.w t ty e i z ht hi hz b n cap olds hold (holds b rfl) ad ys.length c news hl hnews hg h63 hfit
      rw [this]
      simp

theorem drew_ext (hS : SR E) : Ext E { E with w := E.w.drew } := grow_ext hS (drew_below _)
theorem drew_SR (hS : SR E) : SR { E with w := E.w.drew } := grow_SR hS (drew_below _)

theorem d_app_full {c : Ctx} {args : Array Operand} {ats : Array TypeId} {s x : Operand} {s' x' : Opd} {t e : TypeId} {i : TypeInfo} {z : AV} {z0 : Nat} {xs ys : List AV} (hS : SR E) (hf : FR E fr a.tmps)
    (ho : o.op = .call { callee := .builtin .append, args := args, argTypes := ats }) (h1 : args.toList = [s, x]) (h2 : ats.toList = [t, t]) (ht : P.underlying t = some (.slice e)) (hi : P.info? e = some i) (hz : Program.zeroA P e = some z) (hpos : 0 < i.size)
    (hs : resOpd s = some s') (hx : resOpd x = some x') (hg : get fr s' = .vs true z0 xs) (hys : elems E.h i.size (get fr x') = some ys) (hne : ys.length ≠ 0) (hz0 : z0 = i.size ∨ xs.length = 0)
    (hb : (xs.length + ys.length) * i.bytes ≤ roomA) (hm : xs.length + ys.length ≤ maxLen) :
    Does P a o E (.sl E.h.fams.length (xs.length + ys.length) 0 (xs.length + ys.length)) { E.h with fams := E.h.fams ++ [⟨xs ++ ys, i.size, c.mutApp⟩] } := by
  obtain ⟨i', zv, q1, q2, q3, q4, q5⟩ := zeroA_spec hz
  rw [hi] at q1; cases q1
  have e1 := opd_sound hf hs
  rw [hg] at e1
  simp only [VR, PV] at e1
  obtain ⟨base, len, cap, e2, rfl, e4, e5, e6, e7, e8⟩ := e1
  have ecap : cap = xs.length := e6 trivial
  obtain ⟨ad, cx, f1, f2, f3⟩ := elems_sound hS hpos (opd_sound hf hx) hys
  obtain ⟨b, q, rfl, f4⟩ := f3 (by intro h; subst h; simp at hne)
  obtain ⟨news, n1, n2, _, n4⟩ := MemRow_list hpos f4
  have hold : ∃ olds : List Value, olds.length = xs.length * i.size ∧ (∀ b, base = some b → ∀ (j : Nat) (u : Value), olds[j]? = some u → E.w.cell? (b.add j) = some u) ∧ RowL E olds xs i.size := by
    by_cases hxe : xs = []
    · subst hxe
      exact ⟨[], by simp, fun b _ j u h => by simp at h, fun j x h => by simp at h⟩
    · obtain ⟨b', q', rfl, _, hels⟩ := e8 hxe
      have : z0 = i.size := by
        rcases hz0 with h | h
        · exact h
        · exact absurd (List.eq_nil_of_length_eq_zero h) hxe
      subst this
      obtain ⟨olds, o1, o2, _, o4⟩ := MemRow_list (E := E) (b := b') (q := q') hpos (ys := xs) (fun j x hj => by
        obtain ⟨p1, p2⟩ := PEls_get hels hj
        refine ⟨p1, fun c y hc => ?_⟩
        obtain ⟨u, _, u2, u3, u4⟩ := PCells_get p2 hc
        exact ⟨u, u2, u3, u4⟩)
      exact ⟨olds, o1, fun b'' hb'' => by cases hb''; exact o2, o4⟩
  obtain ⟨olds, o1, o2, o3⟩ := hold
  obtain ⟨us, newCap, r1, r2, r3, r4, r5⟩ := run_append_new (P := P) (ty := o.type) ht hi q2 q3 e7.1 e4 o1 rfl o2 o3 n1 n2 n4 (c := cx) (by omega) hm hb
  have hE1 := drew_SR hS
  have hx1 := drew_ext hS
  refine ⟨_, .slice (some ⟨E.w.heap.size, 0, none⟩) (xs.length + ys.length) newCap, ({ E with w := E.w.drew } : Env).newFam us e newCap ⟨xs ++ ys, i.size, c.mutApp⟩, ?_, .inl rfl, hx1.trans (newFam_ext hE1 _ _ _ _),
    newFam_SR hE1 hpos (by simpa using r2) r3 r4 (fun j x hj => RowL_FElem (RowL_ext hx1 r5) j x hj), rfl, ?_⟩
  · refine exec_append ho h1 h2 ?_
    rw [e2, f1, r1]
    rfl
  · simp only [VR, Env.newFam, upd_same]
    exact ⟨_, _, ⟨xs ++ ys, i.size, c.mutApp⟩, rfl, by simp, ⟨by simp, fun _ => ⟨_, _, rfl⟩⟩, fun _ => ⟨Nat.zero_le _, by simp, by simp, (fun h => nomatch h), fun _ => by simp⟩⟩

theorem set_same {α : Type} {l : List α} {k : Nat} {x : α} (h : l[k]? = some x) : l.set k x = l := by
  apply List.ext_getElem?
  intro j
  rw [List.getElem?_set]
  split
  · rename_i hj; subst hj
    have := (List.getElem?_eq_some_iff.1 h).1
    rw [if_pos this]; exact h.symm
  · rfl

theorem d_app_row {args : Array Operand} {ats : Array TypeId} {s x : Operand} {s' x' : Opd} {t e : TypeId} {i : TypeInfo} {z : AV} {k n off len : Nat} {f : Fam} {ys : List AV} (hS : SR E) (hf : FR E fr a.tmps)
    (ho : o.op = .call { callee := .builtin .append, args := args, argTypes := ats }) (h1 : args.toList = [s, x]) (h2 : ats.toList = [t, t]) (ht : P.underlying t = some (.slice e)) (hi : P.info? e = some i) (hz : Program.zeroA P e = some z) (hpos : 0 < i.size)
    (hs : resOpd s = some s') (hx : resOpd x = some x') (hg : get fr s' = .sl k n off len) (hys : elems E.h i.size (get fr x') = some ys) (hfk : E.h.fams[k]? = some f) (hn : f.xs.length = n) (hsz : f.sz = i.size) (hoff : off + len = n)
    (hb : (n + ys.length) * i.bytes ≤ roomA) (hm : n + ys.length ≤ maxLen) :
    Does P a o E (.sl k (n + ys.length) off (len + ys.length)) { E.h with fams := E.h.fams.set k { f with xs := f.xs ++ ys } } := by
  obtain ⟨i', zv, q1, q2, q3, q4, q5⟩ := zeroA_spec hz
  rw [hi] at q1; cases q1
  have e1 := opd_sound hf hs
  rw [hg] at e1
  have e1' := e1
  simp only [VR] at e1
  obtain ⟨base, cap, f', e2, hf', e4, e5⟩ := e1
  have : f' = f := by rw [hfk] at hf'; simpa using hf'.symm
  subst this
  obtain ⟨l1, l2, l3, l4, l5⟩ := e5 hn
  have hF := hS.fams k f' hfk
  have hroom := hF.room
  have hk' := (List.getElem?_eq_some_iff.1 hfk).1
  obtain ⟨ad, cx, f1, f2, f3⟩ := elems_sound hS hpos (opd_sound hf hx) hys
  have hlencap : len ≤ cap := by omega
  by_cases h0 : ys = []
  · subst h0
    have hset : E.h.fams.set k { f' with xs := f'.xs ++ [] } = E.h.fams := set_same (by rw [List.append_nil]; exact hfk)
    refine ⟨_, .slice base len cap, E, exec_append ho h1 h2 ?_, .inl rfl, Ext.refl E, hS, by rw [hset], by rw [e2] at e1'; simpa using e1'⟩
    rw [e2, f1]
    exact run_append_zero t _ e i ht hi base ad len cap cx hlencap E.w
  have hylen : 0 < ys.length := by
    rcases Nat.eq_zero_or_pos ys.length with h | h
    · exact absurd (List.eq_nil_of_length_eq_zero h) h0
    · exact h
  obtain ⟨b, q, rfl, f4⟩ := f3 h0
  obtain ⟨news, n1, n2, n3, n4⟩ := MemRow_list hpos f4
  by_cases hin : len + ys.length ≤ cap
  · -- there is room
    have hbase := l5 (by omega)
    obtain ⟨cur, t', c1, c2, c3⟩ := hF.cells
    have hnl : off - (E.im k).lo + len = n - (E.im k).lo := by omega
    have epos : (E.im k).o + (off - (E.im k).lo) * f'.sz + len * i.size = (E.im k).o + (n - (E.im k).lo) * f'.sz := by
      rw [← hnl, Nat.add_mul, hsz]; omega
    have hfit : (E.im k).o + (n - (E.im k).lo) * f'.sz + news.length ≤ cur.size := by
      have h3 : (n - (E.im k).lo + ys.length) * f'.sz ≤ (E.im k).cap * f'.sz := Nat.mul_le_mul_right _ (by omega)
      rw [Nat.add_mul] at h3
      rw [n1, ← hsz]; omega
    have hrun := run_append_in (P := P) t o.type e i ht hi (E.im k).b ((E.im k).o + (off - (E.im k).lo) * f'.sz) len cap cur t' E.w c1 ⟨b, q, none⟩ ys.length cx news n1 n2 n3 hin (by rw [epos]; exact hfit)
    rw [epos] at hrun
    obtain ⟨us, hus⟩ : ∃ us : Array Value, us = (cur.toList.take ((E.im k).o + (n - (E.im k).lo) * f'.sz) ++ news ++ cur.toList.drop ((E.im k).o + (n - (E.im k).lo) * f'.sz + news.length)).toArray := ⟨_, rfl⟩
    rw [← hus] at hrun
    have hget : ∀ j : Nat, us[j]? = if j < (E.im k).o + (n - (E.im k).lo) * f'.sz then cur[j]? else if j < (E.im k).o + (n - (E.im k).lo) * f'.sz + news.length then news[j - ((E.im k).o + (n - (E.im k).lo) * f'.sz)]? else cur[j]? := by
      intro j
      have := splice_get (l := cur.toList) (off := (E.im k).o + (n - (E.im k).lo) * f'.sz) (vs := news) (by simpa using hfit) j
      simp only [Array.getElem?_toList] at this
      rw [hus, List.getElem?_toArray, this]
    have hkeep : f'.wr = false → ∀ j, j < (E.im k).o + (f'.xs.length - (E.im k).lo) * f'.sz → us[j]? = cur[j]? := by
      intro _ j hj
      rw [hn] at hj
      rw [hget, if_pos hj]
    refine ⟨_, .slice base (len + ys.length) cap, E.setFam k us { f' with xs := f'.xs ++ ys }, exec_append ho h1 h2 ?_, .inl rfl, setFam_ext hS hfk c1 rfl rfl (by simp) hkeep,
      setFam_SR hS hfk c1 rfl rfl (by simp) hkeep (by simp; omega) (by rw [hus]; simp; omega) ?_, rfl, ?_⟩
    · rw [e2, f1, hbase, hrun]
      rfl
    · intro j x' hj hx'
      have hx'' : (f'.xs ++ ys)[j]? = some x' := hx'
      by_cases hjn : j < n
      · rw [List.getElem?_append_left (by omega)] at hx''
        obtain ⟨g1, g2⟩ := c3 j x' hj hx''
        refine ⟨g1, fun c y hc => ?_⟩
        obtain ⟨v, v1, v2⟩ := g2 c y hc
        have hcs : c < f'.sz := by have := (List.getElem?_eq_some_iff.1 hc).1; omega
        have := mul_room (show j - (E.im k).lo < n - (E.im k).lo by omega) hcs
        exact ⟨v, by rw [hget, if_pos (by omega)]; exact v1, v2⟩
      · rw [List.getElem?_append_right (by omega), hn] at hx''
        obtain ⟨g1, g2⟩ := n4 _ x' hx''
        refine ⟨by omega, fun c y hc => ?_⟩
        obtain ⟨v, v1, v2⟩ := g2 c y hc
        have hcs : c < f'.sz := by have := (List.getElem?_eq_some_iff.1 hc).1; omega
        have hjy : j - n < ys.length := by have := (List.getElem?_eq_some_iff.1 hx'').1; omega
        have h5 := mul_room hjy hcs
        have ej : (j - (E.im k).lo) * f'.sz = (n - (E.im k).lo) * f'.sz + (j - n) * f'.sz := by
          rw [← Nat.add_mul]; congr 1; omega
        refine ⟨v, ?_, v2⟩
        rw [hget, ej, if_neg (by omega), if_pos (by rw [n1, ← hsz]; omega)]
        rw [show (E.im k).o + ((n - (E.im k).lo) * f'.sz + (j - n) * f'.sz) + c - ((E.im k).o + (n - (E.im k).lo) * f'.sz) = (j - n) * i.size + c from by rw [← hsz]; omega]
        exact v1
    · simp only [VR, Env.setFam]
      refine ⟨base, cap, { f' with xs := f'.xs ++ ys }, rfl, by simp [hk'], ⟨by simp [hn], fun _ => ?_⟩, fun _ => ⟨l1, by omega, l3, l4, l5⟩⟩
      by_cases hc0 : cap = 0
      · exfalso; omega
      · exact ⟨_, _, l5 hc0⟩
  · -- there is none
    have hold : ∃ olds : List Value, olds.length = len * i.size ∧ (∀ b, base = some b → ∀ (j : Nat) (u : Value), olds[j]? = some u → E.w.cell? (b.add j) = some u) ∧ RowL E olds ((f'.xs.drop off).take len) i.size := by
      have hll : ((f'.xs.drop off).take len).length = len := by simp; omega
      by_cases hl0 : len = 0
      · subst hl0
        exact ⟨[], by simp, fun b _ j u h => by simp at h, fun j x h => by simp at h⟩
      · obtain ⟨ad', cx', g1, g2, g3⟩ := elems_sound hS (sz := i.size) hpos e1' (ys := (f'.xs.drop off).take len) (by simp only [elems, hfk]; rw [if_pos ⟨hn, hsz, by omega⟩])
        obtain ⟨b', q', rfl, g4⟩ := g3 (by intro h; rw [h] at hll; simp at hll; omega)
        obtain ⟨olds, o1, o2, _, o4⟩ := MemRow_list hpos g4
        rw [e2] at g1
        have : base = some ⟨b', q', none⟩ := by simp at g1; exact g1.1
        subst this
        exact ⟨olds, by rw [o1, hll], fun b'' hb'' => by cases hb''; exact o2, o4⟩
    obtain ⟨olds, o1, o2, o3⟩ := hold
    have hll : ((f'.xs.drop off).take len).length = len := by simp; omega
    obtain ⟨us, newCap, r1, r2, r3, r4, r5⟩ := run_append_new (P := P) (ty := o.type) ht hi q2 q3 (fun e => absurd e l4) hlencap o1 hll o2 o3 n1 n2 n4 (c := cx) (by omega) (by omega) (by
      refine Nat.le_trans (Nat.mul_le_mul_right _ ?_) hb
      omega)
    have hE1 := drew_SR hS
    have hx1 := drew_ext hS
    refine ⟨_, .slice (some ⟨E.w.heap.size, 0, none⟩) (len + ys.length) newCap, ({ E with w := E.w.drew } : Env).moveFam k us e off newCap { f' with xs := f'.xs ++ ys }, exec_append ho h1 h2 ?_, .inl rfl,
      hx1.trans (moveFam_ext hE1 hfk _ _ _ _ rfl (by simp; omega)),
      moveFam_SR hE1 hfk rfl (by simp; omega) (by simp; omega) (by simp; omega) r3 (by rw [hsz]; exact r4) ?_, rfl, ?_⟩
    · rw [e2, f1, r1]
      rfl
    · intro j x' hj hx'
      have hx'' : (f'.xs ++ ys)[j]? = some x' := hx'
      rw [hsz]
      refine RowL_FElem (RowL_ext hx1 r5) (j - off) x' ?_
      by_cases hjn : j < n
      · rw [List.getElem?_append_left (by omega)] at hx''
        rw [List.getElem?_append_left (by omega), List.getElem?_take, if_pos (by omega), List.getElem?_drop, show off + (j - off) = j from by omega]
        exact hx''
      · rw [List.getElem?_append_right (by omega)] at hx''
        rw [List.getElem?_append_right (by omega), hll, show j - off - len = j - f'.xs.length from by omega]
        exact hx''
    · simp only [VR, Env.moveFam, upd_same]
      refine ⟨_, _, { f' with xs := f'.xs ++ ys }, rfl, by simp [hk'], ⟨by simp [hn], fun _ => ⟨_, _, rfl⟩⟩, fun _ => ⟨Nat.le_refl _, by omega, by omega, (fun h => nomatch h), fun _ => by simp⟩⟩

end
end Go.Abs
