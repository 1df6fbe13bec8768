/- More quiet operations: len, max, slicing. -/
import Derived.Test.YtpkegmgepnhfnaaA8
namespace Go.Abs
open Go.RowKit (Below)
section
variable {E : Env} {P : Program} {fr : Fr} {a : Act} {o : Oper}

theorem arr_one {α : Type} {as : Array α} {x : α} (h : as.toList = [x]) : as = #[x] := by cases as; simp_all
theorem arr_two {α : Type} {as : Array α} {x y : α} (h : as.toList = [x, y]) : as = #[x, y] := by cases as; simp_all

theorem q_len_str {args : Array Operand} {ats : Array TypeId} {x : Operand} {t : TypeId} {x' : Opd} {s : ByteArray} (hf : FR E fr a.tmps) (ho : o.op = .call { callee := .builtin .len, args := args, argTypes := ats }) (h1 : args.toList = [x]) (h2 : ats.toList = [t])
    (hts : P.underlying t = some .string) (hx : resOpd x = some x') (hs : get fr x' = .str s) : Quiet P a o E (.int .i64 s.size) := by
  have hv := opd_sound hf hx
  rw [arr_one h1, arr_one h2] at ho
  rw [hs] at hv
  simp only [VR] at hv
  exact ⟨_, by simp [execOp, ho, resolve, invoke, builtin, Builtin.len_, hv, run_under hts, goInt], VR_int _ _⟩

theorem q_len {args : Array Operand} {ats : Array TypeId} {x : Operand} {t e : TypeId} {x' : Opd} {v : AV} (hf : FR E fr a.tmps) (ho : o.op = .call { callee := .builtin .len, args := args, argTypes := ats }) (h1 : args.toList = [x]) (h2 : ats.toList = [t])
    (hts : P.underlying t = some (.slice e)) (hx : resOpd x = some x')
    (h : (match get fr x' with | .vs _ _ xs => some (AV.int .i64 xs.length, E.h) | .sl _ _ _ len => some (.int .i64 len, E.h) | _ => none) = some (v, E.h)) : Quiet P a o E v := by
  have hv := opd_sound hf hx
  rw [arr_one h1, arr_one h2] at ho
  split at h
  · rename_i full z xs hg
    rw [hg] at hv
    simp only [VR, PV] at hv
    obtain ⟨ad, len, cap, e1, rfl, _⟩ := hv
    simp at h; subst h
    exact ⟨_, by simp [execOp, ho, resolve, invoke, builtin, Builtin.len_, e1, run_under hts, goInt], VR_int _ _⟩
  · rename_i k n off len hg
    rw [hg] at hv
    simp only [VR] at hv
    obtain ⟨ad, cap, f, e1, _⟩ := hv
    simp at h; subst h
    exact ⟨_, by simp [execOp, ho, resolve, invoke, builtin, Builtin.len_, e1, run_under hts, goInt], VR_int _ _⟩
  · cases h

theorem q_max {args : Array Operand} {ats : Array TypeId} {x y : Operand} {x' y' : Opd} {k k' : IntKind} {i j : Int} (hf : FR E fr a.tmps) (ho : o.op = .call { callee := .builtin .max, args := args, argTypes := ats }) (h1 : args.toList = [x, y])
    (hx : resOpd x = some x') (hy : resOpd y = some y') (hi : get fr x' = .int k i) (hj : get fr y' = .int k' j) : Quiet P a o E (.int k (if j > i then j else i)) := by
  have e1 := opd_sound hf hx
  have e2 := opd_sound hf hy
  rw [hi] at e1; rw [hj] at e2
  simp only [VR] at e1 e2
  rw [arr_two h1] at ho
  exact ⟨_, by simp [execOp, ho, resolve, invoke, builtin, Builtin.max_, Builtin.max2, e1, e2], VR_int _ _⟩

theorem PEls_cut {w : World} {ok : Nat → Nat → Prop} {sz b o : Nat} {xs : List AV} (h : PEls w ok sz b o xs) (l n : Nat) : PEls w ok sz b (o + l * sz) ((xs.drop l).take n) := by
  refine PEls_of fun j x hx => ?_
  have hj : (xs.drop l)[j]? = some x := by
    rw [List.getElem?_take] at hx
    split at hx
    · exact hx
    · cases hx
  rw [List.getElem?_drop] at hj
  have := PEls_get h hj
  rwa [show o + (l + j) * sz = o + l * sz + j * sz from by rw [Nat.add_mul]; omega] at this

theorem vs_cut {w : World} {ok : Nat → Nat → Prop} {full full' : Bool} {z sz : Nat} {xs : List AV} {ad : Option Addr} {len cap l h m : Nat} (hv : PV w ok (.vs full z xs) (.slice ad len cap)) (hz : z = sz ∨ xs.length = 0)
    (h1 : l ≤ h) (h2 : h ≤ len) (h3 : h ≤ m) (h4 : m ≤ cap) (hfull : full' = true → m = h) :
    PV w ok (.vs full' z ((xs.drop l).take (h - l))) (.slice (if m = l then ad else ad.map (·.add (l * sz))) (h - l) (m - l)) := by
  simp only [PV] at hv ⊢
  obtain ⟨ad', len', cap', e, e2, e3, e4, e5, e6, e7⟩ := hv
  obtain ⟨rfl, rfl, rfl⟩ : ad = ad' ∧ len = len' ∧ cap = cap' := by simpa using e
  refine ⟨_, _, _, rfl, by simp; omega, by omega, by omega, fun hf => by rw [hfull hf], ?_, fun hne => ?_⟩
  · have hnn : (if m = l then ad else ad.map (·.add (l * sz))) = none ↔ ad = none := by split <;> simp
    refine ⟨fun hn => ?_, hnn.trans e6.2⟩
    have := e6.1 (hnn.1 hn)
    omega
  · have hlt : l < h := by
      rcases Nat.lt_or_ge l h with h' | h'
      · exact h'
      · exact absurd (by simp [show h - l = 0 from by omega]) hne
    have hxs : xs ≠ [] := by intro hn; subst hn; simp at e2; omega
    obtain ⟨b, q, rfl, hp, hels⟩ := e7 hxs
    rw [if_neg (by omega)]
    have hzz : z = sz := by
      rcases hz with hz | hz
      · exact hz
      · exact absurd (List.eq_nil_of_length_eq_zero hz) hxs
    subst hzz
    exact ⟨b, q + l * z, by simp [add_addr], hp, PEls_cut hels l (h - l)⟩

theorem q_slc_str {t : TypeId} {x : Operand} {lo hi : Option Operand} {x' : Opd} {lo' hi' : Option Opd} {s : ByteArray} {l u : Option Int} (hf : FR E fr a.tmps) (ho : o.op = .slice t x lo hi none) (ht : P.underlying t = some .string)
    (hx : resOpd x = some x') (hlo : resOpt lo = some lo') (hhi : resOpt hi = some hi') (hg : get fr x' = .str s) (hl : boundA fr lo' = some l) (hu : boundA fr hi' = some u)
    (h0 : 0 ≤ l.getD 0) (h1 : l.getD 0 ≤ u.getD s.size) (h2 : u.getD s.size ≤ s.size) : Quiet P a o E (.str (s.extract (l.getD 0).toNat (u.getD s.size).toNat)) := by
  have hv := opd_sound hf hx
  rw [hg] at hv
  simp only [VR] at hv
  have hb := sliceBounds_none (P := P) (b := false) E.w (bound_sound hf hlo hl) (bound_sound hf hhi hu) h0 h1 h2 (Nat.le_refl _)
  exact ⟨_, by simp [execOp, ho, Instr.sliceAt, Instr.slice, run_under ht, hv, hb], VR_str _⟩

theorem q_slc_vs {t e : TypeId} {x : Operand} {lo hi mx : Option Operand} {x' : Opd} {lo' hi' mx' : Option Opd} {full full' : Bool} {z n : Nat} {xs : List AV} {l u m : Option Int} (hf : FR E fr a.tmps) (ho : o.op = .slice t x lo hi mx) (ht : P.underlying t = some (.slice e)) (hn : Program.size? P e = some n)
    (hx : resOpd x = some x') (hlo : resOpt lo = some lo') (hhi : resOpt hi = some hi') (hmx : resOpt mx = some mx') (hg : get fr x' = .vs full z xs) (hl : boundA fr lo' = some l) (hu : boundA fr hi' = some u) (hm : boundA fr mx' = some m)
    (hz : z = n ∨ xs.length = 0) (h0 : 0 ≤ l.getD 0) (h1 : l.getD 0 ≤ u.getD xs.length)
    (hc : (m = none ∧ u.getD xs.length ≤ xs.length ∧ full' = (full && decide (u.getD xs.length = xs.length))) ∨ (∃ q, m = some q ∧ u.isSome = true ∧ u.getD xs.length ≤ q ∧ q ≤ xs.length ∧ full' = decide (q = u.getD xs.length))) :
    Quiet P a o E (.vs full' z ((xs.drop (l.getD 0).toNat).take (u.getD xs.length - l.getD 0).toNat)) := by
  have hv := opd_sound hf hx
  rw [hg] at hv
  simp only [VR] at hv
  have hv' := hv
  simp only [PV] at hv'
  obtain ⟨ad, len, cap, e1, e2, e3, e4, e5, e6, e7⟩ := hv'
  rw [e1] at hv
  subst e2
  have etn : (u.getD xs.length - l.getD 0).toNat = (u.getD (xs.length : Int)).toNat - (l.getD 0).toNat := by omega
  rw [etn]
  rcases hc with ⟨rfl, h2, hfull⟩ | ⟨q, rfl, hs, h2, h3, hfull⟩
  · have hmn : mx.map a.eval = none := by
      rcases bound_sound hf hmx hm with ⟨_, h⟩ | ⟨k, i, h, _⟩
      · exact h
      · cases h
    have hb := sliceBounds_none (P := P) (b := true) (cap := cap) E.w (bound_sound hf hlo hl) (bound_sound hf hhi hu) h0 h1 h2 e3
    refine ⟨_, by simp [execOp, ho, Instr.sliceAt, Instr.slice, run_under ht, e1, hmn, hb, run_size hn]; rfl, ?_⟩
    simp only [VR]
    refine vs_cut hv hz (by omega) (by omega) (by omega) (Nat.le_refl _) fun hf' => ?_
    rw [hfull] at hf'
    simp at hf'
    have := e5 hf'.1
    omega
  · have hms : ∃ k, mx.map a.eval = some (.int k q) := by
      rcases bound_sound hf hmx hm with ⟨h, _⟩ | ⟨k, i, h, h'⟩
      · cases h
      · cases h; exact ⟨k, h'⟩
    have hb := sliceBounds_some (P := P) (b := true) (len := xs.length) (cap := cap) E.w (bound_sound hf hlo hl) (bound_sound hf hhi hu) hms hs h0 h1 h2 (by omega)
    refine ⟨_, by simp [execOp, ho, Instr.sliceAt, Instr.slice, run_under ht, e1, hb, run_size hn]; rfl, ?_⟩
    simp only [VR]
    refine vs_cut hv hz (by omega) (by omega) (by omega) (by omega) fun hf' => ?_
    rw [hfull] at hf'
    simp at hf'
    omega

theorem q_slc_sl {t e : TypeId} {x : Operand} {lo hi mx : Option Operand} {x' : Opd} {lo' hi' mx' : Option Opd} {n k m off len : Nat} {f : Fam} {l u q : Option Int} {v : AV} (hS : SR E) (hf : FR E fr a.tmps) (ho : o.op = .slice t x lo hi mx) (ht : P.underlying t = some (.slice e)) (hn : Program.size? P e = some n)
    (hx : resOpd x = some x') (hlo : resOpt lo = some lo') (hhi : resOpt hi = some hi') (hmx : resOpt mx = some mx') (hg : get fr x' = .sl k m off len) (hl : boundA fr lo' = some l) (hu : boundA fr hi' = some u) (hm : boundA fr mx' = some q)
    (hfk : E.h.fams[k]? = some f) (hz : f.sz = n) (hlen : f.xs.length = m)
    (hc : (q = none ∧ 0 ≤ l.getD 0 ∧ l.getD 0 ≤ u.getD len ∧ u.getD len ≤ len ∧ v = .sl k m (off + (l.getD 0).toNat) (u.getD len - l.getD 0).toNat) ∨ (q = some 0 ∧ u.isSome = true ∧ l.getD 0 = 0 ∧ u.getD len = 0 ∧ v = .vs true n [])) :
    Quiet P a o E v := by
  have hv := opd_sound hf hx
  rw [hg] at hv
  simp only [VR] at hv
  obtain ⟨ad, cap, f', e1, e2, e3, e4⟩ := hv
  have : f' = f := by rw [hfk] at e2; simpa using e2.symm
  subst this
  obtain ⟨l1, l2, l3, l4, l5⟩ := e4 hlen
  have hroom := (hS.fams k f' hfk).room
  rcases hc with ⟨rfl, h0, h1, h2, rfl⟩ | ⟨rfl, hs, h0, h1, rfl⟩
  · have hmn : mx.map a.eval = none := by
      rcases bound_sound hf hmx hm with ⟨_, h⟩ | ⟨k, i, h, _⟩
      · exact h
      · cases h
    have hb := sliceBounds_none (P := P) (b := true) (len := len) (cap := cap) E.w (bound_sound hf hlo hl) (bound_sound hf hhi hu) h0 h1 h2 (by omega)
    have etn : (u.getD len - l.getD 0).toNat = (u.getD (len : Int)).toNat - (l.getD 0).toNat := by omega
    rw [etn]
    refine ⟨_, by simp [execOp, ho, Instr.sliceAt, Instr.slice, run_under ht, e1, hmn, hb, run_size hn]; rfl, ?_⟩
    simp only [VR]
    refine ⟨_, _, f', rfl, hfk, e3, fun _ => ⟨by omega, by omega, by omega, fun hnone => ?_, fun hne => ?_⟩⟩
    · split at hnone
      · exact l4 hnone
      · exact l4 (by simpa using hnone)
    · rw [if_neg (by omega), l5 (by omega)]
      simp only [Option.map_some, add_addr]
      congr 2
      rw [show off + (l.getD 0).toNat - (E.im k).lo = (off - (E.im k).lo) + (l.getD 0).toNat from by omega, Nat.add_mul, hz]
      omega
  · have hms : ∃ k, mx.map a.eval = some (.int k 0) := by
      rcases bound_sound hf hmx hm with ⟨h, _⟩ | ⟨k, i, h, h'⟩
      · cases h
      · cases h; exact ⟨k, h'⟩
    have hb := sliceBounds_some (P := P) (b := true) (len := len) (cap := cap) E.w (bound_sound hf hlo hl) (bound_sound hf hhi hu) hms hs (by omega) (by omega) (by omega) (by omega)
    refine ⟨.slice ad 0 0, by simp [execOp, ho, Instr.sliceAt, Instr.slice, run_under ht, e1, hb, run_size hn, h0, h1], ?_⟩
    simp only [VR, PV]
    exact ⟨_, _, _, rfl, rfl, Nat.le_refl _, by simp, fun _ => rfl, ⟨fun _ => rfl, ⟨fun e => absurd e l4, fun e => absurd (hS.fams k f' hfk).sz (by omega)⟩⟩, fun h => absurd rfl h⟩

end
end Go.Abs
