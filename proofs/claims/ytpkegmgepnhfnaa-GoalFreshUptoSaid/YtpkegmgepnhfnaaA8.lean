/- Each quiet operation: what it yields in the model is what the abstract operation yields. -/
import Derived.Test.YtpkegmgepnhfnaaA7
namespace Go.Abs
open Go.RowKit (Below)
section
variable {E : Env} {P : Program} {fr : Fr} {a : Act} {o : Oper}

theorem q_mov {x : Operand} {y : Opd} (hf : FR E fr a.tmps) (ho : o.op = .move x ∨ o.op = .assign x) (hx : resOpd x = some y) : Quiet P a o E (get fr y) := by
  refine ⟨a.eval x, ?_, opd_sound hf hx⟩
  rcases ho with ho | ho <;> simp [execOp, ho]

theorem q_pick {c x y : Operand} {c' x' y' : Opd} {t : Bool} (hf : FR E fr a.tmps) (ho : o.op = .pick c x y) (hc : resOpd c = some c') (hx : resOpd x = some x') (hy : resOpd y = some y') (hg : get fr c' = .bool t) :
    Quiet P a o E (if t then get fr x' else get fr y') := by
  have h := opd_sound hf hc
  rw [hg] at h
  simp only [VR] at h
  refine ⟨if t then a.eval x else a.eval y, ?_, ?_⟩
  · cases t <;> simp [execOp, ho, h, asBool]
  · cases t
    · exact opd_sound hf hy
    · exact opd_sound hf hx

theorem q_ld {t : TypeId} {x : Operand} {x' : Opd} {b : Bool} {n : Nat} {v : AV} (hS : SR E) (hf : FR E fr a.tmps) (ho : o.op = .load t x) (hb : Program.agg? P t = some b) (hn : Program.size? P t = some n) (hx : resOpd x = some x')
    (h : loadA E.h b n (get fr x') = some v) : Quiet P a o E v := by
  obtain ⟨bl, of, cs, e1, e2, e3⟩ := loadA_cells hS (opd_sound hf hx) h
  obtain ⟨u, h1, h2⟩ := run_load_cells (P := P) e2 e3 hb hn
  exact ⟨u, by simp [execOp, ho, Instr.loadAt, Instr.sureAddr, e1, h1], h2⟩

theorem q_nilck {x : Operand} {x' : Opd} {v : AV} (hf : FR E fr a.tmps) (ho : o.op = .nilCheck x) (hx : resOpd x = some x')
    (h : (match get fr x' with | .pv cs => some (AV.pv cs, E.h) | .ptr b o => some (.ptr b o, E.h) | .ep k n i q => some (.ep k n i q, E.h) | .fn f cs => some (.fn f cs, E.h) | _ => none) = some (v, E.h)) : Quiet P a o E v := by
  have hv := opd_sound hf hx
  refine ⟨a.eval x, ?_, ?_⟩
  · split at h
    · rename_i hg; rw [hg] at hv; simp only [VR, PV] at hv; obtain ⟨b, o', e, _⟩ := hv; simp [execOp, ho, e]
    · rename_i hg; rw [hg] at hv; simp only [VR] at hv; obtain ⟨_, e⟩ := hv; simp [execOp, ho, e]
    · rename_i hg; rw [hg] at hv; simp only [VR] at hv; obtain ⟨a', f, e, _⟩ := hv; simp [execOp, ho, e]
    · rename_i hg; rw [hg] at hv; simp only [VR] at hv; obtain ⟨us, e, _⟩ := hv; simp [execOp, ho, e]
    · cases h
  · split at h <;> first | (cases h; done) | (rename_i hg; rw [hg] at hv; simp at h; rw [← h]; exact hv)

theorem q_bin {op : BinOp} {t t' : TypeId} {x y : Operand} {x' y' : Opd} {v : AV} (hf : FR E fr a.tmps) (ho : o.op = .binOp op t x y t') (hx : resOpd x = some x') (hy : resOpd y = some y')
    (h : evalBin op (get fr x') (get fr y') = some v) : Quiet P a o E v := by
  obtain ⟨u, h1, h2⟩ := bin_sound (P := P) (t := t) (opd_sound hf hx) (opd_sound hf hy) x y E.w h
  refine ⟨u, ?_, h2⟩
  simp only [execOp, ho, Sem.run_bind] at h1 ⊢
  rw [h1]
  rfl

theorem q_beq {neg : Bool} {t t' : TypeId} {x y : Operand} {x' y' : Opd} {i j : Bool} (hf : FR E fr a.tmps) (ho : o.op = .binOp (if neg then .neq else .eql) t x y t') (ht : P.underlying t = some .bool) (hx : resOpd x = some x') (hy : resOpd y = some y')
    (hi : get fr x' = .bool i) (hj : get fr y' = .bool j) : Quiet P a o E (.bool (if neg then !(i == j) else i == j)) := by
  have e1 := opd_sound hf hx
  have e2 := opd_sound hf hy
  rw [hi] at e1; rw [hj] at e2
  simp only [VR] at e1 e2
  refine ⟨_, ?_, VR_bool _⟩
  have h := beq_sound (neg := neg) (i := i) (j := j) ht x y E.w
  simp only [execOp, ho, Sem.run_bind, e1, e2] at h ⊢
  rw [h]
  rfl

theorem q_nileq {neg : Bool} {t e t' : TypeId} {x y : Operand} {x' : Opd} {full : Bool} {z : Nat} {xs : List AV} (hf : FR E fr a.tmps) (ho : o.op = .binOp (if neg then .neq else .eql) t x y t') (ht : P.underlying t = some (.slice e)) (hx : resOpd x = some x') (hy : resOpd y = some (.c (.vs true 0 [])))
    (hi : get fr x' = .vs full z xs) : Quiet P a o E (.bool (if neg then !(z == 0) else z == 0)) := by
  have e1 := opd_sound hf hx
  have e2 := opd_sound hf hy
  rw [hi] at e1
  simp only [get, VR, PV] at e1 e2
  obtain ⟨ad, len, cap, e3, e4, e5, e6, e7, e8, e9⟩ := e1
  obtain ⟨ad', len', cap', k3, k4, k5, k6, k7, k8, k9⟩ := e2
  obtain rfl : ad' = none := k8.2.2 trivial
  obtain rfl : len' = 0 := k4
  obtain rfl : cap' = 0 := k8.1 rfl
  refine ⟨_, ?_, VR_bool _⟩
  have h := nileq_sound (neg := neg) (ad := ad) (len := len) (cap := cap) ht x y E.w
  have hz : ad.isNone = (z == 0) := by
    cases ad with
    | none => simp [e8.2.1 rfl]
    | some a => have : z ≠ 0 := fun hz => by have := e8.2.2 hz; cases this
                simp [this]
  rw [hz] at h
  simp only [execOp, ho, Sem.run_bind, e3, k3] at h ⊢
  rw [h]
  rfl

theorem q_un {op : UnOp} {t : TypeId} {x : Operand} {x' : Opd} {v : AV} (hf : FR E fr a.tmps) (ho : o.op = .unOp op t x) (hx : resOpd x = some x') (h : evalUn op (get fr x') = some v) : Quiet P a o E v := by
  have hv := opd_sound hf hx
  generalize get fr x' = y at h hv
  cases y <;> cases op <;> simp only [evalUn] at h <;> cases h
  · simp only [VR] at hv
    refine ⟨_, ?_, VR_bool _⟩
    simp only [execOp, ho, hv, Op.unary, Sem.run_bind, Sem.run_pure, Result.andThen_ok]
  · simp only [VR] at hv
    refine ⟨_, ?_, VR_int _ _⟩
    simp only [execOp, ho, hv, Op.unary, Op.intArith, Sem.run_bind, Sem.run_pure, Result.andThen_ok]

theorem q_conv {s d : TypeId} {k k0 : IntKind} {x : Operand} {x' : Opd} {q : IntKind} {n : Int} (hf : FR E fr a.tmps) (ho : o.op = .convert s d x) (hs : P.underlying s = some (.int k0)) (hd : P.underlying d = some (.int k)) (hx : resOpd x = some x')
    (hg : get fr x' = .int q n) : Quiet P a o E (.int k (k.wrap n)) := by
  have hv := opd_sound hf hx
  rw [hg] at hv
  simp only [VR] at hv
  exact ⟨_, by simp [execOp, ho, convert, run_under hs, run_under hd, hv, Conv.intToInt], VR_int _ _⟩

theorem q_cstr {s d : TypeId} {x : Operand} {x' : Opd} {n : ByteArray} (hf : FR E fr a.tmps) (ho : o.op = .convert s d x) (hs : P.underlying s = some .string) (hd : P.underlying d = some .string) (hx : resOpd x = some x')
    (hg : get fr x' = .str n) : Quiet P a o E (.str n) := by
  have hv := opd_sound hf hx
  rw [hg] at hv
  simp only [VR] at hv
  exact ⟨_, by simp [execOp, ho, convert, run_under hs, run_under hd, hv], VR_str _⟩

theorem q_clos {f : FuncId} {first caps : Array Operand} {cs : List Opd} (hf : FR E fr a.tmps) (ho : o.op = .makeFunc (.func f) first caps) (h0 : first.size = 0) (hc : mapO resOpd caps.toList = some cs) :
    Quiet P a o E (.fn f (cs.map (get fr))) := by
  have : first = #[] := Array.size_eq_zero_iff.1 h0
  subst this
  refine ⟨.func (.func f) #[] (caps.map a.eval), by simp [execOp, ho, Instr.makeFunc], ?_⟩
  simp only [VR]
  exact ⟨_, rfl, opds_sound hf hc⟩

theorem q_faddr {s : TypeId} {x : Operand} {x' : Opd} {i n : Nat} {fs : Array Field} {f : Field} {v : AV} (hf : FR E fr a.tmps) (ho : o.op = .fieldAddr s x i) (hs : P.underlying s = some (.struct fs)) (hi : fs[i]? = some f)
    (hn : Program.size? P f.type = some n) (hpos : 0 < n) (hx : resOpd x = some x')
    (h : (match get fr x' with | .pv cs => some (AV.pv (cs.drop f.offset), E.h) | .ptr b o => some (.ptr b (o + f.offset), E.h) | .ep k n i q => some (.ep k n i (q + f.offset), E.h) | _ => none) = some (v, E.h)) : Quiet P a o E v := by
  have hv := opd_sound hf hx
  have hp : ∀ b q, (fieldPlace ⟨b, q, none⟩ f).run P E.w = .ok ⟨b, q + f.offset, none⟩ E.w := by
    intro b q
    unfold fieldPlace
    simp [run_size hn, show ¬ n = 0 from by omega, add_addr]
  split at h
  · rename_i cs hg
    rw [hg] at hv
    simp only [VR, PV] at hv
    obtain ⟨b, q, e, hc⟩ := hv
    simp at h; subst h
    refine ⟨.pointer (some ⟨b, q + f.offset, none⟩), by simp [execOp, ho, Instr.fieldAt, run_under hs, hi, e, Instr.sureAddr, hp], ?_⟩
    simp only [VR, PV]
    refine ⟨b, q + f.offset, rfl, PCells_of fun j c hc' => ?_⟩
    rw [List.getElem?_drop] at hc'
    have := PCells_get hc hc'
    rwa [show q + (f.offset + j) = q + f.offset + j from by omega] at this
  · rename_i b q hg
    rw [hg] at hv
    simp only [VR] at hv
    obtain ⟨hb, e⟩ := hv
    simp at h; subst h
    exact ⟨.pointer (some ⟨E.nb b, q + f.offset, none⟩), by simp [execOp, ho, Instr.fieldAt, run_under hs, hi, e, Instr.sureAddr, hp], by simp only [VR]; exact ⟨hb, trivial⟩⟩
  · rename_i k m j q hg
    rw [hg] at hv
    simp only [VR] at hv
    obtain ⟨ad, g, e, hg1, hg2, hg3⟩ := hv
    simp at h; subst h
    by_cases hm : g.xs.length = m
    · obtain ⟨h1, rfl⟩ := hg3 hm
      refine ⟨.pointer (some ⟨(E.im k).b, (E.im k).o + (j - (E.im k).lo) * g.sz + q + f.offset, none⟩), by simp [execOp, ho, Instr.fieldAt, run_under hs, hi, e, Instr.sureAddr, hp], ?_⟩
      simp only [VR]
      exact ⟨_, g, rfl, hg1, hg2, fun _ => ⟨h1, by rw [Nat.add_assoc]⟩⟩
    · -- a stale address: it is carried on, and no one may use it
      have hadd : ∃ ad', (fieldPlace ad f).run P E.w = .ok ad' E.w := by
        unfold fieldPlace
        simp [run_size hn, show ¬ n = 0 from by omega]
      obtain ⟨ad', had⟩ := hadd
      refine ⟨.pointer (some ad'), by simp [execOp, ho, Instr.fieldAt, run_under hs, hi, e, Instr.sureAddr, had], ?_⟩
      simp only [VR]
      exact ⟨ad', g, rfl, hg1, hg2, fun he => absurd he hm⟩
  · cases h

theorem run_agg {t : TypeId} {b : Bool} (ha : Program.agg? P t = some b) (w : World) : (isAgg t).run P w = .ok b w := by
  unfold Program.agg? at ha
  unfold isAgg underlying
  split at ha <;> simp_all

theorem VR_take {cs : List AV} {us : Array Value} {off n : Nat} (h : VRs E cs us.toList) (h1 : ∀ u ∈ us.toList, u.oneCell' = true) {b : Bool} {v : AV} (hv : ofCells b n (cs.drop off) = some v) :
    (b = true → VR E v (.agg (us.extract off (off + n)))) ∧ (b = false → ∃ u, us[off]? = some u ∧ VR E v u) := by
  obtain ⟨hl, hg⟩ := VRs_get h
  cases b with
  | true =>
    refine ⟨fun _ => ?_, fun h => by cases h⟩
    simp only [ofCells] at hv
    split at hv
    · rename_i hle
      cases hv
      simp only [VR]
      have hlen : us.size = cs.length := by simpa using hl
      simp at hle
      refine ⟨_, rfl, fun u hu => h1 u ?_, VRs_of (by simp; omega) fun j c u hc hu => ?_⟩
      · rw [Array.toList_extract] at hu
        exact List.mem_of_mem_drop (List.mem_of_mem_take hu)
      · have hj : j < n := by have := (List.getElem?_eq_some_iff.1 hc).1; simp at this; omega
        rw [List.getElem?_take, if_pos hj, List.getElem?_drop] at hc
        obtain ⟨u', h2, h3⟩ := hg hc
        have : u = u' := by
          have h4 : us.toList[off + j]? = some u := by
            simp only [Array.toList_extract, List.extract_eq_take_drop, List.getElem?_take, List.getElem?_drop] at hu
            split at hu
            · exact hu
            · cases hu
          rw [h4] at h2; simpa using h2
        subst this
        exact h3
    · cases hv
  | false =>
    refine ⟨fun h => by (cases h), fun _ => ?_⟩
    simp only [ofCells] at hv
    have h0 : cs[off]? = some v := by rw [← hv, List.head?_drop]
    obtain ⟨u, h2, h3⟩ := hg h0
    exact ⟨u, by simpa using h2, h3⟩

theorem q_fld {s : TypeId} {x : Operand} {x' : Opd} {i n : Nat} {fs : Array Field} {f : Field} {b : Bool} {cs : List AV} {v : AV} (hf : FR E fr a.tmps) (ho : o.op = .field s x i) (hs : P.underlying s = some (.struct fs)) (hi : fs[i]? = some f)
    (hb : Program.agg? P f.type = some b) (hn : Program.size? P f.type = some n) (hx : resOpd x = some x') (hg : get fr x' = .agg cs) (h : ofCells b n (cs.drop f.offset) = some v) : Quiet P a o E v := by
  have hv := opd_sound hf hx
  rw [hg] at hv
  simp only [VR] at hv
  obtain ⟨us, e, h1, h2⟩ := hv
  obtain ⟨t1, t2⟩ := VR_take h2 h1 h
  cases b with
  | true => exact ⟨_, by simp [execOp, ho, Instr.field, run_under hs, hi, e, asAgg, part, run_agg hb, run_size hn], t1 rfl⟩
  | false =>
    obtain ⟨u, h3, h4⟩ := t2 rfl
    exact ⟨u, by simp [execOp, ho, Instr.field, run_under hs, hi, e, asAgg, part, run_agg hb, h3], h4⟩

theorem q_iaddr {t e : TypeId} {x i : Operand} {x' i' : Opd} {n : Nat} {v : AV} (hS : SR E) (hf : FR E fr a.tmps) (ho : o.op = .indexAddr t x i) (ht : P.underlying t = some (.slice e)) (hn : Program.size? P e = some n)
    (hx : resOpd x = some x') (hi : resOpd i = some i')
    (h : (match get fr x', get fr i' with
      | .vs _ z xs, .int _ j => if 0 ≤ j ∧ z = n then (match xs[j.toNat]? with | some e => some (AV.pv e.cells, E.h) | none => none) else none
      | .sl k m off len, .int _ j =>
        match E.h.fams[k]? with
        | some f => if 0 ≤ j ∧ j < len ∧ f.sz = n ∧ f.xs.length = m then some (.ep k m (off + j.toNat) 0, E.h) else none
        | none => none
      | _, _ => none) = some (v, E.h)) : Quiet P a o E v := by
  have hv := opd_sound hf hx
  have hw := opd_sound hf hi
  split at h
  · rename_i full z xs q j hg hj
    rw [hg] at hv; rw [hj] at hw
    simp only [VR, PV] at hv hw
    split at h
    · rename_i hc
      split at h
      · rename_i el hel
        obtain ⟨ad, len, cap, e1, e2, e3, e4, e5, e6, e7⟩ := hv
        have hlt := (List.getElem?_eq_some_iff.1 hel).1
        obtain ⟨b, q', rfl, _, hels⟩ := e7 (by intro hn; subst hn; simp at hlt)
        have hp := PEls_get hels hel
        simp at h; subst h
        have hjl : j < (len : Int) := by omega
        refine ⟨.pointer (some ⟨b, q' + j.toNat * n, none⟩), ?_, ?_⟩
        · simp [execOp, ho, Instr.indexAt, hw, asIntOf, run_under ht, e1, hc.1, hjl, run_size hn, add_addr]
        · simp only [VR, PV]
          rw [hc.2] at hp
          exact ⟨b, _, rfl, hp.2⟩
      · cases h
    · cases h
  · rename_i k m off len q j hg hj
    rw [hg] at hv; rw [hj] at hw
    simp only [VR] at hv hw
    split at h
    · rename_i f hfk
      split at h
      · rename_i hc
        obtain ⟨hj0, hjl, hz, hm⟩ := hc
        obtain ⟨ad, cap, f', e1, e2, e3, e4⟩ := hv
        have : f' = f := by rw [hfk] at e2; simpa using e2.symm
        subst this
        obtain ⟨l1, l2, l3, l4, l5⟩ := e4 hm
        have hF := hS.fams k f' hfk
        have hroom := hF.room
        have ead := l5 (by omega)
        subst ead
        simp at h; subst h
        refine ⟨.pointer (some ⟨(E.im k).b, (E.im k).o + (off - (E.im k).lo) * f'.sz + j.toNat * n, none⟩), ?_, ?_⟩
        · simp [execOp, ho, Instr.indexAt, hw, asIntOf, run_under ht, e1, hj0, hjl, run_size hn, add_addr]
        · simp only [VR]
          refine ⟨_, f', rfl, hfk, by omega, fun _ => ⟨by omega, ?_⟩⟩
          rw [← hz, Nat.add_zero, show off + j.toNat - (E.im k).lo = (off - (E.im k).lo) + j.toNat from by omega, Nat.add_mul, ← Nat.add_assoc]
      · cases h
    · cases h
  · cases h

theorem q_idx {t : TypeId} {x i : Operand} {x' i' : Opd} {s : ByteArray} {q : IntKind} {j : Int} {b : UInt8} (hf : FR E fr a.tmps) (ho : o.op = .index t x i) (ht : P.underlying t = some .string) (hx : resOpd x = some x') (hi : resOpd i = some i')
    (hg : get fr x' = .str s) (hj : get fr i' = .int q j) (h0 : 0 ≤ j) (hb : s[j.toNat]? = some b) : Quiet P a o E (.int .u8 b.toNat) := by
  have hv := opd_sound hf hx
  have hw := opd_sound hf hi
  rw [hg] at hv; rw [hj] at hw
  simp only [VR] at hv hw
  exact ⟨_, by simp [execOp, ho, Instr.index, hw, hv, asIntOf, run_under ht, h0, hb], VR_int _ _⟩

theorem q_ext {x : Operand} {x' : Opd} {i : Nat} {vs : List AV} {v : AV} (hf : FR E fr a.tmps) (ho : o.op = .extract x i) (hx : resOpd x = some x') (hg : get fr x' = .tup vs) (h : vs[i]? = some v) : Quiet P a o E v := by
  have hv := opd_sound hf hx
  rw [hg] at hv
  simp only [VR] at hv
  obtain ⟨us, e, h2⟩ := hv
  obtain ⟨u, h3, h4⟩ := (VRs_get h2).2 h
  have h3' : us[i]? = some u := by simpa using h3
  exact ⟨u, by simp [execOp, ho, Instr.extract, e, h3'], h4⟩

end
end Go.Abs
