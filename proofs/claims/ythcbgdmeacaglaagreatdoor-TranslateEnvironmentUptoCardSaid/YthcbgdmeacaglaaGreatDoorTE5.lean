/- A part of the proof. -/
import Derived.Test.YthcbgdmeacaglaaGreatDoorTE4
import Derived.Lib.AppendStr
set_option linter.all false
namespace Go.Abs
open Go.RowKit (Below)
section
variable {E : Env} {P : Program} {fr : Fr} {a : Act} {o : Oper}
theorem exec_append {args : Array Operand} {ats : Array TypeId} {s x : Operand} {t u : TypeId} (ho : o.op = .call { callee := .builtin .append, args := args, argTypes := ats }) (h1 : args.toList = [s, x]) (h2 : ats.toList = [t, u]) {v : Value} {w w' : World}
    (h : (Builtin.append_ #[t, u] o.type #[a.eval s, a.eval x]).run P w = .ok v w') : (execOp a.eval o).run P w = .ok (.value v) w' := by
  rw [arr_two h1, arr_two h2] at ho
  simp only [execOp, ho, resolve, invoke, builtin, Sem.run_bind, Sem.run_pure, Result.andThen_ok, List.map_toArray, List.map_cons, List.map_nil, h]
theorem grown_row {us : List Value} {xs : List AV} {sz n cap : Nat} (hr : RowL E us xs sz) (hl : us.length = n * sz) (z : Array Value) (hz : z.size = sz) (hcap : n ≤ cap) :
    RowL E (us.toArray ++ Builtin.zeroCells z (cap - n)).toList xs sz ∧ cap * sz ≤ (us.toArray ++ Builtin.zeroCells z (cap - n)).size := by
  refine ⟨?_, ?_⟩
  · rw [Array.toList_append]
    exact RowL_more hr
  · rw [Array.size_append, size_zeroCells, hz, List.size_toArray, hl, ← Nat.add_mul]
    exact Nat.mul_le_mul_right _ (by omega)
theorem run_append_new {t ty e : TypeId} {i : TypeInfo} {z : Value} (ht : P.underlying t = some (.slice e)) (hi : P.info? e = some i) (hz : i.zero = some z) (hzs : z.cells.size = i.size)
    {base : Option Addr} {n cap : Nat} {olds : List Value} {xs : List AV} (hb : base = none → cap = 0) (hnc : n ≤ cap) (hold : olds.length = n * i.size) (hxs : xs.length = n)
    (holds : ∀ b, base = some b → ∀ (j : Nat) (u : Value), olds[j]? = some u → E.w.cell? (b.add j) = some u) (hro : RowL E olds xs i.size)
    {ad : Addr} {ys : List AV} {c : Nat} {news : List Value} (hl : news.length = ys.length * i.size) (hnews : ∀ (j : Nat) (u : Value), news[j]? = some u → E.w.cell? (ad.add j) = some u) (hrn : RowL E news ys i.size)
    (hg : cap < n + ys.length) (hm : n + ys.length ≤ maxLen) (hbytes : (n + ys.length) * i.bytes ≤ roomA) :
    ∃ us newCap, (Builtin.append_ #[t, t] ty #[.slice base n cap, .slice (some ad) ys.length c]).run P E.w = .ok (.slice (some ⟨E.w.heap.size, 0, none⟩) (n + ys.length) newCap) (E.w.drew.alloc (.cells us e)) ∧
      n + ys.length ≤ newCap ∧ newCap ≤ maxLen ∧ newCap * i.size ≤ us.size ∧ RowL E us.toList (xs ++ ys) i.size := by
  have hfit := growslice_fits hg hbytes
  have h63 : ((n + ys.length : Nat) : Int) ≤ 9223372036854775807 := by unfold maxLen at hm; omega
  refine ⟨(olds ++ news).toArray ++ Builtin.zeroCells z.cells (grownCap E.w (n + ys.length) cap e - (n + ys.length)), grownCap E.w (n + ys.length) cap e, ?_, grownCap_ge _ _ _ _, grownCap_le_maxLen _ _ _ _ hm, ?_, ?_⟩
  rotate_left 1
  · exact (grown_row (us := olds ++ news) (xs := xs ++ ys) (n := n + ys.length) (RowL_append hro (by rw [hold, hxs]) hrn) (by rw [List.length_append, hold, hl, Nat.add_mul]) z.cells hzs (grownCap_ge E.w _ cap e)).2
  · exact (grown_row (us := olds ++ news) (xs := xs ++ ys) (n := n + ys.length) (RowL_append hro (by rw [hold, hxs]) hrn) (by rw [List.length_append, hold, hl, Nat.add_mul]) z.cells hzs (grownCap_ge E.w _ cap e)).1
  · cases base with
    | none =>
      have hc := hb rfl
      subst hc
      have hn0 : n = 0 := by omega
      subst hn0
      have ho0 : olds = [] := List.eq_nil_of_length_eq_zero (by simpa using hold)
      subst ho0
      have := run_append_nil (P := P) E.w t ty e i z ht hi hz ad ys.length c news hl hnews (by omega) (by simpa using h63) (by simp at hbytes; unfold roomA at hbytes; omega)
      simpa using this
    | some b =>
      have := run_append_grow (P := P) E.w t ty e i z ht hi hz b n cap olds hold (holds b rfl) ad ys.length c news hl hnews hg h63 hfit
      rw [this]
      simp
structure Src (P : Program) (E : Env) (t u e : TypeId) (i : TypeInfo) (x : Value) (ys : List AV) (news : List Value) : Prop where
  len : news.length = ys.length * i.size
  one : ∀ v ∈ news, v.oneCell' = true
  row : RowL E news ys i.size
  zero : ys = [] → ∀ (ty : TypeId) (base : Option Addr) (n c : Nat), n ≤ c → (Builtin.append_ #[t, u] ty #[.slice base n c, x]).run P E.w = .ok (.slice base n c) E.w
  room : ys ≠ [] → ∀ (ty : TypeId) (g q sLen sCap : Nat) (cur : Array Value) (t' : TypeId), E.w.heap[g]? = some (.cells cur t' (0, 0)) → sLen + ys.length ≤ sCap → q + sLen * i.size + news.length ≤ cur.size →
    (Builtin.append_ #[t, u] ty #[.slice (some ⟨g, q, none⟩) sLen sCap, x]).run P E.w =
      .ok (.slice (some ⟨g, q, none⟩) (sLen + ys.length) sCap) (E.w.setRow g (cur.toList.take (q + sLen * i.size) ++ news ++ cur.toList.drop (q + sLen * i.size + news.length)).toArray)
  grow : ys ≠ [] → ∀ (ty : TypeId) (z : Value) (base : Option Addr) (n cap : Nat) (olds : List Value) (xs : List AV), i.zero = some z → z.cells.size = i.size → (base = none → cap = 0) → n ≤ cap → olds.length = n * i.size → xs.length = n →
    (∀ b, base = some b → ∀ (j : Nat) (u : Value), olds[j]? = some u → E.w.cell? (b.add j) = some u) → RowL E olds xs i.size → cap < n + ys.length → n + ys.length ≤ maxLen → (n + ys.length) * i.bytes ≤ roomA →
    ∃ us newCap, (Builtin.append_ #[t, u] ty #[.slice base n cap, x]).run P E.w = .ok (.slice (some ⟨E.w.heap.size, 0, none⟩) (n + ys.length) newCap) (E.w.drew.alloc (.cells us e)) ∧
      n + ys.length ≤ newCap ∧ newCap ≤ maxLen ∧ newCap * i.size ≤ us.size ∧ RowL E us.toList (xs ++ ys) i.size
theorem src_slice (hS : SR E) (hf : FR E fr a.tmps) {t e : TypeId} {i : TypeInfo} (ht : P.underlying t = some (.slice e)) (hi : P.info? e = some i) (hpos : 0 < i.size) {x : Operand} {x' : Opd} {ys : List AV} (hx : resOpd x = some x') (hys : elems E.h i.size (get fr x') = some ys) :
    ∃ news, Src P E t t e i (a.eval x) ys news := by
  obtain ⟨ad, cx, f1, f2, f3⟩ := elems_sound hS hpos (opd_sound hf hx) hys
  by_cases h0 : ys = []
  · subst h0
    refine ⟨[], by simp, by simp, fun j x h => by simp at h, fun _ ty base n c hnc => ?_, fun h => absurd rfl h, fun h => absurd rfl h⟩
    rw [f1]
    exact run_append_zero t _ e i ht hi base ad n c cx hnc E.w
  · obtain ⟨b, q, rfl, f4⟩ := f3 h0
    obtain ⟨news, n1, n2, n3, n4⟩ := MemRow_list hpos f4
    refine ⟨news, n1, n3, n4, fun h => absurd h h0, fun _ ty g q' sLen sCap cur t' hg hroom hfit => ?_, fun _ ty z base n cap olds xs hz hzs hb hnc hold hxs holds hro hgr hm hby => ?_⟩
    · rw [f1]
      exact run_append_in (P := P) t ty e i ht hi g q' sLen sCap cur t' E.w hg ⟨b, q, none⟩ ys.length cx news n1 n2 n3 hroom hfit
    · rw [f1]
      exact run_append_new (P := P) ht hi hz hzs hb hnc hold hxs holds hro n1 n2 n4 hgr hm hby
theorem strCells_row (str : ByteArray) : RowL E (Lib.strCells str) (bytesA str) 1 := by
  intro j x hj
  unfold bytesA at hj
  rw [List.getElem?_map, Option.map_eq_some_iff] at hj
  obtain ⟨b, hb, rfl⟩ := hj
  refine ⟨rfl, fun c y hc => ?_⟩
  cases c with
  | zero =>
    simp only [AV.cells, List.getElem?_cons_zero, Option.some.injEq] at hc
    subst hc
    refine ⟨.int .u8 b.toNat, ?_, rfl, by simp [PV]⟩
    simp only [Lib.strCells, Nat.mul_one, Nat.add_zero, List.getElem?_map, hb, Option.map_some]
  | succ c => simp [AV.cells] at hc
theorem bytesA_len (str : ByteArray) : (bytesA str).length = str.size := by
  unfold bytesA
  rw [List.length_map, Array.length_toList]
  rfl
theorem src_str {t u e : TypeId} {i : TypeInfo} (ht : P.underlying t = some (.slice e)) (hu : P.underlying u = some .string) (hi : P.info? e = some i) (hs1 : i.size = 1) (str : ByteArray) :
    Src P E t u e i (.string str) (bytesA str) (Lib.strCells str) := by
  have hl : (Lib.strCells str).length = str.size := Lib.strCells_length str
  have hl' := bytesA_len str
  refine ⟨by rw [hs1, hl, hl', Nat.mul_one], Lib.strCells_oneCell str, by rw [hs1]; exact strCells_row str, fun h0 ty base n c hnc => ?_, fun h0 ty g q sLen sCap cur t' hg hroom hfit => ?_, fun h0 ty z base n cap olds xs hz hzs hb hnc hold hxs holds hro hgr hm hby => ?_⟩
  · have hz : str.size = 0 := by rw [← hl', h0]; rfl
    have he : str = .empty := by
      obtain ⟨⟨l⟩⟩ := str
      cases l with
      | nil => rfl
      | cons x l => simp [ByteArray.size] at hz
    subst he
    cases base <;> simp [Builtin.append_, run_underlying ht, run_underlying hu, sizeOf, typeInfo, hi, Builtin.lenOf, hnc, Builtin.firstCells, storeCells]
  · have hf := Lib.run_firstCells_string (P := P) E.w i.size str
    have hst := run_storeCells_at P g (q + sLen * i.size) t' (Lib.strCells str) 0 cur E.w hg (by simpa using hfit) (Lib.strCells_oneCell str)
    simp only [Nat.add_zero] at hst
    rw [hl'] at hroom ⊢
    rw [hs1] at hst hf ⊢
    simp [Builtin.append_, run_underlying ht, run_underlying hu, sizeOf, typeInfo, hi, hs1, Builtin.lenOf, hroom, hf, add_addr] at hst ⊢
    rw [hst]
    rfl
  · rw [hl'] at hgr hm hby ⊢
    have hfit := growslice_fits hgr hby
    have h63 : ((n + str.size : Nat) : Int) ≤ 9223372036854775807 := by unfold maxLen at hm; omega
    have hrn : RowL E (Lib.strCells str) (bytesA str) i.size := by rw [hs1]; exact strCells_row str
    have hL : (olds ++ Lib.strCells str).length = (n + str.size) * i.size := by rw [List.length_append, hold, hl, Nat.add_mul, hs1]; omega
    have hG := grown_row (us := olds ++ Lib.strCells str) (xs := xs ++ bytesA str) (n := n + str.size) (RowL_append hro (by rw [hold, hxs]) hrn) hL z.cells hzs (grownCap_ge E.w (n + str.size) cap e)
    refine ⟨(olds ++ Lib.strCells str).toArray ++ Builtin.zeroCells z.cells (grownCap E.w (n + str.size) cap e - (n + str.size)), grownCap E.w (n + str.size) cap e, ?_, grownCap_ge _ _ _ _, grownCap_le_maxLen _ _ _ _ hm, hG.2, hG.1⟩
    cases base with
    | none =>
      have hc := hb rfl
      subst hc
      have hn0 : n = 0 := by omega
      subst hn0
      have ho0 : olds = [] := List.eq_nil_of_length_eq_zero (by simpa using hold)
      subst ho0
      have := run_append_nil_string (P := P) E.w t u ty e i z ht hu hi hz str (by omega) (by simpa using h63) (by simp at hby; unfold roomA at hby; omega)
      rw [this]
      have hm : (List.map (fun b : UInt8 => Value.int IntKind.u8 (b.toNat : Int)) str.data.toList).toArray = Array.map (fun b => Value.int IntKind.u8 (b.toNat : Int)) str.data := by
        apply Array.ext'
        simp
      simp [Lib.strCells, hm]
    | some b =>
      have := Lib.run_append_grow_string (P := P) E.w t u ty e i z ht hu hi hz b n cap olds hold (holds b rfl) str hgr h63 hfit
      rw [this]
      simp
theorem drew_ext (hS : SR E) : Ext E { E with w := E.w.drew } := grow_ext hS (drew_below _)
theorem drew_SR (hS : SR E) : SR { E with w := E.w.drew } := grow_SR hS (drew_below _)
theorem d_app_full {c : Ctx} {args : Array Operand} {ats : Array TypeId} {s x : Operand} {s' : Opd} {t u e : TypeId} {i : TypeInfo} {z : AV} {z0 : Nat} {xs ys : List AV} (hS : SR E) (hf : FR E fr a.tmps)
    (ho : o.op = .call { callee := .builtin .append, args := args, argTypes := ats }) (h1 : args.toList = [s, x]) (h2 : ats.toList = [t, u]) (ht : P.underlying t = some (.slice e)) (hi : P.info? e = some i) (hz : Program.zeroA P e = some z) (hpos : 0 < i.size)
    (hs : resOpd s = some s') (hg : get fr s' = .vs true z0 xs) {news : List Value} (hsrc : Src P E t u e i (a.eval x) ys news) (hne : ys.length ≠ 0) (hz0 : z0 = i.size ∨ xs.length = 0)
    (hb : (xs.length + ys.length) * i.bytes ≤ roomA) (hm : xs.length + ys.length ≤ maxLen) :
    Does P a o E (.sl E.h.fams.length (xs.length + ys.length) 0 (xs.length + ys.length)) { E.h with fams := E.h.fams ++ [⟨xs ++ ys, i.size, c.mutApp⟩] } := by
  obtain ⟨i', zv, q1, q2, q3, q4, q5⟩ := zeroA_spec hz
  rw [hi] at q1; cases q1
  have e1 := opd_sound hf hs
  rw [hg] at e1
  simp only [VR, PV] at e1
  obtain ⟨base, len, cap, e2, rfl, e4, e5, e6, e7, e8⟩ := e1
  have ecap : cap = xs.length := e6 trivial
  have n1 := hsrc.len
  have n3 := hsrc.one
  have n4 := hsrc.row
  have hold : ∃ olds : List Value, olds.length = xs.length * i.size ∧ (∀ b, base = some b → ∀ (j : Nat) (u : Value), olds[j]? = some u → E.w.cell? (b.add j) = some u) ∧ RowL E olds xs i.size := by
    by_cases hxe : xs = []
    · subst hxe
      exact ⟨[], by simp, fun b _ j u h => by simp at h, fun j x h => by simp at h⟩
    · obtain ⟨b', q', rfl, _, hels⟩ := e8 hxe
      have : z0 = i.size := by
        rcases hz0 with h | h
        · exact h
        · exact absurd (List.eq_nil_of_length_eq_zero h) hxe
      subst this
      obtain ⟨olds, o1, o2, _, o4⟩ := MemRow_list (E := E) (b := b') (q := q') hpos (ys := xs) (fun j x hj => by
        obtain ⟨p1, p2⟩ := PEls_get hels hj
        refine ⟨p1, fun c y hc => ?_⟩
        obtain ⟨u, _, u2, u3, u4⟩ := PCells_get p2 hc
        exact ⟨u, u2, u3, u4⟩)
      exact ⟨olds, o1, fun b'' hb'' => by cases hb''; exact o2, o4⟩
  obtain ⟨olds, o1, o2, o3⟩ := hold
  obtain ⟨us, newCap, r1, r2, r3, r4, r5⟩ := hsrc.grow (by intro h; subst h; simp at hne) o.type _ base _ cap olds xs q2 q3 e7.1 e4 o1 rfl o2 o3 (by omega) hm hb
  have hE1 := drew_SR hS
  have hx1 := drew_ext hS
  refine ⟨_, .slice (some ⟨E.w.heap.size, 0, none⟩) (xs.length + ys.length) newCap, ({ E with w := E.w.drew } : Env).newFam us e newCap ⟨xs ++ ys, i.size, c.mutApp⟩, ?_, .inl rfl, hx1.trans (newFam_ext hE1 _ _ _ _),
    newFam_SR hE1 hpos (by simpa using r2) r3 r4 (fun j x hj => RowL_FElem (RowL_ext hx1 r5) j x hj), rfl, ?_⟩
  · refine exec_append ho h1 h2 ?_
    rw [e2, r1]
    rfl
  · simp only [VR, Env.newFam, upd_same]
    exact ⟨_, _, ⟨xs ++ ys, i.size, c.mutApp⟩, rfl, by simp, ⟨by simp, fun _ => ⟨_, _, rfl⟩⟩, fun _ => ⟨Nat.zero_le _, by simp, by simp, (fun h => nomatch h), fun _ => by simp⟩⟩
theorem set_same {α : Type} {l : List α} {k : Nat} {x : α} (h : l[k]? = some x) : l.set k x = l := by
  apply List.ext_getElem?
  intro j
  rw [List.getElem?_set]
  split
  · rename_i hj; subst hj
    have := (List.getElem?_eq_some_iff.1 h).1
    rw [if_pos this]; exact h.symm
  · rfl
theorem d_app_row {args : Array Operand} {ats : Array TypeId} {s x : Operand} {s' : Opd} {t u e : TypeId} {i : TypeInfo} {z : AV} {k n off len : Nat} {f : Fam} {ys : List AV} (hS : SR E) (hf : FR E fr a.tmps)
    (ho : o.op = .call { callee := .builtin .append, args := args, argTypes := ats }) (h1 : args.toList = [s, x]) (h2 : ats.toList = [t, u]) (ht : P.underlying t = some (.slice e)) (hi : P.info? e = some i) (hz : Program.zeroA P e = some z) (hpos : 0 < i.size)
    (hs : resOpd s = some s') (hg : get fr s' = .sl k n off len) {news : List Value} (hsrc : Src P E t u e i (a.eval x) ys news) (hfk : E.h.fams[k]? = some f) (hn : f.xs.length = n) (hsz : f.sz = i.size) (hoff : off + len = n)
    (hb : (n + ys.length) * i.bytes ≤ roomA) (hm : n + ys.length ≤ maxLen) :
    Does P a o E (.sl k (n + ys.length) off (len + ys.length)) { E.h with fams := E.h.fams.set k { f with xs := f.xs ++ ys } } := by
  obtain ⟨i', zv, q1, q2, q3, q4, q5⟩ := zeroA_spec hz
  rw [hi] at q1; cases q1
  have e1 := opd_sound hf hs
  rw [hg] at e1
  have e1' := e1
  simp only [VR] at e1
  obtain ⟨base, cap, f', e2, hf', e4, e5⟩ := e1
  have : f' = f := by rw [hfk] at hf'; simpa using hf'.symm
  subst this
  obtain ⟨l1, l2, l3, l4, l5⟩ := e5 hn
  have hF := hS.fams k f' hfk
  have hroom := hF.room
  have hk' := (List.getElem?_eq_some_iff.1 hfk).1
  have n1 := hsrc.len
  have n3 := hsrc.one
  have n4 := hsrc.row
  have hlencap : len ≤ cap := by omega
  by_cases h0 : ys = []
  · subst h0
    have hset : E.h.fams.set k { f' with xs := f'.xs ++ [] } = E.h.fams := set_same (by rw [List.append_nil]; exact hfk)
    refine ⟨_, .slice base len cap, E, exec_append ho h1 h2 ?_, .inl rfl, Ext.refl E, hS, by rw [hset], by rw [e2] at e1'; simpa using e1'⟩
    rw [e2]
    exact hsrc.zero rfl _ base len cap hlencap
  have hylen : 0 < ys.length := by
    rcases Nat.eq_zero_or_pos ys.length with h | h
    · exact absurd (List.eq_nil_of_length_eq_zero h) h0
    · exact h
  by_cases hin : len + ys.length ≤ cap
  · -- there is room
    have hbase := l5 (by omega)
    obtain ⟨cur, t', c1, c2, c3⟩ := hF.cells
    have hnl : off - (E.im k).lo + len = n - (E.im k).lo := by omega
    have epos : (E.im k).o + (off - (E.im k).lo) * f'.sz + len * i.size = (E.im k).o + (n - (E.im k).lo) * f'.sz := by
      rw [← hnl, Nat.add_mul, hsz]; omega
    have hfit : (E.im k).o + (n - (E.im k).lo) * f'.sz + news.length ≤ cur.size := by
      have h3 : (n - (E.im k).lo + ys.length) * f'.sz ≤ (E.im k).cap * f'.sz := Nat.mul_le_mul_right _ (by omega)
      rw [Nat.add_mul] at h3
      rw [n1, ← hsz]; omega
    have hrun := hsrc.room h0 o.type (E.im k).b ((E.im k).o + (off - (E.im k).lo) * f'.sz) len cap cur t' c1 hin (by rw [epos]; exact hfit)
    rw [epos] at hrun
    obtain ⟨us, hus⟩ : ∃ us : Array Value, us = (cur.toList.take ((E.im k).o + (n - (E.im k).lo) * f'.sz) ++ news ++ cur.toList.drop ((E.im k).o + (n - (E.im k).lo) * f'.sz + news.length)).toArray := ⟨_, rfl⟩
    rw [← hus] at hrun
    have hget : ∀ j : Nat, us[j]? = if j < (E.im k).o + (n - (E.im k).lo) * f'.sz then cur[j]? else if j < (E.im k).o + (n - (E.im k).lo) * f'.sz + news.length then news[j - ((E.im k).o + (n - (E.im k).lo) * f'.sz)]? else cur[j]? := by
      intro j
      have := splice_get (l := cur.toList) (off := (E.im k).o + (n - (E.im k).lo) * f'.sz) (vs := news) (by simpa using hfit) j
      simp only [Array.getElem?_toList] at this
      rw [hus, List.getElem?_toArray, this]
    have hkeep : f'.wr = false → ∀ j, j < (E.im k).o + (f'.xs.length - (E.im k).lo) * f'.sz → us[j]? = cur[j]? := by
      intro _ j hj
      rw [hn] at hj
      rw [hget, if_pos hj]
    refine ⟨_, .slice base (len + ys.length) cap, E.setFam k us { f' with xs := f'.xs ++ ys }, exec_append ho h1 h2 ?_, .inl rfl, setFam_ext hS hfk c1 rfl rfl (by simp) hkeep,
      setFam_SR hS hfk c1 rfl rfl (by simp) hkeep (by simp; omega) (by rw [hus]; simp; omega) ?_, rfl, ?_⟩
    · rw [e2, hbase, hrun]
      rfl
    · intro j x' hj hx'
      have hx'' : (f'.xs ++ ys)[j]? = some x' := hx'
      by_cases hjn : j < n
      · rw [List.getElem?_append_left (by omega)] at hx''
        obtain ⟨g1, g2⟩ := c3 j x' hj hx''
        refine ⟨g1, fun c y hc => ?_⟩
        obtain ⟨v, v1, v2⟩ := g2 c y hc
        have hcs : c < f'.sz := by have := (List.getElem?_eq_some_iff.1 hc).1; omega
        have := mul_room (show j - (E.im k).lo < n - (E.im k).lo by omega) hcs
        exact ⟨v, by rw [hget, if_pos (by omega)]; exact v1, v2⟩
      · rw [List.getElem?_append_right (by omega), hn] at hx''
        obtain ⟨g1, g2⟩ := n4 _ x' hx''
        refine ⟨by omega, fun c y hc => ?_⟩
        obtain ⟨v, v1, v2⟩ := g2 c y hc
        have hcs : c < f'.sz := by have := (List.getElem?_eq_some_iff.1 hc).1; omega
        have hjy : j - n < ys.length := by have := (List.getElem?_eq_some_iff.1 hx'').1; omega
        have h5 := mul_room hjy hcs
        have ej : (j - (E.im k).lo) * f'.sz = (n - (E.im k).lo) * f'.sz + (j - n) * f'.sz := by
          rw [← Nat.add_mul]; congr 1; omega
        refine ⟨v, ?_, v2⟩
        rw [hget, ej, if_neg (by omega), if_pos (by rw [n1, ← hsz]; omega)]
        rw [show (E.im k).o + ((n - (E.im k).lo) * f'.sz + (j - n) * f'.sz) + c - ((E.im k).o + (n - (E.im k).lo) * f'.sz) = (j - n) * i.size + c from by rw [← hsz]; omega]
        exact v1
    · simp only [VR, Env.setFam]
      refine ⟨base, cap, { f' with xs := f'.xs ++ ys }, rfl, by simp [hk'], ⟨by simp [hn], fun _ => ?_⟩, fun _ => ⟨l1, by omega, l3, l4, l5⟩⟩
      by_cases hc0 : cap = 0
      · exfalso; omega
      · exact ⟨_, _, l5 hc0⟩
  · -- there is none
    have hold : ∃ olds : List Value, olds.length = len * i.size ∧ (∀ b, base = some b → ∀ (j : Nat) (u : Value), olds[j]? = some u → E.w.cell? (b.add j) = some u) ∧ RowL E olds ((f'.xs.drop off).take len) i.size := by
      have hll : ((f'.xs.drop off).take len).length = len := by simp; omega
      by_cases hl0 : len = 0
      · subst hl0
        exact ⟨[], by simp, fun b _ j u h => by simp at h, fun j x h => by simp at h⟩
      · obtain ⟨ad', cx', g1, g2, g3⟩ := elems_sound hS (sz := i.size) hpos e1' (ys := (f'.xs.drop off).take len) (by simp only [elems, hfk]; rw [if_pos ⟨hn, hsz, by omega⟩])
        obtain ⟨b', q', rfl, g4⟩ := g3 (by intro h; rw [h] at hll; simp at hll; omega)
        obtain ⟨olds, o1, o2, _, o4⟩ := MemRow_list hpos g4
        rw [e2] at g1
        have : base = some ⟨b', q', none⟩ := by simp at g1; exact g1.1
        subst this
        exact ⟨olds, by rw [o1, hll], fun b'' hb'' => by cases hb''; exact o2, o4⟩
    obtain ⟨olds, o1, o2, o3⟩ := hold
    have hll : ((f'.xs.drop off).take len).length = len := by simp; omega
    obtain ⟨us, newCap, r1, r2, r3, r4, r5⟩ := hsrc.grow h0 o.type _ base _ cap olds _ q2 q3 (fun e => absurd e l4) hlencap o1 hll o2 o3 (by omega) (by omega) (by
      refine Nat.le_trans (Nat.mul_le_mul_right _ ?_) hb
      omega)
    have hE1 := drew_SR hS
    have hx1 := drew_ext hS
    refine ⟨_, .slice (some ⟨E.w.heap.size, 0, none⟩) (len + ys.length) newCap, ({ E with w := E.w.drew } : Env).moveFam k us e off newCap { f' with xs := f'.xs ++ ys }, exec_append ho h1 h2 ?_, .inl rfl,
      hx1.trans (moveFam_ext hE1 hfk _ _ _ _ rfl (by simp; omega)),
      moveFam_SR hE1 hfk rfl (by simp; omega) (by simp; omega) (by simp; omega) r3 (by rw [hsz]; exact r4) ?_, rfl, ?_⟩
    · rw [e2, r1]
      rfl
    · intro j x' hj hx'
      have hx'' : (f'.xs ++ ys)[j]? = some x' := hx'
      rw [hsz]
      refine RowL_FElem (RowL_ext hx1 r5) (j - off) x' ?_
      by_cases hjn : j < n
      · rw [List.getElem?_append_left (by omega)] at hx''
        rw [List.getElem?_append_left (by omega), List.getElem?_take, if_pos (by omega), List.getElem?_drop, show off + (j - off) = j from by omega]
        exact hx''
      · rw [List.getElem?_append_right (by omega)] at hx''
        rw [List.getElem?_append_right (by omega), hll, show j - off - len = j - f'.xs.length from by omega]
        exact hx''
    · simp only [VR, Env.moveFam, upd_same]
      refine ⟨_, _, { f' with xs := f'.xs ++ ys }, rfl, by simp [hk'], ⟨by simp [hn], fun _ => ⟨_, _, rfl⟩⟩, fun _ => ⟨Nat.le_refl _, by omega, by omega, (fun h => nomatch h), fun _ => by simp⟩⟩
theorem d_app_pre {args : Array Operand} {ats : Array TypeId} {s x : Operand} {s' : Opd} {t u e : TypeId} {i : TypeInfo} {z : AV} {k n off len : Nat} {f : Fam} {ys : List AV} (hS : SR E) (hf : FR E fr a.tmps)
    (ho : o.op = .call { callee := .builtin .append, args := args, argTypes := ats }) (h1 : args.toList = [s, x]) (h2 : ats.toList = [t, u]) (ht : P.underlying t = some (.slice e)) (hi : P.info? e = some i) (hz : Program.zeroA P e = some z) (hpos : 0 < i.size)
    (hs : resOpd s = some s') (hg : get fr s' = .sl k n off len) {news : List Value} (hsrc : Src P E t u e i (a.eval x) ys news) (hfk : E.h.fams[k]? = some f) (hn : f.xs.length = n) (hsz : f.sz = i.size) (hwr : f.wr = true) (hfits : off + len + ys.length ≤ n) :
    Does P a o E (.sl k n off (len + ys.length)) { E.h with fams := E.h.fams.set k { f with xs := f.xs.take (off + len) ++ ys ++ f.xs.drop (off + len + ys.length) } } := by
  obtain ⟨i', zv, q1, q2, q3, q4, q5⟩ := zeroA_spec hz
  rw [hi] at q1; cases q1
  have e1 := opd_sound hf hs
  rw [hg] at e1
  have e1' := e1
  simp only [VR] at e1
  obtain ⟨base, cap, f', e2, hf', e4, e5⟩ := e1
  have : f' = f := by rw [hfk] at hf'; simpa using hf'.symm
  subst this
  obtain ⟨l1, l2, l3, l4, l5⟩ := e5 hn
  have hF := hS.fams k f' hfk
  have hroom := hF.room
  have hk' := (List.getElem?_eq_some_iff.1 hfk).1
  have n1 := hsrc.len
  have n3 := hsrc.one
  have n4 := hsrc.row
  have hlencap : len ≤ cap := by omega
  by_cases h0 : ys = []
  · subst h0
    have hset : E.h.fams.set k { f' with xs := f'.xs.take (off + len) ++ [] ++ f'.xs.drop (off + len + 0) } = E.h.fams := set_same (by rw [List.append_nil, Nat.add_zero, List.take_append_drop]; exact hfk)
    refine ⟨_, .slice base len cap, E, exec_append ho h1 h2 ?_, .inl rfl, Ext.refl E, hS, by rw [List.length_nil, hset], by rw [e2] at e1'; simpa using e1'⟩
    rw [e2]
    exact hsrc.zero rfl _ base len cap hlencap
  have hylen : 0 < ys.length := by
    rcases Nat.eq_zero_or_pos ys.length with h | h
    · exact absurd (List.eq_nil_of_length_eq_zero h) h0
    · exact h
  have hin : len + ys.length ≤ cap := by omega
  have hbase := l5 (by omega)
  obtain ⟨cur, t', c1, c2, c3⟩ := hF.cells
  have hnl : off - (E.im k).lo + len = off + len - (E.im k).lo := by omega
  have epos : (E.im k).o + (off - (E.im k).lo) * f'.sz + len * i.size = (E.im k).o + (off + len - (E.im k).lo) * f'.sz := by
    rw [← hnl, Nat.add_mul, hsz]; omega
  have hfit : (E.im k).o + (off + len - (E.im k).lo) * f'.sz + news.length ≤ cur.size := by
    have h3 : (off + len - (E.im k).lo + ys.length) * f'.sz ≤ (E.im k).cap * f'.sz := Nat.mul_le_mul_right _ (by omega)
    rw [Nat.add_mul] at h3
    rw [n1, ← hsz]; omega
  have hrun := hsrc.room h0 o.type (E.im k).b ((E.im k).o + (off - (E.im k).lo) * f'.sz) len cap cur t' c1 hin (by rw [epos]; exact hfit)
  rw [epos] at hrun
  obtain ⟨us, hus⟩ : ∃ us : Array Value, us = (cur.toList.take ((E.im k).o + (off + len - (E.im k).lo) * f'.sz) ++ news ++ cur.toList.drop ((E.im k).o + (off + len - (E.im k).lo) * f'.sz + news.length)).toArray := ⟨_, rfl⟩
  rw [← hus] at hrun
  have hget : ∀ j : Nat, us[j]? = if j < (E.im k).o + (off + len - (E.im k).lo) * f'.sz then cur[j]? else if j < (E.im k).o + (off + len - (E.im k).lo) * f'.sz + news.length then news[j - ((E.im k).o + (off + len - (E.im k).lo) * f'.sz)]? else cur[j]? := by
    intro j
    have := splice_get (l := cur.toList) (off := (E.im k).o + (off + len - (E.im k).lo) * f'.sz) (vs := news) (by simpa using hfit) j
    simp only [Array.getElem?_toList] at this
    rw [hus, List.getElem?_toArray, this]
  have hkeep : f'.wr = false → ∀ j, j < (E.im k).o + (f'.xs.length - (E.im k).lo) * f'.sz → us[j]? = cur[j]? := fun h => by rw [hwr] at h; cases h
  obtain ⟨zs, hzs⟩ : ∃ zs, zs = f'.xs.take (off + len) ++ ys ++ f'.xs.drop (off + len + ys.length) := ⟨_, rfl⟩
  have hzl : zs.length = f'.xs.length := by rw [hzs]; simp; omega
  have hzget : ∀ j : Nat, zs[j]? = if j < off + len then f'.xs[j]? else if j < off + len + ys.length then ys[j - (off + len)]? else f'.xs[j]? := by
    intro j
    rw [hzs]
    exact splice_get (l := f'.xs) (off := off + len) (vs := ys) (by omega) j
  rw [← hzs]
  refine ⟨_, .slice base (len + ys.length) cap, E.setFam k us { f' with xs := zs }, exec_append ho h1 h2 ?_, .inl rfl, setFam_ext hS hfk c1 rfl rfl (by simp [hzl]) hkeep,
    setFam_SR hS hfk c1 rfl rfl (by simp [hzl]) hkeep (by simp [hzl]; omega) (by rw [hus]; simp; omega) ?_, rfl, ?_⟩
  · rw [e2, hbase, hrun]
    rfl
  · intro j x' hj hx'
    have hx'' : zs[j]? = some x' := hx'
    rw [hzget] at hx''
    by_cases hjn : j < off + len
    · rw [if_pos hjn] at hx''
      obtain ⟨g1, g2⟩ := c3 j x' hj hx''
      refine ⟨g1, fun c y hc => ?_⟩
      obtain ⟨v, v1, v2⟩ := g2 c y hc
      have hcs : c < f'.sz := by have := (List.getElem?_eq_some_iff.1 hc).1; omega
      have := mul_room (show j - (E.im k).lo < off + len - (E.im k).lo by omega) hcs
      exact ⟨v, by rw [hget, if_pos (by omega)]; exact v1, v2⟩
    · rw [if_neg hjn] at hx''
      by_cases hjy : j < off + len + ys.length
      · rw [if_pos hjy] at hx''
        obtain ⟨g1, g2⟩ := n4 _ x' hx''
        refine ⟨by omega, fun c y hc => ?_⟩
        obtain ⟨v, v1, v2⟩ := g2 c y hc
        have hcs : c < f'.sz := by have := (List.getElem?_eq_some_iff.1 hc).1; omega
        have hr := mul_room (show j - (off + len) < ys.length by omega) hcs
        have ep : (E.im k).o + (j - (E.im k).lo) * f'.sz + c = (E.im k).o + (off + len - (E.im k).lo) * f'.sz + ((j - (off + len)) * f'.sz + c) := by
          rw [show j - (E.im k).lo = (off + len - (E.im k).lo) + (j - (off + len)) from by omega, Nat.add_mul]; omega
        refine ⟨v, ?_, v2⟩
        rw [hget, if_neg (by omega), if_pos (by rw [n1, ← hsz]; omega), ep, show (E.im k).o + (off + len - (E.im k).lo) * f'.sz + ((j - (off + len)) * f'.sz + c) - ((E.im k).o + (off + len - (E.im k).lo) * f'.sz) = (j - (off + len)) * f'.sz + c from by omega, hsz]
        exact v1
      · rw [if_neg hjy] at hx''
        obtain ⟨g1, g2⟩ := c3 j x' hj hx''
        refine ⟨g1, fun c y hc => ?_⟩
        obtain ⟨v, v1, v2⟩ := g2 c y hc
        have h3 : (off + len - (E.im k).lo + ys.length) * f'.sz ≤ (j - (E.im k).lo) * f'.sz := Nat.mul_le_mul_right _ (by omega)
        rw [Nat.add_mul] at h3
        exact ⟨v, by rw [hget, if_neg (by omega), if_neg (by rw [n1, ← hsz]; omega)]; exact v1, v2⟩
  · simp only [VR, Env.setFam]
    exact ⟨base, cap, { f' with xs := zs }, rfl, by simp [hk'], ⟨by simp [hzl, hn], fun _ => ⟨_, _, l5 (by omega)⟩⟩, fun _ => ⟨l1, by omega, l3, l4, l5⟩⟩
theorem appY_does {c : Ctx} {args : Array Operand} {ats : Array TypeId} {s x : Operand} {s' : Opd} {t u e : TypeId} {i : TypeInfo} {z v : AV} {h' : AH} {ys : List AV} {news : List Value} (hS : SR E) (hf : FR E fr a.tmps)
    (ho : o.op = .call { callee := .builtin .append, args := args, argTypes := ats }) (h1 : args.toList = [s, x]) (h2 : ats.toList = [t, u]) (ht : P.underlying t = some (.slice e)) (hi : P.info? e = some i) (hz : Program.zeroA P e = some z) (hpos : 0 < i.size)
    (hs : resOpd s = some s') (hsrc : Src P E t u e i (a.eval x) ys news) (hev : appendY c E.h i.size i.bytes (get fr s') ys = some (v, h')) : Does P a o E v h' := by
  unfold appendY at hev
  split at hev
  · rename_i z0 xs hg
    split at hev
    · rename_i h0
      cases hev
      have e1 := opd_sound hf hs
      have e1' := e1
      rw [hg] at e1
      simp only [VR, PV] at e1
      obtain ⟨base, len, cap, e2, _, e4, _⟩ := e1
      refine ⟨_, .slice base len cap, E, exec_append ho h1 h2 ?_, .inl rfl, Ext.refl E, hS, rfl, by rw [hg, e2] at e1'; exact e1'⟩
      rw [e2]
      exact hsrc.zero (List.eq_nil_of_length_eq_zero h0) _ base len cap e4
    · rename_i h0
      split at hev
      · rename_i hb
        cases hev
        exact d_app_full hS hf ho h1 h2 ht hi hz hpos hs hg hsrc h0 hb.1 hb.2.1 hb.2.2
      · cases hev
  · rename_i k n off len hg
    split at hev
    · rename_i f hfk
      split at hev
      · rename_i hb
        cases hev
        exact d_app_row hS hf ho h1 h2 ht hi hz hpos hs hg hsrc hfk hb.1 hb.2.1 hb.2.2.1 hb.2.2.2.1 hb.2.2.2.2
      · split at hev
        · rename_i hb
          cases hev
          exact d_app_pre hS hf ho h1 h2 ht hi hz hpos hs hg hsrc hfk hb.1 hb.2.1 hb.2.2.1 hb.2.2.2
        · cases hev
    · cases hev
  · cases hev
end
end Go.Abs
