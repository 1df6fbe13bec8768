/- Operands, constants, values laid to rest, loads: abstract and in the model. -/
import Derived.Test.YtpkegmgepnhfnaaA5
namespace Go.Abs
open Go.RowKit (Below)

/-- A frame. -/
structure FR (E : Env) (fr : Fr) (tmps : Array Value) : Prop where
  len : fr.length = tmps.size
  val : ∀ t : Nat, VR E (fr.getD t undefA) (tmps.getD t undef)

theorem VR_undef (E : Env) : VR E undefA undef := by simp [undefA, undef, VR, VRs]

theorem FR.ext {E E' : Env} (h : Ext E E') {fr : Fr} {tmps : Array Value} (hf : FR E fr tmps) : FR E' fr tmps := ⟨hf.len, fun t => VR_ext h _ _ (hf.val t)⟩

theorem FR.put {E : Env} {fr : Fr} {a : Act} (hf : FR E fr a.tmps) (dst : Option Nat) {v : AV} {u : Value} (hv : VR E v u) : FR E (put fr dst v) (a.put dst u).tmps := by
  cases dst with
  | none => exact hf
  | some d =>
    refine ⟨by simp [Abs.put, Act.put, hf.len], fun t => ?_⟩
    simp only [Abs.put, Act.put]
    by_cases hd : d < fr.length
    · by_cases ht : d = t
      · subst ht
        have hd' : d < a.tmps.size := by rw [← hf.len]; exact hd
        simpa [List.getD, Array.getD, hd, hd'] using hv
      · have := hf.val t
        simpa [List.getD, List.getElem?_set_ne ht, Array.getElem?_setIfInBounds_ne ht] using this
    · have := hf.val t
      have hd' : ¬ d < a.tmps.size := by rw [← hf.len]; exact hd
      have e1 : fr.set d v = fr := List.set_eq_of_length_le (by omega)
      have e2 : a.tmps.setIfInBounds d u = a.tmps := Array.setIfInBounds_eq_of_size_le (by omega)
      rw [e1, e2]; exact this

theorem mapO_spec {α β : Type} {f : α → Option β} : ∀ {l : List α} {r : List β}, mapO f l = some r → r.length = l.length ∧ ∀ (j : Nat) (x : α), l[j]? = some x → ∃ y, f x = some y ∧ r[j]? = some y
  | [], r, h => by simp [mapO] at h; subst h; simp
  | a :: l, r, h => by
    simp only [mapO] at h
    split at h
    · rename_i y ys h1 h2
      cases h
      obtain ⟨hl, hg⟩ := mapO_spec h2
      refine ⟨by simp [hl], fun j x hx => ?_⟩
      cases j with
      | zero => simp at hx; subst hx; exact ⟨y, h1, rfl⟩
      | succ j => simpa using hg j x (by simpa using hx)
    · cases h

theorem constAV1_sound {w : World} {ok : Nat → Nat → Prop} : ∀ {v : Value} {x : AV}, constAV1 v = some x → PV w ok x v ∧ v.oneCell' = true := by
  intro v x h
  unfold constAV1 at h
  split at h
  case h_1 => cases h; exact ⟨by simp [PV], rfl⟩
  case h_2 => cases h; exact ⟨by simp [PV], rfl⟩
  case h_3 => cases h; exact ⟨by simp [PV], rfl⟩
  case h_4 => cases h; exact ⟨by simp only [PV]; exact ⟨none, 0, 0, rfl, rfl, by omega, by omega, fun _ => rfl, ⟨fun _ => rfl, by simp⟩, fun h => absurd rfl h⟩, rfl⟩
  case h_5 => cases h; exact ⟨by simp [PV], rfl⟩
  case h_6 => cases h; exact ⟨by simp [PV], rfl⟩
  case h_8 => cases h
  case h_7 f a b =>
    split at h
    · rename_i hs
      cases h
      have ha : a = #[] := Array.size_eq_zero_iff.1 hs.1
      have hb : b = #[] := Array.size_eq_zero_iff.1 hs.2
      subst ha; subst hb
      exact ⟨by simp [PV, PVs], rfl⟩
    · cases h

theorem constAV_sound {w : World} {ok : Nat → Nat → Prop} {v : Value} {x : AV} (h : constAV v = some x) : PV w ok x v := by
  unfold constAV at h
  split at h
  · rename_i cs
    cases hm : mapO constAV1 cs.toList with
    | none => simp [hm] at h
    | some ys =>
      simp [hm] at h
      subst h
      obtain ⟨hl, hg⟩ := mapO_spec hm
      simp only [PV]
      refine ⟨cs, rfl, fun u hu => ?_, PVs_of hl.symm fun j c u hc hu => ?_⟩
      · obtain ⟨j, hj⟩ := List.getElem?_of_mem hu
        obtain ⟨y, hy, _⟩ := hg j u hj
        exact (constAV1_sound (w := w) (ok := ok) hy).2
      · obtain ⟨y, hy, hy'⟩ := hg j u hu
        have : c = y := by rw [hc] at hy'; simpa using hy'
        subst this
        exact (constAV1_sound hy).1
  · rename_i vs
    split at h
    · rename_i hs
      cases h
      have : vs = #[] := Array.size_eq_zero_iff.1 hs
      subst this
      simp [PV, PVs]
    · cases h
  · exact (constAV1_sound h).1

section
variable {E : Env}

theorem opd_sound {fr : Fr} {a : Act} (hf : FR E fr a.tmps) {x : Operand} {y : Opd} (h : resOpd x = some y) : VR E (get fr y) (a.eval x) := by
  cases x with
  | tmp t => simp [resOpd] at h; subst h; exact hf.val t
  | const v =>
    simp only [resOpd] at h
    cases hc : constAV v with
    | none => simp [hc] at h
    | some av => simp [hc] at h; subst h; exact VR_of_PV _ _ (constAV_sound hc)
  | global g => simp [resOpd] at h
  | func f => simp [resOpd] at h; subst h; simp [get, Act.eval, VR, VRs]

theorem opds_sound {fr : Fr} {a : Act} (hf : FR E fr a.tmps) {xs : Array Operand} {ys : List Opd} (h : mapO resOpd xs.toList = some ys) : VRs E (ys.map (get fr)) (xs.map a.eval).toList := by
  obtain ⟨hl, hg⟩ := mapO_spec h
  refine VRs_of (by simpa using hl.symm) fun j c u hc hu => ?_
  simp only [Array.toList_map, List.getElem?_map] at hc hu
  cases hx : xs.toList[j]? with
  | none => simp [hx] at hu
  | some x =>
    obtain ⟨y, hy, hy'⟩ := hg j x hx
    simp [hx] at hu
    simp [hy'] at hc
    subst hu; subst hc
    exact opd_sound hf hy

theorem VR_one {x : AV} {v : Value} (h : VR E x v) (ht : x.isTup = false) (ha : ∀ cs, x ≠ .agg cs) : v.oneCell' = true ∧ v.cells = #[v] := by
  cases x <;> simp only [VR, PV] at h
  case agg cs => exact absurd rfl (ha cs)
  case tup => simp [AV.isTup] at ht
  case junk => refine ⟨h, ?_⟩; cases v <;> simp_all [Value.oneCell', Value.cells]
  case vs => obtain ⟨a, len, cap, rfl, _⟩ := h; exact ⟨rfl, rfl⟩
  case sl => obtain ⟨a, cap, f, rfl, _⟩ := h; exact ⟨rfl, rfl⟩
  case pv => obtain ⟨b, o, rfl, _⟩ := h; exact ⟨rfl, rfl⟩
  case ep => obtain ⟨a, f, rfl, _⟩ := h; exact ⟨rfl, rfl⟩
  case ptr => obtain ⟨_, rfl⟩ := h; exact ⟨rfl, rfl⟩
  case fn => obtain ⟨us, rfl, _⟩ := h; exact ⟨rfl, rfl⟩
  all_goals (subst h; exact ⟨rfl, rfl⟩)

theorem VR_cells {x : AV} {v : Value} (h : VR E x v) (ht : x.isTup = false) : VRs E x.cells v.cells.toList ∧ ∀ u ∈ v.cells.toList, u.oneCell' = true := by
  by_cases ha : ∃ cs, x = .agg cs
  · obtain ⟨cs, rfl⟩ := ha
    simp only [VR] at h
    obtain ⟨us, rfl, h1, h2⟩ := h
    exact ⟨h2, h1⟩
  · have ha' : ∀ cs, x ≠ .agg cs := fun cs e => ha ⟨cs, e⟩
    obtain ⟨h1, h2⟩ := VR_one h ht ha'
    have hc : x.cells = [x] := by cases x <;> first | rfl | exact absurd rfl (ha' _)
    rw [hc, h2]
    exact ⟨by simp [VRs, h], by simpa using h1⟩

/-! ### Rows laid to rest -/

theorem mul_room {i n sz c : Nat} (hi : i < n) (hc : c < sz) : i * sz + c < n * sz := by
  have : (i + 1) * sz ≤ n * sz := Nat.mul_le_mul_right _ hi
  rw [Nat.succ_mul] at this
  omega

theorem sl_PV (hS : SR E) {k n off len : Nat} {v : Value} {f : Fam} (hv : VR E (.sl k n off len) v) (hf : E.h.fams[k]? = some f) (hn : f.xs.length = n) (ho : off + len ≤ n)
    {ok' : Nat → Nat → Prop} (hok : ∀ b o, E.ok b o → ok' b o) (hown : f.wr = true → ∀ b o, E.base ≤ b → b < E.w.heap.size → ok' b o) :
    PV E.w ok' (.vs false f.sz ((f.xs.drop off).take len)) v := by
  simp only [VR] at hv
  obtain ⟨a, cap, f', rfl, hf', hle, hc⟩ := hv
  have : f' = f := by rw [hf] at hf'; simpa using hf'.symm
  subst this
  obtain ⟨h1, h2, h3, h4, h5⟩ := hc hn
  have hF := hS.fams k f' hf
  have hk := (List.getElem?_eq_some_iff.1 hf).1
  have hb := hS.im_lt hk
  have hroom := hF.room
  have hcap := hF.cap
  have hlen : ((f'.xs.drop off).take len).length = len := by simp; omega
  simp only [PV]
  refine ⟨a, len, cap, rfl, hlen.symm, by omega, by omega, by simp, ⟨fun e => absurd e h4, ⟨fun e => absurd e h4, fun e => absurd hF.sz (by omega)⟩⟩, fun hne => ?_⟩
  have hpos : 0 < len := by
    rcases Nat.eq_zero_or_pos len with h0 | h0
    · subst h0; simp at hne
    · exact h0
  refine ⟨_, _, h5 (by omega), hF.sz, PEls_of fun j x hx => ?_⟩
  have hj : j < len := by have := (List.getElem?_eq_some_iff.1 hx).1; omega
  have hx' : f'.xs[off + j]? = some x := by
    rw [List.getElem?_take, if_pos hj, List.getElem?_drop] at hx; exact hx
  obtain ⟨cur, t, c1, c2, c3⟩ := hF.cells
  obtain ⟨e1, e2⟩ := c3 (off + j) x (by omega) hx'
  have epos : (E.im k).o + (off + j - (E.im k).lo) * f'.sz = (E.im k).o + (off - (E.im k).lo) * f'.sz + j * f'.sz := by
    rw [show off + j - (E.im k).lo = (off - (E.im k).lo) + j from by omega, Nat.add_mul]; omega
  refine ⟨e1, PCells_of fun c y hy => ?_⟩
  obtain ⟨u, u1, u2, u3⟩ := e2 c y hy
  have hcs : c < f'.sz := by have := (List.getElem?_eq_some_iff.1 hy).1; omega
  rw [epos] at u1
  refine ⟨u, ?_, ?_, u2, PV_mono (fun b o h => ⟨hok b o h, rfl⟩) _ _ u3⟩
  · cases hw : f'.wr with
    | true => exact hown hw _ _ hb.1 hb.2
    | false =>
      refine hok _ _ (.inr ⟨hb.1, hb.2, fun i hi => hS.sep i k hi hk, fun k' g hk' he => ?_⟩)
      have hk'' := (List.getElem?_eq_some_iff.1 hk').1
      have := hS.injf k' k hk'' hk he
      subst this
      have : g = f' := by rw [hf] at hk'; simpa using hk'.symm
      subst this
      refine ⟨hw, ?_⟩
      rw [← epos, Nat.add_assoc]
      exact Nat.add_lt_add_left (mul_room (by omega) hcs) _
  · rw [cell_of_row _ _ _ _ _ _ c1]; exact u1

theorem flat_PV {x : AV} {v : Value} (h : VR E x v) (hf : x.flat = true) : PV E.w E.ok x v := by
  cases x <;> simp only [VR] at h <;> first | exact h | (simp [AV.flat] at hf; done) | skip
  all_goals simp only [PV]
  all_goals first
    | exact h
    | skip
  case fn f caps =>
    obtain ⟨us, rfl, hu⟩ := h
    have hc : caps = [] := by simpa [AV.flat] using hf
    subst hc
    refine ⟨us, rfl, ?_⟩
    simpa [VRs, PVs] using hu

/-- `ok'` lets all that pure values may lean on; and, where rows that may be written to are let (`am`), all memory. -/
def OkUp (E : Env) (am : Bool) (ok' : Nat → Nat → Prop) : Prop := (∀ b o, E.ok b o → ok' b o) ∧ (am = true → ∀ b o, E.base ≤ b → b < E.w.heap.size → ok' b o)

theorem frz1_sound (hS : SR E) {am : Bool} {ok' : Nat → Nat → Prop} (hok : OkUp E am ok') {x y : AV} {v : Value} (hv : VR E x v) (h : frz1 E.h am x = some y) : PV E.w ok' y v ∧ (v.oneCell' = true → True) ∧ y.isTup = false := by
  have up : ∀ {z : AV} {u : Value}, PV E.w E.ok z u → PV E.w ok' z u := fun hz => PV_mono (fun b o h => ⟨hok.1 b o h, rfl⟩) _ _ hz
  cases x <;> simp only [frz1] at h
  case sl k n off len =>
    split at h
    · rename_i f hf
      split at h
      · rename_i hc
        cases h
        refine ⟨sl_PV hS hv hf hc.1 hc.2.1 hok.1 (fun hw => hok.2 ?_), fun _ => trivial, rfl⟩
        have := hc.2.2; simpa [hw] using this
      · cases h
    · cases h
  case ep => cases h
  case ptr => cases h
  case agg => cases h
  case tup => cases h
  case fn f caps =>
    split at h
    · rename_i hc
      cases h
      refine ⟨?_, fun _ => trivial, rfl⟩
      simp only [VR] at hv
      obtain ⟨us, rfl, hu⟩ := hv
      obtain ⟨hl, hg⟩ := VRs_get hu
      simp only [PV]
      refine ⟨us, rfl, PVs_of hl fun j c u hc' hu' => ?_⟩
      obtain ⟨u', h1, h2⟩ := hg hc'
      have : u' = u := by rw [hu'] at h1; simpa using h1.symm
      subst this
      exact up (flat_PV h2 ((List.all_eq_true.1 hc) c (List.mem_of_getElem? hc')))
    · cases h
  all_goals (cases h; exact ⟨up (flat_PV hv rfl), fun _ => trivial, rfl⟩)

theorem frzL_sound (hS : SR E) {am : Bool} {ok' : Nat → Nat → Prop} (hok : OkUp E am ok') : ∀ {xs ys : List AV} {us : List Value}, VRs E xs us → frzL E.h am xs = some ys → PVs E.w ok' ys us
  | [], ys, us, hv, h => by simp [frzL] at h; subst h; simpa [VRs, PVs] using hv
  | x :: xs, ys, us, hv, h => by
    simp only [frzL, Option.bind_eq_some_iff, Option.map_eq_some_iff] at h
    obtain ⟨y, hy, ys', hys, rfl⟩ := h
    simp only [VRs] at hv
    obtain ⟨u, us', rfl, h1, h2⟩ := hv
    simp only [PVs]
    exact ⟨u, us', rfl, (frz1_sound hS hok h1 hy).1, frzL_sound hS hok h2 hys⟩

theorem frz_sound (hS : SR E) {am : Bool} {ok' : Nat → Nat → Prop} (hok : OkUp E am ok') {x y : AV} {v : Value} (hv : VR E x v) (h : frz E.h am x = some y) : PV E.w ok' y v ∧ y.isTup = false := by
  unfold frz at h
  split at h
  · rename_i cs
    simp only [Option.map_eq_some_iff] at h
    obtain ⟨ys, hys, rfl⟩ := h
    simp only [VR] at hv
    obtain ⟨us, rfl, h1, h2⟩ := hv
    simp only [PV]
    exact ⟨⟨us, rfl, h1, frzL_sound hS hok h2 hys⟩, rfl⟩
  · have := frz1_sound hS hok hv h
    exact ⟨this.1, this.2.2⟩

theorem frzAll_sound (hS : SR E) {am : Bool} {ok' : Nat → Nat → Prop} (hok : OkUp E am ok') : ∀ {xs ys : List AV} {us : List Value}, VRs E xs us → frzAll E.h am xs = some ys → PVs E.w ok' ys us
  | [], ys, us, hv, h => by simp [frzAll] at h; subst h; simpa [VRs, PVs] using hv
  | x :: xs, ys, us, hv, h => by
    simp only [frzAll, Option.bind_eq_some_iff, Option.map_eq_some_iff] at h
    obtain ⟨y, hy, ys', hys, rfl⟩ := h
    simp only [VRs] at hv
    obtain ⟨u, us', rfl, h1, h2⟩ := hv
    simp only [PVs]
    exact ⟨u, us', rfl, (frz_sound hS hok h1 hy).1, frzAll_sound hS hok h2 hys⟩

theorem frzRes_sound (hS : SR E) {ok' : Nat → Nat → Prop} (hok : OkUp E true ok') {x y : AV} {v : Value} (hv : VR E x v) (h : frzRes E.h x = some y) : PV E.w ok' y v := by
  unfold frzRes at h
  split at h
  · rename_i vs
    simp only [Option.map_eq_some_iff] at h
    obtain ⟨ys, hys, rfl⟩ := h
    simp only [VR] at hv
    obtain ⟨us, rfl, h2⟩ := hv
    simp only [PV]
    exact ⟨us, rfl, frzAll_sound hS hok h2 hys⟩
  · exact (frz_sound hS hok hv h).1

/-! ### Loads -/

/-- Cells from o on in block b. -/
def CellsV (E : Env) (b o : Nat) (cs : List AV) : Prop :=
  ∀ (j : Nat) (c : AV), cs[j]? = some c → ∃ u, E.w.cell? ⟨b, o + j, none⟩ = some u ∧ u.oneCell' = true ∧ VR E c u

theorem CellsV.drop {b o n : Nat} {cs : List AV} (h : CellsV E b o cs) : CellsV E b (o + n) (cs.drop n) := by
  intro j c hc
  rw [List.getElem?_drop] at hc
  have := h (n + j) c hc
  rwa [show o + (n + j) = o + n + j from by omega] at this

theorem CellsV_of_PCells {b o : Nat} {cs : List AV} (h : PCells E.w E.ok b o cs) : CellsV E b o cs := by
  intro j c hc
  obtain ⟨u, _, h2, h3, h4⟩ := PCells_get h hc
  exact ⟨u, h2, h3, VR_of_PV _ _ h4⟩

theorem loadA_cells (hS : SR E) {agg : Bool} {n : Nat} {x r : AV} {v : Value} (hv : VR E x v) (h : loadA E.h agg n x = some r) :
    ∃ b o cs, v = .pointer (some ⟨b, o, none⟩) ∧ CellsV E b o cs ∧ ofCells agg n cs = some r := by
  cases x <;> simp only [loadA] at h <;> try (cases h; done)
  case pv cs =>
    simp only [VR, PV] at hv
    obtain ⟨b, o, rfl, hc⟩ := hv
    exact ⟨b, o, cs, rfl, CellsV_of_PCells hc, h⟩
  case ptr b off =>
    split at h
    · rename_i cs hcs
      simp only [VR] at hv
      obtain ⟨_, rfl⟩ := hv
      obtain ⟨_, cur, t, h2, h3, h4⟩ := hS.boxes b cs hcs
      refine ⟨E.nb b, 0 + off, cs.drop off, by simp, CellsV.drop ?_, h⟩
      obtain ⟨hl, hg⟩ := VRs_get h3
      intro j c hc
      obtain ⟨u, h5, h6⟩ := hg hc
      refine ⟨u, ?_, h4 u (List.mem_of_getElem? h5), h6⟩
      rw [Nat.zero_add, cell_of_row _ _ _ _ _ _ h2]
      simpa using h5
    · cases h
  case ep k m i c =>
    split at h
    · rename_i f hf
      split at h
      · rename_i hm
        split at h
        · rename_i y hy
          simp only [VR] at hv
          obtain ⟨a, f', rfl, hf', _, hc⟩ := hv
          have : f' = f := by rw [hf] at hf'; simpa using hf'.symm
          subst this
          obtain ⟨hlo, rfl⟩ := hc hm
          obtain ⟨cur, t, c1, c2, c3⟩ := (hS.fams k f' hf).cells
          obtain ⟨e1, e2⟩ := c3 i y hlo hy
          refine ⟨_, _, y.cells.drop c, rfl, CellsV.drop ?_, h⟩
          intro j z hz
          obtain ⟨u, u1, u2, u3⟩ := e2 j z hz
          exact ⟨u, by rw [cell_of_row _ _ _ _ _ _ c1]; exact u1, u2, VR_of_PV _ _ u3⟩
        · cases h
      · cases h
    · cases h

theorem add_addr (b o j : Nat) : (⟨b, o, none⟩ : Addr).add j = ⟨b, o + j, none⟩ := by unfold Addr.add; split <;> simp_all

theorem run_load_cells {P : Program} {t : TypeId} {agg : Bool} {n b o : Nat} {cs : List AV} {r : AV} (hc : CellsV E b o cs) (h : ofCells agg n cs = some r)
    (ha : Program.agg? P t = some agg) (hn : Program.size? P t = some n) : ∃ v, (loadVar t ⟨b, o, none⟩).run P E.w = .ok v E.w ∧ VR E r v := by
  have hisAgg : (isAgg t).run P E.w = .ok agg E.w := by
    unfold Program.agg? at ha
    unfold isAgg underlying
    split at ha <;> simp_all
  have hsize : (sizeOf t).run P E.w = .ok n E.w := by
    unfold Program.size? at hn
    unfold sizeOf typeInfo
    simp only [Option.map_eq_some_iff] at hn
    obtain ⟨i, hi, rfl⟩ := hn
    simp [hi]
  cases agg with
  | true =>
    simp only [ofCells] at h
    split at h
    · rename_i hle
      cases h
      have hex : ∀ j, j < n → ∃ u, E.w.cell? ⟨b, o + j, none⟩ = some u ∧ u.oneCell' = true ∧ VR E (cs.getD j default) u := by
        intro j hj
        have hj' : cs[j]? = some (cs.getD j default) := by simp [List.getD, List.getElem?_eq_getElem (show j < cs.length by omega)]
        exact hc j _ hj'
      have hpick : ∃ g : Nat → Value, ∀ j, j < n → E.w.cell? ⟨b, o + j, none⟩ = some (g j) ∧ (g j).oneCell' = true ∧ VR E (cs.getD j default) (g j) := by
        refine ⟨fun j => if hj : j < n then Classical.choose (hex j hj) else default, fun j hj => ?_⟩
        simp only [hj, dif_pos]
        exact Classical.choose_spec (hex j hj)
      obtain ⟨g, hg⟩ := hpick
      have hl := run_loadCells (P := P) E.w ⟨b, o, none⟩ n g (fun j hj => by rw [add_addr]; exact (hg j hj).1)
      refine ⟨.agg (List.map g (List.range n)).toArray, ?_, ?_⟩
      · unfold loadVar
        simp only [Sem.run_bind, hisAgg, Result.andThen_ok, if_true, hsize, hl, Sem.run_pure]
      · simp only [VR]
        refine ⟨_, rfl, fun u hu => ?_, VRs_of (by simp; omega) fun j c u hc' hu => ?_⟩
        · simp at hu
          obtain ⟨j, hj, rfl⟩ := hu
          exact (hg j hj).2.1
        · have hj : j < n := by have := (List.getElem?_eq_some_iff.1 hc').1; simp at this; omega
          rw [List.getElem?_take, if_pos hj] at hc'
          have e1 : u = g j := by simpa [hj] using hu.symm
          have e2 : cs.getD j default = c := by simp [List.getD, hc']
          rw [e1, ← e2]
          exact (hg j hj).2.2
    · cases h
  | false =>
    simp only [ofCells] at h
    have h0 : cs[0]? = some r := by rw [← h]; cases cs <;> rfl
    obtain ⟨u, h1, _, h3⟩ := hc 0 r h0
    refine ⟨u, ?_, h3⟩
    unfold loadVar
    simp only [Sem.run_bind, hisAgg, Result.andThen_ok, Bool.false_eq_true, if_false]
    simp at h1
    simp [h1]

end
end Go.Abs
