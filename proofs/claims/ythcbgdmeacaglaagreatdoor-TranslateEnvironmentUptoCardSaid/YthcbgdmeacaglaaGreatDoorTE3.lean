/- A part of the proof. -/
import Derived.Test.YthcbgdmeacaglaaGreatDoorTE2
set_option linter.all false
namespace Go.Abs
open Go.RowKit (Below)
def GlobP (w : World) (ok : Nat → Nat → Prop) : Prop := ∀ x ∈ globA, PV w ok (.pv x.2) (.pointer (some ⟨x.1, 0, none⟩))
theorem GlobP.mono {w w' : World} {ok ok' : Nat → Nat → Prop} (h : ∀ b o, ok b o → ok' b o ∧ Stay w w' b o) (hg : GlobP w ok) : GlobP w' ok' := fun x hx => PV_mono h _ _ (hg x hx)
structure FR (E : Env) (fr : Fr) (tmps : Array Value) : Prop where
  len : fr.length = tmps.size
  val : ∀ t : Nat, VR E (fr.getD t undefA) (tmps.getD t undef)
  glob : GlobP E.w E.ok
theorem VR_undef (E : Env) : VR E undefA undef := by simp [undefA, undef, VR, VRs]
theorem FR.ext {E E' : Env} (h : Ext E E') {fr : Fr} {tmps : Array Value} (hf : FR E fr tmps) : FR E' fr tmps := ⟨hf.len, fun t => VR_ext h _ _ (hf.val t), hf.glob.mono h.cells⟩
theorem FR.put {E : Env} {fr : Fr} {a : Act} (hf : FR E fr a.tmps) (dst : Option Nat) {v : AV} {u : Value} (hv : VR E v u) : FR E (put fr dst v) (a.put dst u).tmps := by
  cases dst with
  | none => exact hf
  | some d =>
    refine ⟨by simp [Abs.put, Act.put, hf.len], fun t => ?_, hf.glob⟩
    simp only [Abs.put, Act.put]
    by_cases hd : d < fr.length
    · by_cases ht : d = t
      · subst ht
        have hd' : d < a.tmps.size := by rw [← hf.len]; exact hd
        simpa [List.getD, Array.getD, hd, hd'] using hv
      · have := hf.val t
        simpa [List.getD, List.getElem?_set_ne ht, Array.getElem?_setIfInBounds_ne ht] using this
    · have := hf.val t
      have hd' : ¬ d < a.tmps.size := by rw [← hf.len]; exact hd
      have e1 : fr.set d v = fr := List.set_eq_of_length_le (by omega)
      have e2 : a.tmps.setIfInBounds d u = a.tmps := Array.setIfInBounds_eq_of_size_le (by omega)
      rw [e1, e2]; exact this
theorem mapO_spec {α β : Type} {f : α → Option β} : ∀ {l : List α} {r : List β}, mapO f l = some r → r.length = l.length ∧ ∀ (j : Nat) (x : α), l[j]? = some x → ∃ y, f x = some y ∧ r[j]? = some y
  | [], r, h => by simp [mapO] at h; subst h; simp
  | a :: l, r, h => by
    simp only [mapO] at h
    split at h
    · rename_i y ys h1 h2
      cases h
      obtain ⟨hl, hg⟩ := mapO_spec h2
      refine ⟨by simp [hl], fun j x hx => ?_⟩
      cases j with
      | zero => simp at hx; subst hx; exact ⟨y, h1, rfl⟩
      | succ j => simpa using hg j x (by simpa using hx)
    · cases h
theorem constAV1_sound {w : World} {ok : Nat → Nat → Prop} : ∀ {v : Value} {x : AV}, constAV1 v = some x → PV w ok x v ∧ v.oneCell' = true := by
  intro v x h
  unfold constAV1 at h
  split at h
  case h_1 => cases h; exact ⟨by simp [PV], rfl⟩
  case h_2 => cases h; exact ⟨by simp [PV], rfl⟩
  case h_3 => cases h; exact ⟨by simp [PV], rfl⟩
  case h_4 => cases h; exact ⟨by simp only [PV]; exact ⟨none, 0, 0, rfl, rfl, by omega, by omega, fun _ => rfl, ⟨fun _ => rfl, by simp⟩, fun h => absurd rfl h⟩, rfl⟩
  case h_5 => cases h; exact ⟨by simp [PV], rfl⟩
  case h_6 => cases h; exact ⟨by simp [PV], rfl⟩
  case h_7 => cases h; exact ⟨by simp [PV], rfl⟩
  case h_8 => cases h; exact ⟨by simp [PV, Value.oneCell'], rfl⟩
  case h_10 => cases h
  case h_9 f a b =>
    split at h
    · rename_i hs
      cases h
      have ha : a = #[] := Array.size_eq_zero_iff.1 hs.1
      have hb : b = #[] := Array.size_eq_zero_iff.1 hs.2
      subst ha; subst hb
      exact ⟨by simp [PV, PVs], rfl⟩
    · cases h
theorem constAV_sound {w : World} {ok : Nat → Nat → Prop} {v : Value} {x : AV} (h : constAV v = some x) : PV w ok x v := by
  unfold constAV at h
  split at h
  · rename_i cs
    cases hm : mapO constAV1 cs.toList with
    | none => simp [hm] at h
    | some ys =>
      simp [hm] at h
      subst h
      obtain ⟨hl, hg⟩ := mapO_spec hm
      simp only [PV]
      refine ⟨cs, rfl, fun u hu => ?_, PVs_of hl.symm fun j c u hc hu => ?_⟩
      · obtain ⟨j, hj⟩ := List.getElem?_of_mem hu
        obtain ⟨y, hy, _⟩ := hg j u hj
        exact (constAV1_sound (w := w) (ok := ok) hy).2
      · obtain ⟨y, hy, hy'⟩ := hg j u hu
        have : c = y := by rw [hc] at hy'; simpa using hy'
        subst this
        exact (constAV1_sound hy).1
  · rename_i vs
    split at h
    · rename_i hs
      cases h
      have : vs = #[] := Array.size_eq_zero_iff.1 hs
      subst this
      simp [PV, PVs]
    · cases h
  · exact (constAV1_sound h).1
section
variable {E : Env}
theorem opd_sound {fr : Fr} {a : Act} (hf : FR E fr a.tmps) {x : Operand} {y : Opd} (h : resOpd x = some y) : VR E (get fr y) (a.eval x) := by
  cases x with
  | tmp t => simp [resOpd] at h; subst h; exact hf.val t
  | const v =>
    simp only [resOpd] at h
    cases hc : constAV v with
    | none => simp [hc] at h
    | some av => simp [hc] at h; subst h; exact VR_of_PV _ _ (constAV_sound hc)
  | global g =>
    simp only [resOpd, Option.map_eq_some_iff] at h
    obtain ⟨p, hp, rfl⟩ := h
    have h1 := List.find?_some hp
    have h2 := List.mem_of_find?_eq_some hp
    have e := Nat.eq_of_beq_eq_true h1
    have := hf.glob p h2
    rw [e] at this
    exact VR_of_PV _ _ this
  | func f => simp [resOpd] at h; subst h; simp [get, Act.eval, VR, VRs]
theorem opds_sound {fr : Fr} {a : Act} (hf : FR E fr a.tmps) {xs : Array Operand} {ys : List Opd} (h : mapO resOpd xs.toList = some ys) : VRs E (ys.map (get fr)) (xs.map a.eval).toList := by
  obtain ⟨hl, hg⟩ := mapO_spec h
  refine VRs_of (by simpa using hl.symm) fun j c u hc hu => ?_
  simp only [Array.toList_map, List.getElem?_map] at hc hu
  cases hx : xs.toList[j]? with
  | none => simp [hx] at hu
  | some x =>
    obtain ⟨y, hy, hy'⟩ := hg j x hx
    simp [hx] at hu
    simp [hy'] at hc
    subst hu; subst hc
    exact opd_sound hf hy
theorem VR_one {x : AV} {v : Value} (h : VR E x v) (ht : x.isTup = false) (ha : ∀ cs, x ≠ .agg cs) : v.oneCell' = true ∧ v.cells = #[v] := by
  cases x <;> simp only [VR, PV] at h
  case agg cs => exact absurd rfl (ha cs)
  case tup => simp [AV.isTup] at ht
  case junk => refine ⟨h, ?_⟩; cases v <;> simp_all [Value.oneCell', Value.cells]
  case vs => obtain ⟨a, len, cap, rfl, _⟩ := h; exact ⟨rfl, rfl⟩
  case sl => obtain ⟨a, cap, f, rfl, _⟩ := h; exact ⟨rfl, rfl⟩
  case pv => obtain ⟨b, o, rfl, _⟩ := h; exact ⟨rfl, rfl⟩
  case ep => obtain ⟨b, o, f, rfl, _⟩ := h; exact ⟨rfl, rfl⟩
  case ptr => obtain ⟨_, rfl⟩ := h; exact ⟨rfl, rfl⟩
  case mp => obtain ⟨_, rfl⟩ := h; exact ⟨rfl, rfl⟩
  case bsl => obtain ⟨_, cap, rfl, _⟩ := h; exact ⟨rfl, rfl⟩
  case vm => obtain ⟨b, es, clk, rfl, _⟩ := h; exact ⟨rfl, rfl⟩
  case fn => obtain ⟨us, rfl, _⟩ := h; exact ⟨rfl, rfl⟩
  all_goals (subst h; exact ⟨rfl, rfl⟩)
theorem VR_cells {x : AV} {v : Value} (h : VR E x v) (ht : x.isTup = false) : VRs E x.cells v.cells.toList ∧ ∀ u ∈ v.cells.toList, u.oneCell' = true := by
  by_cases ha : ∃ cs, x = .agg cs
  · obtain ⟨cs, rfl⟩ := ha
    simp only [VR] at h
    obtain ⟨us, rfl, h1, h2⟩ := h
    exact ⟨h2, h1⟩
  · have ha' : ∀ cs, x ≠ .agg cs := fun cs e => ha ⟨cs, e⟩
    obtain ⟨h1, h2⟩ := VR_one h ht ha'
    have hc : x.cells = [x] := by cases x <;> first | rfl | exact absurd rfl (ha' _)
    rw [hc, h2]
    exact ⟨by simp [VRs, h], by simpa using h1⟩
theorem mul_room {i n sz c : Nat} (hi : i < n) (hc : c < sz) : i * sz + c < n * sz := by
  have : (i + 1) * sz ≤ n * sz := Nat.mul_le_mul_right _ hi
  rw [Nat.succ_mul] at this
  omega
theorem sl_PV (hS : SR E) {k n off len : Nat} {v : Value} {f : Fam} (hv : VR E (.sl k n off len) v) (hf : E.h.fams[k]? = some f) (hn : f.xs.length = n) (ho : off + len ≤ n)
    {ok' : Nat → Nat → Prop} (hok : ∀ b o, E.ok b o → ok' b o) (hown : f.wr = true → ∀ b o, E.base ≤ b → b < E.w.heap.size → ok' b o) :
    PV E.w ok' (.vs false f.sz ((f.xs.drop off).take len)) v := by
  simp only [VR] at hv
  obtain ⟨a, cap, f', rfl, hf', hle, hc⟩ := hv
  have : f' = f := by rw [hf] at hf'; simpa using hf'.symm
  subst this
  obtain ⟨h1, h2, h3, h4, h5⟩ := hc hn
  have hF := hS.fams k f' hf
  have hk := (List.getElem?_eq_some_iff.1 hf).1
  have hb := hS.im_lt hk
  have hroom := hF.room
  have hcap := hF.cap
  have hlen : ((f'.xs.drop off).take len).length = len := by simp; omega
  simp only [PV]
  refine ⟨a, len, cap, rfl, hlen.symm, by omega, by omega, by simp, ⟨fun e => absurd e h4, ⟨fun e => absurd e h4, fun e => absurd hF.sz (by omega)⟩⟩, fun hne => ?_⟩
  have hpos : 0 < len := by
    rcases Nat.eq_zero_or_pos len with h0 | h0
    · subst h0; simp at hne
    · exact h0
  refine ⟨_, _, h5 (by omega), hF.sz, PEls_of fun j x hx => ?_⟩
  have hj : j < len := by have := (List.getElem?_eq_some_iff.1 hx).1; omega
  have hx' : f'.xs[off + j]? = some x := by
    rw [List.getElem?_take, if_pos hj, List.getElem?_drop] at hx; exact hx
  obtain ⟨cur, t, c1, c2, c3⟩ := hF.cells
  obtain ⟨e1, e2⟩ := c3 (off + j) x (by omega) hx'
  have epos : (E.im k).o + (off + j - (E.im k).lo) * f'.sz = (E.im k).o + (off - (E.im k).lo) * f'.sz + j * f'.sz := by
    rw [show off + j - (E.im k).lo = (off - (E.im k).lo) + j from by omega, Nat.add_mul]; omega
  refine ⟨e1, PCells_of fun c y hy => ?_⟩
  obtain ⟨u, u1, u2, u3⟩ := e2 c y hy
  have hcs : c < f'.sz := by have := (List.getElem?_eq_some_iff.1 hy).1; omega
  rw [epos] at u1
  refine ⟨u, ?_, ?_, u2, PV_mono (fun b o h => ⟨hok b o h, Stay.refl _ _ _⟩) _ _ u3⟩
  · cases hw : f'.wr with
    | true => exact hown hw _ _ hb.1 hb.2
    | false =>
      refine hok _ _ (.inr ⟨hb.1, hb.2, fun i hi e => absurd e (hS.sep i k hi hk), fun k' g hk' he => ?_⟩)
      have hk'' := (List.getElem?_eq_some_iff.1 hk').1
      have := hS.injf k' k hk'' hk he
      subst this
      have : g = f' := by rw [hf] at hk'; simpa using hk'.symm
      subst this
      refine ⟨hw, ?_⟩
      rw [← epos, Nat.add_assoc]
      exact Nat.add_lt_add_left (mul_room (by omega) hcs) _
  · rw [cell_of_row _ _ _ _ _ _ c1]; exact u1
theorem flat_PV {x : AV} {v : Value} (h : VR E x v) (hf : x.flat = true) : PV E.w E.ok x v := by
  cases x <;> simp only [VR] at h <;> first | exact h | (simp [AV.flat] at hf; done) | skip
  all_goals simp only [PV]
  all_goals first
    | exact h
    | skip
  case fn f caps =>
    obtain ⟨us, rfl, hu⟩ := h
    have hc : caps = [] := by simpa [AV.flat] using hf
    subst hc
    refine ⟨us, rfl, ?_⟩
    simpa [VRs, PVs] using hu
def OkUp (E : Env) (am : Bool) (ok' : Nat → Nat → Prop) : Prop := (∀ b o, E.ok b o → ok' b o) ∧ (am = true → ∀ b o, E.base ≤ b → b < E.w.heap.size → ok' b o)
theorem frz0_sound (hS : SR E) {am : Bool} {ok' : Nat → Nat → Prop} (hok : OkUp E am ok') {x y : AV} {v : Value} (hv : VR E x v) (h : frz0 E.h am x = some y) : PV E.w ok' y v ∧ (v.oneCell' = true → True) ∧ y.isTup = false := by
  have up : ∀ {z : AV} {u : Value}, PV E.w E.ok z u → PV E.w ok' z u := fun hz => PV_mono (fun b o h => ⟨hok.1 b o h, Stay.refl _ _ _⟩) _ _ hz
  cases x <;> simp only [frz0] at h
  case sl k n off len =>
    split at h
    · rename_i f hf
      split at h
      · rename_i hc
        cases h
        refine ⟨sl_PV hS hv hf hc.1 hc.2.1 hok.1 (fun hw => hok.2 ?_), fun _ => trivial, rfl⟩
        have := hc.2.2; simpa [hw] using this
      · cases h
    · cases h
  case ep => cases h
  case ptr => cases h
  case agg => cases h
  case tup => cases h
  case mbox => cases h
  case rbox => cases h
  case tbox => cases h
  case bsl => cases h
  case mp b =>
    split at h
    · rename_i ks vs hb
      split at h
      · rename_i ham
        cases h
        simp only [VR] at hv
        obtain ⟨hlt, rfl⟩ := hv
        obtain ⟨es, clk, h1, h2, h3⟩ := (hS.boxes b _ hb (hlt.ne hb)).map
        have hlt' := hS.nb_lt hlt
        refine ⟨?_, fun _ => trivial, rfl⟩
        simp only [PV]
        exact ⟨E.nb b, es, clk, rfl, hok.2 ham _ _ hlt'.1 hlt'.2, h1, PVs_mono (fun b o h => ⟨hok.1 b o h, Stay.refl _ _ _⟩) _ _ h2, PVs_mono (fun b o h => ⟨hok.1 b o h, Stay.refl _ _ _⟩) _ _ h3⟩
      · cases h
    · cases h
  case fn f caps =>
    split at h
    · rename_i hc
      cases h
      refine ⟨?_, fun _ => trivial, rfl⟩
      simp only [VR] at hv
      obtain ⟨us, rfl, hu⟩ := hv
      obtain ⟨hl, hg⟩ := VRs_get hu
      simp only [PV]
      refine ⟨us, rfl, PVs_of hl fun j c u hc' hu' => ?_⟩
      obtain ⟨u', h1, h2⟩ := hg hc'
      have : u' = u := by rw [hu'] at h1; simpa using h1.symm
      subst this
      exact up (flat_PV h2 ((List.all_eq_true.1 hc) c (List.mem_of_getElem? hc')))
    · cases h
  all_goals (cases h; exact ⟨up (flat_PV hv rfl), fun _ => trivial, rfl⟩)
theorem frz0L_sound (hS : SR E) {am : Bool} {ok' : Nat → Nat → Prop} (hok : OkUp E am ok') : ∀ {xs ys : List AV} {us : List Value}, VRs E xs us → frz0L E.h am xs = some ys → PVs E.w ok' ys us
  | [], ys, us, hv, h => by simp [frz0L] at h; subst h; simpa [VRs, PVs] using hv
  | x :: xs, ys, us, hv, h => by
    simp only [frz0L, Option.bind_eq_some_iff, Option.map_eq_some_iff] at h
    obtain ⟨y, hy, ys', hys, rfl⟩ := h
    simp only [VRs] at hv
    obtain ⟨u, us', rfl, h1, h2⟩ := hv
    simp only [PVs]
    exact ⟨u, us', rfl, (frz0_sound hS hok h1 hy).1, frz0L_sound hS hok h2 hys⟩
theorem chunk_len (sz : Nat) : ∀ (n : Nat) (cs : List AV), (chunk sz cs n).length = n
  | 0, cs => rfl
  | n + 1, cs => by rw [chunk, List.length_cons, chunk_len sz n]
theorem chunk_get (sz : Nat) : ∀ (n : Nat) (cs : List AV) (j : Nat) (x : AV), (chunk sz cs n)[j]? = some x → j < n ∧ x = if sz = 1 then (cs.drop (j * sz)).headD .junk else .agg ((cs.drop (j * sz)).take sz)
  | 0, cs, j, x, h => by simp [chunk] at h
  | n + 1, cs, j, x, h => by
    rw [chunk] at h
    cases j with
    | zero => simp at h; exact ⟨by omega, by rw [← h]; simp⟩
    | succ j =>
      obtain ⟨h1, h2⟩ := chunk_get sz n _ j x (by simpa using h)
      refine ⟨by omega, ?_⟩
      rw [h2, List.drop_drop, show sz + j * sz = (j + 1) * sz from by rw [Nat.succ_mul]; omega]
theorem VRs_len {cs : List AV} {us : List Value} (h : VRs E cs us) : us.length = cs.length := (VRs_get h).1
theorem VRs_take {aas : List AV} {us : List Value} (h : VRs E aas us) (n : Nat) : VRs E (aas.take n) (us.take n) := by
  refine VRs_of (by simp [VRs_len h]) fun j c u hc hu => ?_
  rw [List.getElem?_take] at hc hu
  split at hc
  · rename_i hj
    rw [if_pos hj] at hu
    obtain ⟨u', h3, h4⟩ := (VRs_get h).2 hc
    rw [h3] at hu; cases hu; exact h4
  · cases hc
theorem VRs_drop {aas : List AV} {us : List Value} (h : VRs E aas us) (n : Nat) : VRs E (aas.drop n) (us.drop n) := by
  refine VRs_of (by simp [VRs_len h]) fun j c u hc hu => ?_
  rw [List.getElem?_drop] at hc hu
  obtain ⟨u', h3, h4⟩ := (VRs_get h).2 hc
  rw [h3] at hu; cases hu; exact h4
theorem PV_one {w : World} {ok : Nat → Nat → Prop} {x : AV} {u : Value} (h1 : PV w ok x u) (h2 : u.oneCell' = true) : x.cells = [x] := by
  cases x <;> first | rfl | (simp only [PV] at h1; obtain ⟨us, rfl, _⟩ := h1; simp [Value.oneCell'] at h2)
theorem frzC_sound (hS : SR E) {am : Bool} {ok' : Nat → Nat → Prop} (hok : OkUp E am ok') {b sz off len : Nat} {v : Value} (hv : VR E (.bsl b sz off len) v) {cs ys : List AV} {cur : Array Value} {t : TypeId} (h2 : E.w.heap[E.nb b]? = some (.cells cur t (0, 0))) (h3 : VRs E cs (cur.toList.take cs.length)) (h4 : ∀ v ∈ cur.toList, v.oneCell' = true) (ham : am = true) (hsz : 0 < sz) (hfit : off + len * sz ≤ cs.length) (hys : frz0L E.h am ((cs.drop off).take (len * sz)) = some ys) : PV E.w ok' (.vs false sz (chunk sz ys len)) v ∧ (AV.vs false sz (chunk sz ys len)).isTup = false := by
  simp only [VR] at hv
  obtain ⟨hb, cap, rfl, hlc, hcm⟩ := hv
  have hlt := hS.nb_lt hb
  have hP := frz0L_sound hS hok (VRs_take (VRs_drop h3 off) (len * sz)) hys
  obtain ⟨hl, hg⟩ := PVs_get hP
  have hcl : (cur.toList.take cs.length).length = cs.length := VRs_len h3
  rw [List.length_take] at hcl
  have hyl : ys.length = len * sz := by rw [← hl, List.length_take, List.length_drop, List.length_take]; omega
  have hcell : ∀ (q : Nat) (c : AV), ys[q]? = some c → ∃ u, ok' (E.nb b) (off + q) ∧ E.w.cell? ⟨E.nb b, off + q, none⟩ = some u ∧ u.oneCell' = true ∧ PV E.w ok' c u := by
    intro q c hq
    obtain ⟨u, h5, h6⟩ := hg hq
    have hq' := (List.getElem?_eq_some_iff.1 hq).1
    rw [List.getElem?_take, if_pos (by omega), List.getElem?_drop, List.getElem?_take, if_pos (by omega)] at h5
    refine ⟨u, hok.2 ham _ _ hlt.1 hlt.2, ?_, h4 u (List.mem_of_getElem? h5), h6⟩
    rw [cell_of_row _ _ _ _ _ _ h2]
    simpa using h5
  refine ⟨?_, rfl⟩
  simp only [PV]
  refine ⟨_, len, cap, rfl, (chunk_len sz len ys).symm, hlc, hcm, by simp, ⟨(fun e => nomatch e), ⟨(fun e => nomatch e), fun e => absurd hsz (by omega)⟩⟩, fun _ => ⟨_, _, rfl, hsz, PEls_of fun j x hx => ?_⟩⟩
  obtain ⟨hj, hxe⟩ := chunk_get sz len ys j x hx
  have hjs : (j + 1) * sz ≤ len * sz := Nat.mul_le_mul_right _ hj
  rw [Nat.succ_mul] at hjs
  by_cases h1 : sz = 1
  · subst h1
    rw [if_pos rfl] at hxe
    have hx0 : ys[j * 1]? = some x := by
      rw [hxe, ← List.head?_drop]
      cases hd : ys.drop (j * 1) with
      | nil => have := congrArg List.length hd; simp at this; omega
      | cons a l => rfl
    obtain ⟨u, k1, k2, k3, k4⟩ := hcell _ _ hx0
    have hxc := PV_one k4 k3
    refine ⟨by rw [hxc]; rfl, ?_⟩
    rw [hxc]
    simp only [PCells]
    exact ⟨⟨u, k1, k2, k3, k4⟩, trivial⟩
  · rw [if_neg h1] at hxe
    subst hxe
    refine ⟨by simp only [AV.cells, List.length_take, List.length_drop]; omega, PCells_of fun q c hq => ?_⟩
    simp only [AV.cells] at hq
    have hq' : q < sz := by have := (List.getElem?_eq_some_iff.1 hq).1; rw [List.length_take] at this; omega
    rw [List.getElem?_take, if_pos hq', List.getElem?_drop] at hq
    obtain ⟨u, k⟩ := hcell _ _ hq
    rw [show off + (j * sz + q) = off + j * sz + q from by omega] at k
    exact ⟨u, k⟩
theorem frzB_sound (hS : SR E) {am : Bool} {ok' : Nat → Nat → Prop} (hok : OkUp E am ok') {b sz off len : Nat} {y : AV} {v : Value} (hv : VR E (.bsl b sz off len) v) (h : frzB E.h am b sz off len = some y) : PV E.w ok' y v ∧ y.isTup = false := by
  unfold frzB at h
  split at h
  case h_2 => cases h
  rename_i cs hcs
  split at h
  · rename_i hc
    obtain ⟨ham, hmb, hsz, hfit⟩ := hc
    simp only [Option.map_eq_some_iff] at h
    obtain ⟨ys, hys, rfl⟩ := h
    obtain ⟨cur, t, h2, h3, h4⟩ := (hS.boxes b cs hcs (isHole_row hmb)).row hmb
    exact frzC_sound hS hok hv h2 (VRs_all h3) h4 ham hsz hfit hys
  · unfold frzT at h
    split at h
    · rename_i ys hbc
      unfold boxC at hbc
      split at hbc
      · cases hbc
        split at h
        · rename_i hc
          obtain ⟨ham, hsz, hfit⟩ := hc
          simp only [Option.map_eq_some_iff] at h
          obtain ⟨zs, hzs, rfl⟩ := h
          obtain ⟨cur, h2, h3, h4⟩ := (hS.boxes b _ hcs rfl).typ
          exact frzC_sound hS hok hv h2 h3 h4 ham hsz hfit hzs
        · cases h
      · cases hbc
    · cases h
theorem frz1_frz0 (h : AH) (am : Bool) {x : AV} (hb : ∀ b sz off len, x ≠ .bsl b sz off len) : frz1 h am x = frz0 h am x := by
  cases x <;> first | rfl | exact absurd rfl (hb _ _ _ _)
theorem frz1_sound (hS : SR E) {am : Bool} {ok' : Nat → Nat → Prop} (hok : OkUp E am ok') {x y : AV} {v : Value} (hv : VR E x v) (h : frz1 E.h am x = some y) : PV E.w ok' y v ∧ (v.oneCell' = true → True) ∧ y.isTup = false := by
  by_cases hb : ∃ b sz off len, x = .bsl b sz off len
  · obtain ⟨b, sz, off, len, rfl⟩ := hb
    simp only [frz1] at h
    have := frzB_sound hS hok hv h
    exact ⟨this.1, fun _ => trivial, this.2⟩
  · rw [frz1_frz0 _ _ fun b sz off len e => hb ⟨b, sz, off, len, e⟩] at h
    exact frz0_sound hS hok hv h
theorem frzL_sound (hS : SR E) {am : Bool} {ok' : Nat → Nat → Prop} (hok : OkUp E am ok') : ∀ {xs ys : List AV} {us : List Value}, VRs E xs us → frzL E.h am xs = some ys → PVs E.w ok' ys us
  | [], ys, us, hv, h => by simp [frzL] at h; subst h; simpa [VRs, PVs] using hv
  | x :: xs, ys, us, hv, h => by
    simp only [frzL, Option.bind_eq_some_iff, Option.map_eq_some_iff] at h
    obtain ⟨y, hy, ys', hys, rfl⟩ := h
    simp only [VRs] at hv
    obtain ⟨u, us', rfl, h1, h2⟩ := hv
    simp only [PVs]
    exact ⟨u, us', rfl, (frz1_sound hS hok h1 hy).1, frzL_sound hS hok h2 hys⟩
theorem frz_sound (hS : SR E) {am : Bool} {ok' : Nat → Nat → Prop} (hok : OkUp E am ok') {x y : AV} {v : Value} (hv : VR E x v) (h : frz E.h am x = some y) : PV E.w ok' y v ∧ y.isTup = false := by
  unfold frz at h
  split at h
  · rename_i cs
    simp only [Option.map_eq_some_iff] at h
    obtain ⟨ys, hys, rfl⟩ := h
    simp only [VR] at hv
    obtain ⟨us, rfl, h1, h2⟩ := hv
    simp only [PV]
    exact ⟨⟨us, rfl, h1, frzL_sound hS hok h2 hys⟩, rfl⟩
  · have := frz1_sound hS hok hv h
    exact ⟨this.1, this.2.2⟩
theorem frzAll_sound (hS : SR E) {am : Bool} {ok' : Nat → Nat → Prop} (hok : OkUp E am ok') : ∀ {xs ys : List AV} {us : List Value}, VRs E xs us → frzAll E.h am xs = some ys → PVs E.w ok' ys us
  | [], ys, us, hv, h => by simp [frzAll] at h; subst h; simpa [VRs, PVs] using hv
  | x :: xs, ys, us, hv, h => by
    simp only [frzAll, Option.bind_eq_some_iff, Option.map_eq_some_iff] at h
    obtain ⟨y, hy, ys', hys, rfl⟩ := h
    simp only [VRs] at hv
    obtain ⟨u, us', rfl, h1, h2⟩ := hv
    simp only [PVs]
    exact ⟨u, us', rfl, (frz_sound hS hok h1 hy).1, frzAll_sound hS hok h2 hys⟩
theorem frzRes_sound (hS : SR E) {ok' : Nat → Nat → Prop} (hok : OkUp E true ok') {x y : AV} {v : Value} (hv : VR E x v) (h : frzRes E.h x = some y) : PV E.w ok' y v := by
  unfold frzRes at h
  split at h
  · rename_i vs
    simp only [Option.map_eq_some_iff] at h
    obtain ⟨ys, hys, rfl⟩ := h
    simp only [VR] at hv
    obtain ⟨us, rfl, h2⟩ := hv
    simp only [PV]
    exact ⟨us, rfl, frzAll_sound hS hok h2 hys⟩
  · exact (frz_sound hS hok hv h).1
def CellsV (E : Env) (b o : Nat) (cs : List AV) : Prop :=
  ∀ (j : Nat) (c : AV), cs[j]? = some c → ∃ u, E.w.cell? ⟨b, o + j, none⟩ = some u ∧ u.oneCell' = true ∧ VR E c u
theorem CellsV.drop {b o n : Nat} {cs : List AV} (h : CellsV E b o cs) : CellsV E b (o + n) (cs.drop n) := by
  intro j c hc
  rw [List.getElem?_drop] at hc
  have := h (n + j) c hc
  rwa [show o + (n + j) = o + n + j from by omega] at this
theorem CellsV_of_PCells {b o : Nat} {cs : List AV} (h : PCells E.w E.ok b o cs) : CellsV E b o cs := by
  intro j c hc
  obtain ⟨u, _, h2, h3, h4⟩ := PCells_get h hc
  exact ⟨u, h2, h3, VR_of_PV _ _ h4⟩
theorem loadA_cells (hS : SR E) {agg : Bool} {n : Nat} {x r : AV} {v : Value} (hv : VR E x v) (h : loadA E.h agg n x = some r) :
    ∃ b o cs, v = .pointer (some ⟨b, o, none⟩) ∧ CellsV E b o cs ∧ ofCells agg n cs = some r := by
  cases x <;> simp only [loadA] at h <;> try (cases h; done)
  case pv cs =>
    simp only [VR, PV] at hv
    obtain ⟨b, o, rfl, hc⟩ := hv
    exact ⟨b, o, cs, rfl, CellsV_of_PCells hc, h⟩
  case ptr b off =>
    split at h
    · rename_i cs hcs
      simp only [VR] at hv
      obtain ⟨hlv, rfl⟩ := hv
      by_cases hmb1 : isMB cs = true
      · rw [if_pos hmb1] at h
        unfold rdRo at h
        split at h
        · rename_i ys
          obtain ⟨_, hb⟩ := hS.boxes b _ hcs rfl
          rcases hb with ⟨cur, t, h2, h3, h4⟩ | ⟨ks, vs, es, clk, e, _⟩ | ⟨ys', cur, t, e, h2, h3, h4⟩ | ⟨T, ys', cur, e, _⟩
          · exfalso
            simp only [VRs, VR, false_and, and_false, exists_false, exists_const] at h3
          · cases e
          rotate_left
          · cases e
          · cases e
            refine ⟨E.nb b, 0 + off, ys.drop off, by simp, CellsV.drop ?_, h⟩
            obtain ⟨hl, hg⟩ := PVs_get h3
            intro j c hc
            obtain ⟨u, h5, h6⟩ := hg hc
            refine ⟨u, ?_, h4 u (List.mem_of_getElem? h5), VR_of_PV _ _ h6⟩
            rw [Nat.zero_add, cell_of_row _ _ _ _ _ _ h2]
            simpa using h5
        · rename_i T ys
          obtain ⟨cur, h2, h3, h4⟩ := (hS.boxes b _ hcs rfl).typ
          refine ⟨E.nb b, 0 + off, ys.drop off, by simp, CellsV.drop ?_, h⟩
          obtain ⟨hl, hg⟩ := VRs_get h3
          intro j c hc
          obtain ⟨u, h5, h6⟩ := hg hc
          rw [List.getElem?_take] at h5
          split at h5
          case isFalse => cases h5
          refine ⟨u, ?_, h4 u (List.mem_of_getElem? h5), h6⟩
          rw [Nat.zero_add, cell_of_row _ _ _ _ _ _ h2]
          simpa using h5
        · cases h
      have hmb : isMB cs = false := by simpa using hmb1
      rw [hmb, if_neg (by simp)] at h
      obtain ⟨cur, t, h2, h3, h4⟩ := (hS.boxes b cs hcs (isHole_row hmb)).row hmb
      refine ⟨E.nb b, 0 + off, cs.drop off, by simp, CellsV.drop ?_, h⟩
      obtain ⟨hl, hg⟩ := VRs_get h3
      intro j c hc
      obtain ⟨u, h5, h6⟩ := hg hc
      refine ⟨u, ?_, h4 u (List.mem_of_getElem? h5), h6⟩
      rw [Nat.zero_add, cell_of_row _ _ _ _ _ _ h2]
      simpa using h5
    · cases h
  case ep k m i c sz =>
    split at h
    · rename_i f hf
      split at h
      · rename_i hm
        split at h
        · rename_i y hy
          simp only [VR] at hv
          obtain ⟨b, o, f', rfl, hf', _, hc⟩ := hv
          have : f' = f := by rw [hf] at hf'; simpa using hf'.symm
          subst this
          obtain ⟨hlo, hbo⟩ := hc hm
          rw [hbo]
          obtain ⟨cur, t, c1, c2, c3⟩ := (hS.fams k f' hf).cells
          obtain ⟨e1, e2⟩ := c3 i y hlo hy
          refine ⟨_, _, y.cells.drop c, rfl, CellsV.drop ?_, h⟩
          intro j z hz
          obtain ⟨u, u1, u2, u3⟩ := e2 j z hz
          exact ⟨u, by rw [cell_of_row _ _ _ _ _ _ c1]; exact u1, u2, VR_of_PV _ _ u3⟩
        · cases h
      · cases h
    · cases h
theorem add_addr (b o j : Nat) : (⟨b, o, none⟩ : Addr).add j = ⟨b, o + j, none⟩ := by unfold Addr.add; split <;> simp_all
theorem run_load_cells {P : Program} {t : TypeId} {agg : Bool} {n b o : Nat} {cs : List AV} {r : AV} (hc : CellsV E b o cs) (h : ofCells agg n cs = some r)
    (ha : Program.agg? P t = some agg) (hn : Program.size? P t = some n) : ∃ v, (loadVar t ⟨b, o, none⟩).run P E.w = .ok v E.w ∧ VR E r v := by
  have hisAgg : (isAgg t).run P E.w = .ok agg E.w := by
    unfold Program.agg? at ha
    unfold isAgg underlying
    split at ha <;> simp_all
  have hsize : (sizeOf t).run P E.w = .ok n E.w := by
    unfold Program.size? at hn
    unfold sizeOf typeInfo
    simp only [Option.map_eq_some_iff] at hn
    obtain ⟨i, hi, rfl⟩ := hn
    simp [hi]
  cases agg with
  | true =>
    simp only [ofCells] at h
    split at h
    · rename_i hle
      cases h
      have hex : ∀ j, j < n → ∃ u, E.w.cell? ⟨b, o + j, none⟩ = some u ∧ u.oneCell' = true ∧ VR E (cs.getD j default) u := by
        intro j hj
        have hj' : cs[j]? = some (cs.getD j default) := by simp [List.getD, List.getElem?_eq_getElem (show j < cs.length by omega)]
        exact hc j _ hj'
      have hpick : ∃ g : Nat → Value, ∀ j, j < n → E.w.cell? ⟨b, o + j, none⟩ = some (g j) ∧ (g j).oneCell' = true ∧ VR E (cs.getD j default) (g j) := by
        refine ⟨fun j => if hj : j < n then Classical.choose (hex j hj) else default, fun j hj => ?_⟩
        simp only [hj, dif_pos]
        exact Classical.choose_spec (hex j hj)
      obtain ⟨g, hg⟩ := hpick
      have hl := run_loadCells (P := P) E.w ⟨b, o, none⟩ n g (fun j hj => by rw [add_addr]; exact (hg j hj).1)
      refine ⟨.agg (List.map g (List.range n)).toArray, ?_, ?_⟩
      · unfold loadVar
        simp only [Sem.run_bind, hisAgg, Result.andThen_ok, if_true, hsize, hl, Sem.run_pure]
      · simp only [VR]
        refine ⟨_, rfl, fun u hu => ?_, VRs_of (by simp; omega) fun j c u hc' hu => ?_⟩
        · simp at hu
          obtain ⟨j, hj, rfl⟩ := hu
          exact (hg j hj).2.1
        · have hj : j < n := by have := (List.getElem?_eq_some_iff.1 hc').1; simp at this; omega
          rw [List.getElem?_take, if_pos hj] at hc'
          have e1 : u = g j := by simpa [hj] using hu.symm
          have e2 : cs.getD j default = c := by simp [List.getD, hc']
          rw [e1, ← e2]
          exact (hg j hj).2.2
    · cases h
  | false =>
    simp only [ofCells] at h
    have h0 : cs[0]? = some r := by rw [← h]; cases cs <;> rfl
    obtain ⟨u, h1, _, h3⟩ := hc 0 r h0
    refine ⟨u, ?_, h3⟩
    unfold loadVar
    simp only [Sem.run_bind, hisAgg, Result.andThen_ok, Bool.false_eq_true, if_false]
    simp at h1
    simp [h1]
end
section
variable {E : Env} {P : Program} {fr : Fr} {a : Act}
def Quiet (P : Program) (a : Act) (o : Oper) (E : Env) (v : AV) : Prop := ∃ u, (execOp a.eval o).run P E.w = .ok (.value u) E.w ∧ VR E v u
theorem VR_int (k : IntKind) (n : Int) : VR E (.int k n) (.int k n) := by simp [VR]
theorem VR_bool (b : Bool) : VR E (.bool b) (.bool b) := by simp [VR]
theorem VR_str (b : ByteArray) : VR E (.str b) (.string b) := by simp [VR]
theorem eqGuard_int (op : BinOp) (t : TypeId) (x y : Operand) (k k' : IntKind) (i j : Int) (w : World) : (eqGuard op t x y (.int k i) (.int k' j)).run P w = .ok () w := by
  unfold eqGuard; cases op <;> simp
theorem eqGuard_str (op : BinOp) (t : TypeId) (x y : Operand) (i j : ByteArray) (w : World) : (eqGuard op t x y (.string i) (.string j)).run P w = .ok () w := by
  unfold eqGuard; cases op <;> simp
theorem eqGuard_bool (op : BinOp) (t : TypeId) (x y : Operand) (i j : Bool) (w : World) : (eqGuard op t x y (.bool i) (.bool j)).run P w = .ok () w := by
  unfold eqGuard; cases op <;> simp
theorem bin_int_sound {op : BinOp} {t : TypeId} {k k' : IntKind} {i j : Int} {v : AV} (w : World) (h : evalBin op (.int k i) (.int k' j) = some v) :
    ∃ u, (binOp op t (.int k i) (.int k' j)).run P w = .ok u w ∧ VR E v u := by
  cases op <;> simp only [evalBin] at h <;> try (cases h; done)
  case quo =>
    split at h
    · rename_i hk; cases h; obtain ⟨rfl, hj⟩ := hk; refine ⟨_, ?_, VR_int _ _⟩; simp [binOp, Op.intDiv, hj]
    · cases h
  case rem =>
    split at h
    · rename_i hk; cases h; obtain ⟨rfl, hj⟩ := hk; refine ⟨_, ?_, VR_int _ _⟩; simp [binOp, Op.intDiv, hj]
    · cases h
  case shl =>
    split at h
    · rename_i hk; cases h; refine ⟨_, ?_, VR_int _ _⟩; simp [binOp, Op.shift, show ¬ j < 0 from by omega]
    · cases h
  case shr =>
    split at h
    · rename_i hk; cases h; refine ⟨_, ?_, VR_int _ _⟩; simp [binOp, Op.shift, show ¬ j < 0 from by omega]
    · cases h
  all_goals
    split at h
    · rename_i hk; cases h; subst hk; first | (refine ⟨_, ?_, VR_int _ _⟩; simp [binOp, Op.intArith, Op.intBits]; done) | (refine ⟨_, ?_, VR_bool _⟩; simp [binOp, Op.intCmp]; done)
    · cases h
theorem bin_str_sound {op : BinOp} {t : TypeId} {i j : ByteArray} {v : AV} (w : World) (h : evalBin op (.str i) (.str j) = some v) :
    ∃ u, (binOp op t (.string i) (.string j)).run P w = .ok u w ∧ VR E v u := by
  cases op <;> simp only [evalBin] at h <;> try (cases h; done)
  case add =>
    split at h
    · cases h
    · rename_i hk; cases h; refine ⟨_, ?_, VR_str _⟩; simp only [binOp, Op.stringOp, hk, if_false, Sem.run_pure]
  all_goals (cases h; refine ⟨_, ?_, VR_bool _⟩; simp [binOp, Op.stringOp])
theorem bin_sound {op : BinOp} {t : TypeId} {x y : AV} {v : AV} {xv yv : Value} (hx : VR E x xv) (hy : VR E y yv) (px py : Operand) (w : World) (h : evalBin op x y = some v) :
    ∃ u, (do eqGuard op t px py xv yv; binOp op t xv yv : Sem Value).run P w = .ok u w ∧ VR E v u := by
  cases x <;> cases y <;> try (simp [evalBin] at h; done)
  · simp only [VR] at hx hy; subst hx; subst hy
    obtain ⟨u, h1, h2⟩ := bin_int_sound (E := E) (P := P) (t := t) w h
    exact ⟨u, by simp [eqGuard_int, h1], h2⟩
  · simp only [VR] at hx hy; subst hx; subst hy
    obtain ⟨u, h1, h2⟩ := bin_str_sound (E := E) (P := P) (t := t) w h
    exact ⟨u, by simp [eqGuard_str, h1], h2⟩
theorem run_under {t : TypeId} {d : TypeDesc} (h : P.underlying t = some d) (w : World) : (underlying t).run P w = .ok d w := by unfold underlying; simp [h]
theorem run_size {t : TypeId} {n : Nat} (h : Program.size? P t = some n) (w : World) : (sizeOf t).run P w = .ok n w := by
  unfold Program.size? at h
  simp only [Option.map_eq_some_iff] at h
  obtain ⟨i, hi, rfl⟩ := h
  unfold sizeOf typeInfo
  simp [hi]
theorem equalIn_bool {t : TypeId} (ht : P.underlying t = some .bool) (d : Nat) (i j : Bool) (w : World) : (Op.equalIn (d + 1) t (.bool i) (.bool j)).run P w = .ok (i == j) w := by
  simp [Op.equalIn, run_under ht]
theorem beq_sound {neg : Bool} {t : TypeId} {i j : Bool} (ht : P.underlying t = some .bool) (px py : Operand) (w : World) :
    (do eqGuard (if neg then .neq else .eql) t px py (.bool i) (.bool j); binOp (if neg then .neq else .eql) t (.bool i) (.bool j) : Sem Value).run P w = .ok (.bool (if neg then !(i == j) else i == j)) w := by
  have h : (Op.equal t (.bool i) (.bool j)).run P w = .ok (i == j) w := equalIn_bool ht 9999 i j w
  cases neg <;> simp only [if_true, if_false, Bool.false_eq_true, Sem.run_bind, eqGuard_bool, Result.andThen_ok, binOp, h, Sem.run_pure]
theorem equalIn_nil {t e : TypeId} {ad : Option Addr} {len cap : Nat} (ht : P.underlying t = some (.slice e)) (d : Nat) (w : World) : (Op.equalIn (d + 1) t (.slice ad len cap) (.slice none 0 0)).run P w = .ok ad.isNone w := by
  cases ad <;> simp [Op.equalIn, run_under ht]
theorem nileq_sound {neg : Bool} {t e : TypeId} {ad : Option Addr} {len cap : Nat} (ht : P.underlying t = some (.slice e)) (px py : Operand) (w : World) :
    (do eqGuard (if neg then .neq else .eql) t px py (.slice ad len cap) (.slice none 0 0); binOp (if neg then .neq else .eql) t (.slice ad len cap) (.slice none 0 0) : Sem Value).run P w = .ok (.bool (if neg then !ad.isNone else ad.isNone)) w := by
  have h : (Op.equal t (.slice ad len cap) (.slice none 0 0)).run P w = .ok ad.isNone w := equalIn_nil ht 9999 w
  have g : (eqGuard (if neg then .neq else .eql) t px py (.slice ad len cap) (.slice none 0 0)).run P w = .ok () w := by
    unfold eqGuard; cases neg <;> simp
  cases neg <;> simp only [if_true, if_false, Bool.false_eq_true, Sem.run_bind, Result.andThen_ok, binOp, h, Sem.run_pure] at g ⊢ <;> simp only [g, Result.andThen_ok, h, Sem.run_bind, Sem.run_pure]
theorem bound_sound (hf : FR E fr a.tmps) {x : Option Operand} {y : Option Opd} (hr : resOpt x = some y) {r : Option Int} (h : boundA fr y = some r) :
    (r = none ∧ x.map a.eval = none) ∨ ∃ k i, r = some i ∧ x.map a.eval = some (.int k i) := by
  cases x with
  | none => simp [resOpt] at hr; subst hr; simp [boundA] at h; subst h; exact .inl ⟨rfl, rfl⟩
  | some x =>
    simp only [resOpt, Option.map_eq_some_iff] at hr
    obtain ⟨z, hz, rfl⟩ := hr
    have hv := opd_sound hf hz
    simp only [boundA] at h
    split at h
    · rename_i k i hg
      cases h
      rw [hg] at hv
      simp only [VR] at hv
      exact .inr ⟨k, i, rfl, by simp [hv]⟩
    · cases h
theorem run_sliceBound {k : IntKind} {i : Int} {y : Nat} {code : Go.BoundsCode} (w : World) (h0 : 0 ≤ i) (h1 : i ≤ y) : (Instr.sliceBound (.int k i) y code).run P w = .ok i.toNat w := by
  unfold Instr.sliceBound; simp [asIntOf, h0, h1]
theorem sliceBounds_none {b : Bool} {len cap : Nat} {lo hi : Option Value} {l h : Option Int} (w : World) (hl : (l = none ∧ lo = none) ∨ ∃ k i, l = some i ∧ lo = some (.int k i)) (hh : (h = none ∧ hi = none) ∨ ∃ k i, h = some i ∧ hi = some (.int k i))
    (h0 : 0 ≤ l.getD 0) (h1 : l.getD 0 ≤ h.getD len) (h2 : h.getD len ≤ len) (hc : len ≤ cap) :
    (Instr.sliceBounds b len cap lo hi none).run P w = .ok ((l.getD 0).toNat, (h.getD len).toNat, cap) w := by
  unfold Instr.sliceBounds
  rcases hl with ⟨rfl, rfl⟩ | ⟨k, i, rfl, rfl⟩ <;> rcases hh with ⟨rfl, rfl⟩ | ⟨k', j, rfl, rfl⟩ <;> simp only [Option.getD_none, Option.getD_some] at h0 h1 h2 ⊢
  · simp
  · cases b <;> simp [run_sliceBound w (show (0 : Int) ≤ j by omega) (show j ≤ (cap : Int) by omega)]
  · simp [run_sliceBound w h0 (show i ≤ (len : Int) by omega)]
  · have e : i ≤ ((j.toNat : Nat) : Int) := by omega
    cases b <;> simp [run_sliceBound w (show (0 : Int) ≤ j by omega) (show j ≤ (cap : Int) by omega), run_sliceBound w h0 e]
theorem sliceBounds_cap {len cap : Nat} {lo hi : Option Value} {l h : Option Int} (w : World) (hl : (l = none ∧ lo = none) ∨ ∃ k i, l = some i ∧ lo = some (.int k i)) (hh : (h = none ∧ hi = none) ∨ ∃ k i, h = some i ∧ hi = some (.int k i))
    (h0 : 0 ≤ l.getD 0) (h1 : l.getD 0 ≤ h.getD len) (h2 : h.getD len ≤ cap) :
    (Instr.sliceBounds true len cap lo hi none).run P w = .ok ((l.getD 0).toNat, (h.getD len).toNat, cap) w := by
  unfold Instr.sliceBounds
  rcases hl with ⟨rfl, rfl⟩ | ⟨k, i, rfl, rfl⟩ <;> rcases hh with ⟨rfl, rfl⟩ | ⟨k', j, rfl, rfl⟩ <;> simp only [Option.getD_none, Option.getD_some] at h0 h1 h2 ⊢
  · simp
  · simp [run_sliceBound w (show (0 : Int) ≤ j by omega) (show j ≤ (cap : Int) by omega)]
  · simp [run_sliceBound w h0 (show i ≤ (len : Int) by omega)]
  · have e : i ≤ ((j.toNat : Nat) : Int) := by omega
    simp [run_sliceBound w (show (0 : Int) ≤ j by omega) (show j ≤ (cap : Int) by omega), run_sliceBound w h0 e]
theorem sliceBounds_some {b : Bool} {len cap : Nat} {lo hi mx : Option Value} {l h : Option Int} {m : Int} (w : World) (hl : (l = none ∧ lo = none) ∨ ∃ k i, l = some i ∧ lo = some (.int k i)) (hh : (h = none ∧ hi = none) ∨ ∃ k i, h = some i ∧ hi = some (.int k i))
    (hm : ∃ k, mx = some (.int k m)) (hs : h.isSome = true)
    (h0 : 0 ≤ l.getD 0) (h1 : l.getD 0 ≤ h.getD len) (h2 : h.getD len ≤ m) (hc : m ≤ cap) :
    (Instr.sliceBounds b len cap lo hi mx).run P w = .ok ((l.getD 0).toNat, (h.getD len).toNat, m.toNat) w := by
  unfold Instr.sliceBounds
  obtain ⟨km, rfl⟩ := hm
  rcases hh with ⟨rfl, rfl⟩ | ⟨k', j, rfl, rfl⟩
  · simp at hs
  simp only [Option.getD_some] at h1 h2 ⊢
  have em : j ≤ ((m.toNat : Nat) : Int) := by omega
  rcases hl with ⟨rfl, rfl⟩ | ⟨k, i, rfl, rfl⟩ <;> simp only [Option.getD_none, Option.getD_some] at h0 h1 ⊢
  · cases b <;> simp [run_sliceBound w (show (0 : Int) ≤ m by omega) hc, run_sliceBound w (show (0 : Int) ≤ j by omega) em]
  · have e : i ≤ ((j.toNat : Nat) : Int) := by omega
    cases b <;> simp [run_sliceBound w (show (0 : Int) ≤ m by omega) hc, run_sliceBound w (show (0 : Int) ≤ j by omega) em, run_sliceBound w h0 e]
end
section
variable {E : Env} {P : Program} {fr : Fr} {a : Act} {o : Oper}
theorem q_mov {x : Operand} {y : Opd} (hf : FR E fr a.tmps) (ho : o.op = .move x ∨ o.op = .assign x) (hx : resOpd x = some y) : Quiet P a o E (get fr y) := by
  refine ⟨a.eval x, ?_, opd_sound hf hx⟩
  rcases ho with ho | ho <;> simp [execOp, ho]
theorem q_pick {c x y : Operand} {c' x' y' : Opd} {t : Bool} (hf : FR E fr a.tmps) (ho : o.op = .pick c x y) (hc : resOpd c = some c') (hx : resOpd x = some x') (hy : resOpd y = some y') (hg : get fr c' = .bool t) :
    Quiet P a o E (if t then get fr x' else get fr y') := by
  have h := opd_sound hf hc
  rw [hg] at h
  simp only [VR] at h
  refine ⟨if t then a.eval x else a.eval y, ?_, ?_⟩
  · cases t <;> simp [execOp, ho, h, asBool]
  · cases t
    · exact opd_sound hf hy
    · exact opd_sound hf hx
theorem q_ld {t : TypeId} {x : Operand} {x' : Opd} {b : Bool} {n : Nat} {v : AV} (hS : SR E) (hf : FR E fr a.tmps) (ho : o.op = .load t x) (hb : Program.agg? P t = some b) (hn : Program.size? P t = some n) (hx : resOpd x = some x')
    (h : loadA E.h b n (get fr x') = some v) : Quiet P a o E v := by
  obtain ⟨bl, of, cs, e1, e2, e3⟩ := loadA_cells hS (opd_sound hf hx) h
  obtain ⟨u, h1, h2⟩ := run_load_cells (P := P) e2 e3 hb hn
  exact ⟨u, by simp [execOp, ho, Instr.loadAt, Instr.sureAddr, e1, h1], h2⟩
theorem q_nilck {x : Operand} {x' : Opd} {v : AV} (hf : FR E fr a.tmps) (ho : o.op = .nilCheck x) (hx : resOpd x = some x')
    (h : (match get fr x' with | .pv cs => some (AV.pv cs, E.h) | .ptr b o => some (.ptr b o, E.h) | .ep k n i q s => some (.ep k n i q s, E.h) | .fn f cs => some (.fn f cs, E.h) | _ => none) = some (v, E.h)) : Quiet P a o E v := by
  have hv := opd_sound hf hx
  refine ⟨a.eval x, ?_, ?_⟩
  · split at h
    · rename_i hg; rw [hg] at hv; simp only [VR, PV] at hv; obtain ⟨b, o', e, _⟩ := hv; simp [execOp, ho, e]
    · rename_i hg; rw [hg] at hv; simp only [VR] at hv; obtain ⟨_, e⟩ := hv; simp [execOp, ho, e]
    · rename_i hg; rw [hg] at hv; simp only [VR] at hv; obtain ⟨a', o', f, e, _⟩ := hv; simp [execOp, ho, e]
    · rename_i hg; rw [hg] at hv; simp only [VR] at hv; obtain ⟨us, e, _⟩ := hv; simp [execOp, ho, e]
    · cases h
  · split at h <;> first | (cases h; done) | (rename_i hg; rw [hg] at hv; simp at h; rw [← h]; exact hv)
theorem q_bin {op : BinOp} {t t' : TypeId} {x y : Operand} {x' y' : Opd} {v : AV} (hf : FR E fr a.tmps) (ho : o.op = .binOp op t x y t') (hx : resOpd x = some x') (hy : resOpd y = some y')
    (h : evalBin op (get fr x') (get fr y') = some v) : Quiet P a o E v := by
  obtain ⟨u, h1, h2⟩ := bin_sound (P := P) (t := t) (opd_sound hf hx) (opd_sound hf hy) x y E.w h
  refine ⟨u, ?_, h2⟩
  simp only [execOp, ho, Sem.run_bind] at h1 ⊢
  rw [h1]
  rfl
theorem q_beq {neg : Bool} {t t' : TypeId} {x y : Operand} {x' y' : Opd} {i j : Bool} (hf : FR E fr a.tmps) (ho : o.op = .binOp (if neg then .neq else .eql) t x y t') (ht : P.underlying t = some .bool) (hx : resOpd x = some x') (hy : resOpd y = some y')
    (hi : get fr x' = .bool i) (hj : get fr y' = .bool j) : Quiet P a o E (.bool (if neg then !(i == j) else i == j)) := by
  have e1 := opd_sound hf hx
  have e2 := opd_sound hf hy
  rw [hi] at e1; rw [hj] at e2
  simp only [VR] at e1 e2
  refine ⟨_, ?_, VR_bool _⟩
  have h := beq_sound (neg := neg) (i := i) (j := j) ht x y E.w
  simp only [execOp, ho, Sem.run_bind, e1, e2] at h ⊢
  rw [h]
  rfl
theorem q_nileq {neg : Bool} {t e t' : TypeId} {x y : Operand} {x' : Opd} {full : Bool} {z : Nat} {xs : List AV} (hf : FR E fr a.tmps) (ho : o.op = .binOp (if neg then .neq else .eql) t x y t') (ht : P.underlying t = some (.slice e)) (hx : resOpd x = some x') (hy : resOpd y = some (.c (.vs true 0 [])))
    (hi : get fr x' = .vs full z xs) : Quiet P a o E (.bool (if neg then !(z == 0) else z == 0)) := by
  have e1 := opd_sound hf hx
  have e2 := opd_sound hf hy
  rw [hi] at e1
  simp only [get, VR, PV] at e1 e2
  obtain ⟨ad, len, cap, e3, e4, e5, e6, e7, e8, e9⟩ := e1
  obtain ⟨ad', len', cap', k3, k4, k5, k6, k7, k8, k9⟩ := e2
  obtain rfl : ad' = none := k8.2.2 trivial
  obtain rfl : len' = 0 := k4
  obtain rfl : cap' = 0 := k8.1 rfl
  refine ⟨_, ?_, VR_bool _⟩
  have h := nileq_sound (neg := neg) (ad := ad) (len := len) (cap := cap) ht x y E.w
  have hz : ad.isNone = (z == 0) := by
    cases ad with
    | none => simp [e8.2.1 rfl]
    | some a => have : z ≠ 0 := fun hz => by have := e8.2.2 hz; cases this
                simp [this]
  rw [hz] at h
  simp only [execOp, ho, Sem.run_bind, e3, k3] at h ⊢
  rw [h]
  rfl
theorem q_nilno {neg : Bool} {t e t' : TypeId} {x y : Operand} {x' : Opd} {ad : Addr} {len cap : Nat} (hf : FR E fr a.tmps) (ho : o.op = .binOp (if neg then .neq else .eql) t x y t') (ht : P.underlying t = some (.slice e)) (hx : resOpd x = some x') (hy : resOpd y = some (.c (.vs true 0 [])))
    (hi : a.eval x = .slice (some ad) len cap) : Quiet P a o E (.bool neg) := by
  have e2 := opd_sound hf hy
  simp only [get, VR, PV] at e2
  obtain ⟨ad', len', cap', k3, k4, k5, k6, k7, k8, k9⟩ := e2
  obtain rfl : ad' = none := k8.2.2 trivial
  obtain rfl : len' = 0 := k4
  obtain rfl : cap' = 0 := k8.1 rfl
  refine ⟨_, ?_, VR_bool _⟩
  have h := nileq_sound (neg := neg) (ad := some ad) (len := len) (cap := cap) ht x y E.w
  simp only [Option.isNone_some, Bool.not_false] at h
  have hb : (if neg = true then true else false) = neg := by cases neg <;> rfl
  rw [hb] at h
  simp only [execOp, ho, Sem.run_bind, hi, k3] at h ⊢
  rw [h]
  rfl
theorem q_nq {neg : Bool} {t e t' : TypeId} {x y : Operand} {x' : Opd} {v : AV} {h1 : AH} (hf : FR E fr a.tmps) (ho : o.op = .binOp (if neg then .neq else .eql) t x y t') (ht : P.underlying t = some (.slice e)) (hx : resOpd x = some x') (hy : resOpd y = some (.c (.vs true 0 [])))
    (hi : nqA neg E.h (get fr x') = some (v, h1)) : h1 = E.h ∧ Quiet P a o E v := by
  have e1 := opd_sound hf hx
  unfold nqA at hi
  split at hi
  · rename_i hg
    cases hi
    exact ⟨rfl, q_nileq hf ho ht hx hy hg⟩
  · rename_i hg
    split at hi
    · cases hi
    · rename_i hl
      cases hi
      rw [hg] at e1
      simp only [VR] at e1
      obtain ⟨ad, cap, f, e2, -, ⟨-, e3⟩, -⟩ := e1
      obtain ⟨b, o', rfl⟩ := e3 hl
      exact ⟨rfl, q_nilno hf ho ht hx hy e2⟩
  · rename_i hg
    cases hi
    rw [hg] at e1
    simp only [VR] at e1
    obtain ⟨-, cap, e2, -⟩ := e1
    exact ⟨rfl, q_nilno hf ho ht hx hy e2⟩
  · cases hi
theorem q_un {op : UnOp} {t : TypeId} {x : Operand} {x' : Opd} {v : AV} (hf : FR E fr a.tmps) (ho : o.op = .unOp op t x) (hx : resOpd x = some x') (h : evalUn op (get fr x') = some v) : Quiet P a o E v := by
  have hv := opd_sound hf hx
  generalize get fr x' = y at h hv
  cases y <;> cases op <;> simp only [evalUn] at h <;> cases h
  · simp only [VR] at hv
    refine ⟨_, ?_, VR_bool _⟩
    simp only [execOp, ho, hv, Op.unary, Sem.run_bind, Sem.run_pure, Result.andThen_ok]
  · simp only [VR] at hv
    refine ⟨_, ?_, VR_int _ _⟩
    simp only [execOp, ho, hv, Op.unary, Op.intArith, Sem.run_bind, Sem.run_pure, Result.andThen_ok]
theorem q_conv {s d : TypeId} {k k0 : IntKind} {x : Operand} {x' : Opd} {q : IntKind} {n : Int} (hf : FR E fr a.tmps) (ho : o.op = .convert s d x) (hs : P.underlying s = some (.int k0)) (hd : P.underlying d = some (.int k)) (hx : resOpd x = some x')
    (hg : get fr x' = .int q n) : Quiet P a o E (.int k (k.wrap n)) := by
  have hv := opd_sound hf hx
  rw [hg] at hv
  simp only [VR] at hv
  exact ⟨_, by simp [execOp, ho, convert, run_under hs, run_under hd, hv, Conv.intToInt], VR_int _ _⟩
theorem q_cstr {s d : TypeId} {x : Operand} {x' : Opd} {n : ByteArray} (hf : FR E fr a.tmps) (ho : o.op = .convert s d x) (hs : P.underlying s = some .string) (hd : P.underlying d = some .string) (hx : resOpd x = some x')
    (hg : get fr x' = .str n) : Quiet P a o E (.str n) := by
  have hv := opd_sound hf hx
  rw [hg] at hv
  simp only [VR] at hv
  exact ⟨_, by simp [execOp, ho, convert, run_under hs, run_under hd, hv], VR_str _⟩
theorem q_clos {f : FuncId} {first caps : Array Operand} {cs : List Opd} (hf : FR E fr a.tmps) (ho : o.op = .makeFunc (.func f) first caps) (h0 : first.size = 0) (hc : mapO resOpd caps.toList = some cs) :
    Quiet P a o E (.fn f (cs.map (get fr))) := by
  have : first = #[] := Array.size_eq_zero_iff.1 h0
  subst this
  refine ⟨.func (.func f) #[] (caps.map a.eval), by simp [execOp, ho, Instr.makeFunc], ?_⟩
  simp only [VR]
  exact ⟨_, rfl, opds_sound hf hc⟩
theorem q_faddr {s : TypeId} {x : Operand} {x' : Opd} {i n : Nat} {fs : Array Field} {f : Field} {v : AV} (hf : FR E fr a.tmps) (ho : o.op = .fieldAddr s x i) (hs : P.underlying s = some (.struct fs)) (hi : fs[i]? = some f)
    (hn : Program.size? P f.type = some n) (hpos : 0 < n) (hx : resOpd x = some x')
    (h : (match get fr x' with | .pv cs => some (AV.pv (cs.drop f.offset), E.h) | .ptr b o => some (.ptr b (o + f.offset), E.h) | .ep k n i q s => some (.ep k n i (q + f.offset) s, E.h) | _ => none) = some (v, E.h)) : Quiet P a o E v := by
  have hv := opd_sound hf hx
  have hp : ∀ b q, (fieldPlace ⟨b, q, none⟩ f).run P E.w = .ok ⟨b, q + f.offset, none⟩ E.w := by
    intro b q
    unfold fieldPlace
    simp [run_size hn, show ¬ n = 0 from by omega, add_addr]
  split at h
  · rename_i cs hg
    rw [hg] at hv
    simp only [VR, PV] at hv
    obtain ⟨b, q, e, hc⟩ := hv
    simp at h; subst h
    refine ⟨.pointer (some ⟨b, q + f.offset, none⟩), by simp [execOp, ho, Instr.fieldAt, run_under hs, hi, e, Instr.sureAddr, hp], ?_⟩
    simp only [VR, PV]
    refine ⟨b, q + f.offset, rfl, PCells_of fun j c hc' => ?_⟩
    rw [List.getElem?_drop] at hc'
    have := PCells_get hc hc'
    rwa [show q + (f.offset + j) = q + f.offset + j from by omega] at this
  · rename_i b q hg
    rw [hg] at hv
    simp only [VR] at hv
    obtain ⟨hb, e⟩ := hv
    simp at h; subst h
    exact ⟨.pointer (some ⟨E.nb b, q + f.offset, none⟩), by simp [execOp, ho, Instr.fieldAt, run_under hs, hi, e, Instr.sureAddr, hp], by simp only [VR]; exact ⟨hb, trivial⟩⟩
  · rename_i k m j q sz hg
    rw [hg] at hv
    simp only [VR] at hv
    obtain ⟨b, q', g, e, hg1, hg2, hg3⟩ := hv
    simp at h; subst h
    refine ⟨.pointer (some ⟨b, q' + f.offset, none⟩), by simp [execOp, ho, Instr.fieldAt, run_under hs, hi, e, Instr.sureAddr, hp], ?_⟩
    simp only [VR]
    refine ⟨b, _, g, rfl, hg1, hg2, fun hm => ?_⟩
    obtain ⟨h1, h2⟩ := hg3 hm
    simp only [Addr.mk.injEq] at h2 ⊢
    exact ⟨h1, h2.1, by omega, trivial⟩
  · cases h
theorem run_agg {t : TypeId} {b : Bool} (ha : Program.agg? P t = some b) (w : World) : (isAgg t).run P w = .ok b w := by
  unfold Program.agg? at ha
  unfold isAgg underlying
  split at ha <;> simp_all
theorem VR_take {cs : List AV} {us : Array Value} {off n : Nat} (h : VRs E cs us.toList) (h1 : ∀ u ∈ us.toList, u.oneCell' = true) {b : Bool} {v : AV} (hv : ofCells b n (cs.drop off) = some v) :
    (b = true → VR E v (.agg (us.extract off (off + n)))) ∧ (b = false → ∃ u, us[off]? = some u ∧ VR E v u) := by
  obtain ⟨hl, hg⟩ := VRs_get h
  cases b with
  | true =>
    refine ⟨fun _ => ?_, fun h => by cases h⟩
    simp only [ofCells] at hv
    split at hv
    · rename_i hle
      cases hv
      simp only [VR]
      have hlen : us.size = cs.length := by simpa using hl
      simp at hle
      refine ⟨_, rfl, fun u hu => h1 u ?_, VRs_of (by simp; omega) fun j c u hc hu => ?_⟩
      · rw [Array.toList_extract] at hu
        exact List.mem_of_mem_drop (List.mem_of_mem_take hu)
      · have hj : j < n := by have := (List.getElem?_eq_some_iff.1 hc).1; simp at this; omega
        rw [List.getElem?_take, if_pos hj, List.getElem?_drop] at hc
        obtain ⟨u', h2, h3⟩ := hg hc
        have : u = u' := by
          have h4 : us.toList[off + j]? = some u := by
            simp only [Array.toList_extract, List.extract_eq_take_drop, List.getElem?_take, List.getElem?_drop] at hu
            split at hu
            · exact hu
            · cases hu
          rw [h4] at h2; simpa using h2
        subst this
        exact h3
    · cases hv
  | false =>
    refine ⟨fun h => by (cases h), fun _ => ?_⟩
    simp only [ofCells] at hv
    have h0 : cs[off]? = some v := by rw [← hv, List.head?_drop]
    obtain ⟨u, h2, h3⟩ := hg h0
    exact ⟨u, by simpa using h2, h3⟩
theorem q_fld {s : TypeId} {x : Operand} {x' : Opd} {i n : Nat} {fs : Array Field} {f : Field} {b : Bool} {cs : List AV} {v : AV} (hf : FR E fr a.tmps) (ho : o.op = .field s x i) (hs : P.underlying s = some (.struct fs)) (hi : fs[i]? = some f)
    (hb : Program.agg? P f.type = some b) (hn : Program.size? P f.type = some n) (hx : resOpd x = some x') (hg : get fr x' = .agg cs) (h : ofCells b n (cs.drop f.offset) = some v) : Quiet P a o E v := by
  have hv := opd_sound hf hx
  rw [hg] at hv
  simp only [VR] at hv
  obtain ⟨us, e, h1, h2⟩ := hv
  obtain ⟨t1, t2⟩ := VR_take h2 h1 h
  cases b with
  | true => exact ⟨_, by simp [execOp, ho, Instr.field, run_under hs, hi, e, asAgg, part, run_agg hb, run_size hn], t1 rfl⟩
  | false =>
    obtain ⟨u, h3, h4⟩ := t2 rfl
    exact ⟨u, by simp [execOp, ho, Instr.field, run_under hs, hi, e, asAgg, part, run_agg hb, h3], h4⟩
theorem q_iaddr {t e : TypeId} {x i : Operand} {x' i' : Opd} {n : Nat} {v : AV} (hS : SR E) (hf : FR E fr a.tmps) (ho : o.op = .indexAddr t x i) (ht : P.underlying t = some (.slice e)) (hn : Program.size? P e = some n)
    (hx : resOpd x = some x') (hi : resOpd i = some i')
    (h : (match get fr x', get fr i' with
      | .vs _ z xs, .int _ j => if 0 ≤ j ∧ z = n then (match xs[j.toNat]? with | some e => some (AV.pv e.cells, E.h) | none => none) else none
      | .sl k m off len, .int _ j => if 0 ≤ j ∧ j < len then some (.ep k m (off + j.toNat) 0 n, E.h) else none
      | .bsl b s off len, .int _ j => if 0 ≤ j ∧ j < len ∧ s = n then some (.ptr b (off + j.toNat * n), E.h) else none
      | _, _ => none) = some (v, E.h)) : Quiet P a o E v := by
  have hv := opd_sound hf hx
  have hw := opd_sound hf hi
  split at h
  · rename_i full z xs q j hg hj
    rw [hg] at hv; rw [hj] at hw
    simp only [VR, PV] at hv hw
    split at h
    · rename_i hc
      split at h
      · rename_i el hel
        obtain ⟨ad, len, cap, e1, e2, e3, e4, e5, e6, e7⟩ := hv
        have hlt := (List.getElem?_eq_some_iff.1 hel).1
        obtain ⟨b, q', rfl, _, hels⟩ := e7 (by intro hn; subst hn; simp at hlt)
        have hp := PEls_get hels hel
        simp at h; subst h
        have hjl : j < (len : Int) := by omega
        refine ⟨.pointer (some ⟨b, q' + j.toNat * n, none⟩), ?_, ?_⟩
        · simp [execOp, ho, Instr.indexAt, hw, asIntOf, run_under ht, e1, hc.1, hjl, run_size hn, add_addr]
        · simp only [VR, PV]
          rw [hc.2] at hp
          exact ⟨b, _, rfl, hp.2⟩
      · cases h
    · cases h
  · rename_i k m off len q j hg hj
    rw [hg] at hv; rw [hj] at hw
    simp only [VR] at hv hw
    split at h
    · rename_i hc
      obtain ⟨hj0, hjl⟩ := hc
      obtain ⟨ad, cap, f', e1, e2, ⟨e3, e5⟩, e4⟩ := hv
      obtain ⟨b, q', rfl⟩ := e5 (by omega)
      simp at h; subst h
      refine ⟨.pointer (some ⟨b, q' + j.toNat * n, none⟩), ?_, ?_⟩
      · simp [execOp, ho, Instr.indexAt, hw, asIntOf, run_under ht, e1, hj0, hjl, run_size hn, add_addr]
      · simp only [VR]
        refine ⟨_, _, f', rfl, e2, e3, fun hm => ?_⟩
        obtain ⟨l1, l2, l3, l4, l5⟩ := e4 hm.1
        have hF := hS.fams k f' e2
        have hroom := hF.room
        have ead := l5 (by omega)
        simp only [Option.some.injEq, Addr.mk.injEq] at ead
        obtain ⟨rfl, rfl, _⟩ := ead
        refine ⟨by omega, ?_⟩
        rw [← hm.2, Nat.add_zero, show off + j.toNat - (E.im k).lo = (off - (E.im k).lo) + j.toNat from by omega, Nat.add_mul, ← Nat.add_assoc]
    · cases h
  · rename_i b s off len q j hg hj
    rw [hg] at hv; rw [hj] at hw
    simp only [VR] at hv hw
    split at h
    · rename_i hc
      obtain ⟨hj0, hjl, rfl⟩ := hc
      obtain ⟨hb, cap, e1, e2, e3⟩ := hv
      simp at h; subst h
      refine ⟨.pointer (some ⟨E.nb b, off + j.toNat * s, none⟩), ?_, ?_⟩
      · simp [execOp, ho, Instr.indexAt, hw, asIntOf, run_under ht, e1, hj0, hjl, run_size hn, add_addr]
      · simp only [VR]
        exact ⟨hb, trivial⟩
    · cases h
  · cases h
theorem q_idx {t : TypeId} {x i : Operand} {x' i' : Opd} {s : ByteArray} {q : IntKind} {j : Int} {b : UInt8} (hf : FR E fr a.tmps) (ho : o.op = .index t x i) (ht : P.underlying t = some .string) (hx : resOpd x = some x') (hi : resOpd i = some i')
    (hg : get fr x' = .str s) (hj : get fr i' = .int q j) (h0 : 0 ≤ j) (hb : s[j.toNat]? = some b) : Quiet P a o E (.int .u8 b.toNat) := by
  have hv := opd_sound hf hx
  have hw := opd_sound hf hi
  rw [hg] at hv; rw [hj] at hw
  simp only [VR] at hv hw
  exact ⟨_, by simp [execOp, ho, Instr.index, hw, hv, asIntOf, run_under ht, h0, hb], VR_int _ _⟩
theorem q_ext {x : Operand} {x' : Opd} {i : Nat} {vs : List AV} {v : AV} (hf : FR E fr a.tmps) (ho : o.op = .extract x i) (hx : resOpd x = some x') (hg : get fr x' = .tup vs) (h : vs[i]? = some v) : Quiet P a o E v := by
  have hv := opd_sound hf hx
  rw [hg] at hv
  simp only [VR] at hv
  obtain ⟨us, e, h2⟩ := hv
  obtain ⟨u, h3, h4⟩ := (VRs_get h2).2 h
  have h3' : us[i]? = some u := by simpa using h3
  exact ⟨u, by simp [execOp, ho, Instr.extract, e, h3'], h4⟩
end
section
variable {E : Env} {P : Program} {fr : Fr} {a : Act} {o : Oper}
theorem arr_one {α : Type} {aas : Array α} {x : α} (h : aas.toList = [x]) : aas = #[x] := by cases aas; simp_all
theorem arr_two {α : Type} {aas : Array α} {x y : α} (h : aas.toList = [x, y]) : aas = #[x, y] := by cases aas; simp_all
theorem q_len_str {args : Array Operand} {ats : Array TypeId} {x : Operand} {t : TypeId} {x' : Opd} {s : ByteArray} (hf : FR E fr a.tmps) (ho : o.op = .call { callee := .builtin .len, args := args, argTypes := ats }) (h1 : args.toList = [x]) (h2 : ats.toList = [t])
    (hts : P.underlying t = some .string) (hx : resOpd x = some x') (hs : get fr x' = .str s) : Quiet P a o E (.int .i64 s.size) := by
  have hv := opd_sound hf hx
  rw [arr_one h1, arr_one h2] at ho
  rw [hs] at hv
  simp only [VR] at hv
  exact ⟨_, by simp [execOp, ho, resolve, invoke, builtin, Builtin.len_, hv, run_under hts, goInt], VR_int _ _⟩
theorem q_len {args : Array Operand} {ats : Array TypeId} {x : Operand} {t e : TypeId} {x' : Opd} {v : AV} (hf : FR E fr a.tmps) (ho : o.op = .call { callee := .builtin .len, args := args, argTypes := ats }) (h1 : args.toList = [x]) (h2 : ats.toList = [t])
    (hts : P.underlying t = some (.slice e)) (hx : resOpd x = some x')
    (h : (match get fr x' with | .vs _ _ xs => some (AV.int .i64 xs.length, E.h) | .sl _ _ _ len => some (.int .i64 len, E.h) | .bsl _ _ _ len => some (.int .i64 len, E.h) | _ => none) = some (v, E.h)) : Quiet P a o E v := by
  have hv := opd_sound hf hx
  rw [arr_one h1, arr_one h2] at ho
  split at h
  · rename_i full z xs hg
    rw [hg] at hv
    simp only [VR, PV] at hv
    obtain ⟨ad, len, cap, e1, rfl, _⟩ := hv
    simp at h; subst h
    exact ⟨_, by simp [execOp, ho, resolve, invoke, builtin, Builtin.len_, e1, run_under hts, goInt], VR_int _ _⟩
  · rename_i k n off len hg
    rw [hg] at hv
    simp only [VR] at hv
    obtain ⟨ad, cap, f, e1, _⟩ := hv
    simp at h; subst h
    exact ⟨_, by simp [execOp, ho, resolve, invoke, builtin, Builtin.len_, e1, run_under hts, goInt], VR_int _ _⟩
  · rename_i b s off len hg
    rw [hg] at hv
    simp only [VR] at hv
    obtain ⟨_, cap, e1, _⟩ := hv
    simp at h; subst h
    exact ⟨_, by simp [execOp, ho, resolve, invoke, builtin, Builtin.len_, e1, run_under hts, goInt], VR_int _ _⟩
  · cases h
theorem q_max {args : Array Operand} {ats : Array TypeId} {x y : Operand} {x' y' : Opd} {k k' : IntKind} {i j : Int} (hf : FR E fr a.tmps) (ho : o.op = .call { callee := .builtin .max, args := args, argTypes := ats }) (h1 : args.toList = [x, y])
    (hx : resOpd x = some x') (hy : resOpd y = some y') (hi : get fr x' = .int k i) (hj : get fr y' = .int k' j) : Quiet P a o E (.int k (if j > i then j else i)) := by
  have e1 := opd_sound hf hx
  have e2 := opd_sound hf hy
  rw [hi] at e1; rw [hj] at e2
  simp only [VR] at e1 e2
  rw [arr_two h1] at ho
  exact ⟨_, by simp [execOp, ho, resolve, invoke, builtin, Builtin.max_, Builtin.max2, e1, e2], VR_int _ _⟩
theorem q_min {args : Array Operand} {ats : Array TypeId} {x y : Operand} {x' y' : Opd} {k k' : IntKind} {i j : Int} (hf : FR E fr a.tmps) (ho : o.op = .call { callee := .builtin .min, args := args, argTypes := ats }) (h1 : args.toList = [x, y])
    (hx : resOpd x = some x') (hy : resOpd y = some y') (hi : get fr x' = .int k i) (hj : get fr y' = .int k' j) : Quiet P a o E (.int k (if j < i then j else i)) := by
  have e1 := opd_sound hf hx
  have e2 := opd_sound hf hy
  rw [hi] at e1; rw [hj] at e2
  simp only [VR] at e1 e2
  rw [arr_two h1] at ho
  exact ⟨_, by simp [execOp, ho, resolve, invoke, builtin, Builtin.min_, Builtin.min2, e1, e2], VR_int _ _⟩
theorem PEls_cut {w : World} {ok : Nat → Nat → Prop} {sz b o : Nat} {xs : List AV} (h : PEls w ok sz b o xs) (l n : Nat) : PEls w ok sz b (o + l * sz) ((xs.drop l).take n) := by
  refine PEls_of fun j x hx => ?_
  have hj : (xs.drop l)[j]? = some x := by
    rw [List.getElem?_take] at hx
    split at hx
    · exact hx
    · cases hx
  rw [List.getElem?_drop] at hj
  have := PEls_get h hj
  rwa [show o + (l + j) * sz = o + l * sz + j * sz from by rw [Nat.add_mul]; omega] at this
theorem vs_cut {w : World} {ok : Nat → Nat → Prop} {full full' : Bool} {z sz : Nat} {xs : List AV} {ad : Option Addr} {len cap l h m : Nat} (hv : PV w ok (.vs full z xs) (.slice ad len cap)) (hz : z = sz ∨ xs.length = 0)
    (h1 : l ≤ h) (h2 : h ≤ len) (h3 : h ≤ m) (h4 : m ≤ cap) (hfull : full' = true → m = h) :
    PV w ok (.vs full' z ((xs.drop l).take (h - l))) (.slice (if m = l then ad else ad.map (·.add (l * sz))) (h - l) (m - l)) := by
  simp only [PV] at hv ⊢
  obtain ⟨ad', len', cap', e, e2, e3, e4, e5, e6, e7⟩ := hv
  obtain ⟨rfl, rfl, rfl⟩ : ad = ad' ∧ len = len' ∧ cap = cap' := by simpa using e
  refine ⟨_, _, _, rfl, by simp; omega, by omega, by omega, fun hf => by rw [hfull hf], ?_, fun hne => ?_⟩
  · have hnn : (if m = l then ad else ad.map (·.add (l * sz))) = none ↔ ad = none := by split <;> simp
    refine ⟨fun hn => ?_, hnn.trans e6.2⟩
    have := e6.1 (hnn.1 hn)
    omega
  · have hlt : l < h := by
      rcases Nat.lt_or_ge l h with h' | h'
      · exact h'
      · exact absurd (by simp [show h - l = 0 from by omega]) hne
    have hxs : xs ≠ [] := by intro hn; subst hn; simp at e2; omega
    obtain ⟨b, q, rfl, hp, hels⟩ := e7 hxs
    rw [if_neg (by omega)]
    have hzz : z = sz := by
      rcases hz with hz | hz
      · exact hz
      · exact absurd (List.eq_nil_of_length_eq_zero hz) hxs
    subst hzz
    exact ⟨b, q + l * z, by simp [add_addr], hp, PEls_cut hels l (h - l)⟩
theorem q_slc_str {t : TypeId} {x : Operand} {lo hi : Option Operand} {x' : Opd} {lo' hi' : Option Opd} {s : ByteArray} {l u : Option Int} (hf : FR E fr a.tmps) (ho : o.op = .slice t x lo hi none) (ht : P.underlying t = some .string)
    (hx : resOpd x = some x') (hlo : resOpt lo = some lo') (hhi : resOpt hi = some hi') (hg : get fr x' = .str s) (hl : boundA fr lo' = some l) (hu : boundA fr hi' = some u)
    (h0 : 0 ≤ l.getD 0) (h1 : l.getD 0 ≤ u.getD s.size) (h2 : u.getD s.size ≤ s.size) : Quiet P a o E (.str (s.extract (l.getD 0).toNat (u.getD s.size).toNat)) := by
  have hv := opd_sound hf hx
  rw [hg] at hv
  simp only [VR] at hv
  have hb := sliceBounds_none (P := P) (b := false) E.w (bound_sound hf hlo hl) (bound_sound hf hhi hu) h0 h1 h2 (Nat.le_refl _)
  exact ⟨_, by simp [execOp, ho, Instr.sliceAt, Instr.slice, run_under ht, hv, hb], VR_str _⟩
theorem q_slc_vs {t e : TypeId} {x : Operand} {lo hi mx : Option Operand} {x' : Opd} {lo' hi' mx' : Option Opd} {full full' : Bool} {z n : Nat} {xs : List AV} {l u m : Option Int} (hf : FR E fr a.tmps) (ho : o.op = .slice t x lo hi mx) (ht : P.underlying t = some (.slice e)) (hn : Program.size? P e = some n)
    (hx : resOpd x = some x') (hlo : resOpt lo = some lo') (hhi : resOpt hi = some hi') (hmx : resOpt mx = some mx') (hg : get fr x' = .vs full z xs) (hl : boundA fr lo' = some l) (hu : boundA fr hi' = some u) (hm : boundA fr mx' = some m)
    (hz : z = n ∨ xs.length = 0) (h0 : 0 ≤ l.getD 0) (h1 : l.getD 0 ≤ u.getD xs.length)
    (hc : (m = none ∧ u.getD xs.length ≤ xs.length ∧ full' = (full && decide (u.getD xs.length = xs.length))) ∨ (∃ q, m = some q ∧ u.isSome = true ∧ u.getD xs.length ≤ q ∧ q ≤ xs.length ∧ full' = decide (q = u.getD xs.length))) :
    Quiet P a o E (.vs full' z ((xs.drop (l.getD 0).toNat).take (u.getD xs.length - l.getD 0).toNat)) := by
  have hv := opd_sound hf hx
  rw [hg] at hv
  simp only [VR] at hv
  have hv' := hv
  simp only [PV] at hv'
  obtain ⟨ad, len, cap, e1, e2, e3, e4, e5, e6, e7⟩ := hv'
  rw [e1] at hv
  subst e2
  have etn : (u.getD xs.length - l.getD 0).toNat = (u.getD (xs.length : Int)).toNat - (l.getD 0).toNat := by omega
  rw [etn]
  rcases hc with ⟨rfl, h2, hfull⟩ | ⟨q, rfl, hs, h2, h3, hfull⟩
  · have hmn : mx.map a.eval = none := by
      rcases bound_sound hf hmx hm with ⟨_, h⟩ | ⟨k, i, h, _⟩
      · exact h
      · cases h
    have hb := sliceBounds_none (P := P) (b := true) (cap := cap) E.w (bound_sound hf hlo hl) (bound_sound hf hhi hu) h0 h1 h2 e3
    refine ⟨_, by simp [execOp, ho, Instr.sliceAt, Instr.slice, run_under ht, e1, hmn, hb, run_size hn]; rfl, ?_⟩
    simp only [VR]
    refine vs_cut hv hz (by omega) (by omega) (by omega) (Nat.le_refl _) fun hf' => ?_
    rw [hfull] at hf'
    simp at hf'
    have := e5 hf'.1
    omega
  · have hms : ∃ k, mx.map a.eval = some (.int k q) := by
      rcases bound_sound hf hmx hm with ⟨h, _⟩ | ⟨k, i, h, h'⟩
      · cases h
      · cases h; exact ⟨k, h'⟩
    have hb := sliceBounds_some (P := P) (b := true) (len := xs.length) (cap := cap) E.w (bound_sound hf hlo hl) (bound_sound hf hhi hu) hms hs h0 h1 h2 (by omega)
    refine ⟨_, by simp [execOp, ho, Instr.sliceAt, Instr.slice, run_under ht, e1, hb, run_size hn]; rfl, ?_⟩
    simp only [VR]
    refine vs_cut hv hz (by omega) (by omega) (by omega) (by omega) fun hf' => ?_
    rw [hfull] at hf'
    simp at hf'
    omega
theorem q_slc_sl {t e : TypeId} {x : Operand} {lo hi mx : Option Operand} {x' : Opd} {lo' hi' mx' : Option Opd} {n k m off len : Nat} {f : Fam} {l u q : Option Int} {v : AV} (hS : SR E) (hf : FR E fr a.tmps) (ho : o.op = .slice t x lo hi mx) (ht : P.underlying t = some (.slice e)) (hn : Program.size? P e = some n)
    (hx : resOpd x = some x') (hlo : resOpt lo = some lo') (hhi : resOpt hi = some hi') (hmx : resOpt mx = some mx') (hg : get fr x' = .sl k m off len) (hl : boundA fr lo' = some l) (hu : boundA fr hi' = some u) (hm : boundA fr mx' = some q)
    (hfk : E.h.fams[k]? = some f) (hz : f.sz = n) (hlen : f.xs.length = m)
    (hc : ((q = none ∧ 0 ≤ l.getD 0 ∧ l.getD 0 ≤ u.getD len ∧ (u.getD len ≤ len ∨ off + u.getD len ≤ m) ∧ v = .sl k m (off + (l.getD 0).toNat) (u.getD len - l.getD 0).toNat) ∨ (q = some 0 ∧ u.isSome = true ∧ l.getD 0 = 0 ∧ u.getD len = 0 ∧ v = .vs true n [])) ∨
      ∃ q', q = some q' ∧ u.isSome = true ∧ 0 ≤ l.getD 0 ∧ l.getD 0 ≤ u.getD len ∧ u.getD len ≤ q' ∧ off + q' ≤ m ∧ v = .junk) :
    Quiet P a o E v := by
  have hv := opd_sound hf hx
  rw [hg] at hv
  simp only [VR] at hv
  obtain ⟨ad, cap, f', e1, e2, e3, e4⟩ := hv
  have : f' = f := by rw [hfk] at e2; simpa using e2.symm
  subst this
  obtain ⟨l1, l2, l3, l4, l5⟩ := e4 hlen
  have hroom := (hS.fams k f' hfk).room
  rcases hc with (⟨rfl, h0, h1, h2, rfl⟩ | ⟨rfl, hs, h0, h1, rfl⟩) | ⟨q', rfl, hs, h0, h1, h2, h3, rfl⟩
  · have hmn : mx.map a.eval = none := by
      rcases bound_sound hf hmx hm with ⟨_, h⟩ | ⟨k, i, h, _⟩
      · exact h
      · cases h
    have hcap : u.getD (len : Int) ≤ cap := by omega
    have hrow : off + (u.getD (len : Int)) ≤ m := by omega
    have hb := sliceBounds_cap (P := P) (len := len) (cap := cap) E.w (bound_sound hf hlo hl) (bound_sound hf hhi hu) h0 h1 hcap
    have etn : (u.getD len - l.getD 0).toNat = (u.getD (len : Int)).toNat - (l.getD 0).toNat := by omega
    rw [etn]
    refine ⟨_, by simp [execOp, ho, Instr.sliceAt, Instr.slice, run_under ht, e1, hmn, hb, run_size hn]; rfl, ?_⟩
    simp only [VR]
    refine ⟨_, _, f', rfl, hfk, ⟨e3.1, fun hlen0 => ?_⟩, fun _ => ⟨by omega, by omega, by omega, fun hnone => ?_, fun hne => ?_⟩⟩
    · have had := l5 (by omega)
      rw [if_neg (by omega), had]
      simp only [Option.map_some, add_addr]
      exact ⟨_, _, rfl⟩
    · split at hnone
      · exact l4 hnone
      · exact l4 (by simpa using hnone)
    · rw [if_neg (by omega), l5 (by omega)]
      simp only [Option.map_some, add_addr]
      congr 2
      rw [show off + (l.getD 0).toNat - (E.im k).lo = (off - (E.im k).lo) + (l.getD 0).toNat from by omega, Nat.add_mul, hz]
      omega
  · have hms : ∃ k, mx.map a.eval = some (.int k 0) := by
      rcases bound_sound hf hmx hm with ⟨h, _⟩ | ⟨k, i, h, h'⟩
      · cases h
      · cases h; exact ⟨k, h'⟩
    have hb := sliceBounds_some (P := P) (b := true) (len := len) (cap := cap) E.w (bound_sound hf hlo hl) (bound_sound hf hhi hu) hms hs (by omega) (by omega) (by omega) (by omega)
    refine ⟨.slice ad 0 0, by simp [execOp, ho, Instr.sliceAt, Instr.slice, run_under ht, e1, hb, run_size hn, h0, h1], ?_⟩
    simp only [VR, PV]
    exact ⟨_, _, _, rfl, rfl, Nat.le_refl _, by simp, fun _ => rfl, ⟨fun _ => rfl, ⟨fun e => absurd e l4, fun e => absurd (hS.fams k f' hfk).sz (by omega)⟩⟩, fun h => absurd rfl h⟩
  · have hms : ∃ k, mx.map a.eval = some (.int k q') := by
      rcases bound_sound hf hmx hm with ⟨h, _⟩ | ⟨k, i, h, h'⟩
      · cases h
      · cases h; exact ⟨k, h'⟩
    have hb := sliceBounds_some (P := P) (b := true) (len := len) (cap := cap) E.w (bound_sound hf hlo hl) (bound_sound hf hhi hu) hms hs h0 h1 h2 (by omega)
    refine ⟨_, by simp [execOp, ho, Instr.sliceAt, Instr.slice, run_under ht, e1, hb, run_size hn]; rfl, ?_⟩
    simp [VR, Value.oneCell']
end
end Go.Abs
