/- How abstract values stand to the model's values and memory. -/
import Derived.Test.YtpkegmgepnhfnaaA2
namespace Go.Abs

mutual
/-- A pure value: `ok b o`: cell o of block b may be leant on. -/
def PV (w : World) (ok : Nat → Nat → Prop) : AV → Value → Prop
  | .junk, v => v.oneCell' = true
  | .bool b, v => v = .bool b
  | .int k n, v => v = .int k n
  | .str s, v => v = .string s
  | .agg cs, v => ∃ us : Array Value, v = .agg us ∧ (∀ u ∈ us.toList, u.oneCell' = true) ∧ PVs w ok cs us.toList
  | .tup cs, v => ∃ us : Array Value, v = .tuple us ∧ PVs w ok cs us.toList
  | .vs full sz xs, v => ∃ a len cap, v = .slice a len cap ∧ len = xs.length ∧ len ≤ cap ∧ cap ≤ maxLen ∧ (full = true → cap = len) ∧ ((a = none → cap = 0) ∧ (a = none ↔ sz = 0)) ∧ (xs ≠ [] → ∃ b o, a = some ⟨b, o, none⟩ ∧ 0 < sz ∧ PEls w ok sz b o xs)
  | .pv cs, v => ∃ b o, v = .pointer (some ⟨b, o, none⟩) ∧ PCells w ok b o cs
  | .nilp, v => v = .pointer none
  | .fn f caps, v => ∃ us : Array Value, v = .func (.func f) #[] us ∧ PVs w ok caps us.toList
  | .nilf, v => v = .nilFunc
  | .sl .., _ => False
  | .ep .., _ => False
  | .ptr .., _ => False
def PVs (w : World) (ok : Nat → Nat → Prop) : List AV → List Value → Prop
  | [], us => us = []
  | c :: cs, us => ∃ u us', us = u :: us' ∧ PV w ok c u ∧ PVs w ok cs us'
def PCells (w : World) (ok : Nat → Nat → Prop) (b o : Nat) : List AV → Prop
  | [] => True
  | c :: cs => (∃ u, ok b o ∧ w.cell? ⟨b, o, none⟩ = some u ∧ u.oneCell' = true ∧ PV w ok c u) ∧ PCells w ok b (o + 1) cs
def PEls (w : World) (ok : Nat → Nat → Prop) (sz b o : Nat) : List AV → Prop
  | [] => True
  | .agg cs :: xs => cs.length = sz ∧ PCells w ok b o cs ∧ PEls w ok sz b (o + sz) xs
  | x :: xs => sz = 1 ∧ (∃ u, ok b o ∧ w.cell? ⟨b, o, none⟩ = some u ∧ u.oneCell' = true ∧ PV w ok x u) ∧ PEls w ok sz b (o + sz) xs
end

/-- One element in memory. -/
def PElem (w : World) (ok : Nat → Nat → Prop) (sz b o : Nat) (x : AV) : Prop := x.cells.length = sz ∧ PCells w ok b o x.cells

theorem PEls_cons {w : World} {ok : Nat → Nat → Prop} {sz b o : Nat} {x : AV} {xs : List AV} :
    PEls w ok sz b o (x :: xs) ↔ PElem w ok sz b o x ∧ PEls w ok sz b (o + sz) xs := by
  cases x with
  | agg cs => simp only [PEls, PElem, AV.cells, and_assoc]
  | _ =>
    simp only [PEls, PElem, AV.cells, PCells, and_true, List.length_cons, List.length_nil, Nat.zero_add]
    exact ⟨fun h => ⟨⟨h.1.symm, h.2.1⟩, h.2.2⟩, fun h => ⟨h.1.1.symm, h.1.2, h.2⟩⟩

theorem PEls_get {w : World} {ok : Nat → Nat → Prop} {sz b : Nat} {xs : List AV} : ∀ {o : Nat}, PEls w ok sz b o xs → ∀ {j : Nat} {x : AV}, xs[j]? = some x → PElem w ok sz b (o + j * sz) x := by
  induction xs with
  | nil => intro o _ j x h; simp at h
  | cons y ys ih =>
    intro o h j x hj
    rw [PEls_cons] at h
    cases j with
    | zero => simp at hj; subst hj; simpa using h.1
    | succ j =>
      have := ih h.2 (j := j) (x := x) (by simpa using hj)
      rwa [show o + sz + j * sz = o + (j + 1) * sz from by rw [Nat.succ_mul]; omega] at this

theorem PEls_of {w : World} {ok : Nat → Nat → Prop} {sz b : Nat} {xs : List AV} : ∀ {o : Nat}, (∀ j x, xs[j]? = some x → PElem w ok sz b (o + j * sz) x) → PEls w ok sz b o xs := by
  induction xs with
  | nil => intro o _; simp [PEls]
  | cons y ys ih =>
    intro o h
    rw [PEls_cons]
    refine ⟨by simpa using h 0 y rfl, ih fun j x hj => ?_⟩
    have := h (j + 1) x (by simpa using hj)
    rwa [show o + (j + 1) * sz = o + sz + j * sz from by rw [Nat.succ_mul]; omega] at this

theorem PCells_get {w : World} {ok : Nat → Nat → Prop} {b : Nat} {cs : List AV} : ∀ {o : Nat}, PCells w ok b o cs → ∀ {j : Nat} {c : AV}, cs[j]? = some c →
    ∃ u, ok b (o + j) ∧ w.cell? ⟨b, o + j, none⟩ = some u ∧ u.oneCell' = true ∧ PV w ok c u := by
  induction cs with
  | nil => intro o _ j c h; simp at h
  | cons y ys ih =>
    intro o h j c hj
    simp only [PCells] at h
    cases j with
    | zero => simp at hj; subst hj; simpa using h.1
    | succ j =>
      have := ih h.2 (j := j) (c := c) (by simpa using hj)
      rwa [show o + 1 + j = o + (j + 1) from by omega] at this

theorem PCells_of {w : World} {ok : Nat → Nat → Prop} {b : Nat} {cs : List AV} : ∀ {o : Nat}, (∀ j c, cs[j]? = some c → ∃ u, ok b (o + j) ∧ w.cell? ⟨b, o + j, none⟩ = some u ∧ u.oneCell' = true ∧ PV w ok c u) → PCells w ok b o cs := by
  induction cs with
  | nil => intro o _; simp [PCells]
  | cons y ys ih =>
    intro o h
    simp only [PCells]
    refine ⟨by simpa using h 0 y rfl, ih fun j c hj => ?_⟩
    have := h (j + 1) c (by simpa using hj)
    rwa [show o + (j + 1) = o + 1 + j from by omega] at this

theorem PVs_get {w : World} {ok : Nat → Nat → Prop} {cs : List AV} : ∀ {us : List Value}, PVs w ok cs us → us.length = cs.length ∧ ∀ {j : Nat} {c : AV}, cs[j]? = some c → ∃ u, us[j]? = some u ∧ PV w ok c u := by
  induction cs with
  | nil => intro us h; simp [PVs] at h; subst h; simp
  | cons y ys ih =>
    intro us h
    simp only [PVs] at h
    obtain ⟨u, us', rfl, h1, h2⟩ := h
    obtain ⟨hl, hg⟩ := ih h2
    refine ⟨by simp [hl], fun {j c} hj => ?_⟩
    cases j with
    | zero => simp at hj; subst hj; exact ⟨u, rfl, h1⟩
    | succ j => simpa using hg (j := j) (c := c) (by simpa using hj)

theorem PVs_of {w : World} {ok : Nat → Nat → Prop} {cs : List AV} : ∀ {us : List Value}, us.length = cs.length → (∀ (j : Nat) (c : AV) (u : Value), cs[j]? = some c → us[j]? = some u → PV w ok c u) → PVs w ok cs us := by
  induction cs with
  | nil => intro us hl _; simp [PVs]; simpa using hl
  | cons y ys ih =>
    intro us hl h
    cases us with
    | nil => simp at hl
    | cons u us' =>
      simp only [PVs]
      exact ⟨u, us', rfl, h 0 y u rfl rfl, ih (by simpa using hl) fun j c v hc hv => h (j + 1) c v (by simpa using hc) (by simpa using hv)⟩

/-! ### Pure values stay what they are while the cells that they lean on stay -/

mutual
theorem PV_mono {w w' : World} {ok ok' : Nat → Nat → Prop} (h : ∀ b o, ok b o → ok' b o ∧ w'.cell? ⟨b, o, none⟩ = w.cell? ⟨b, o, none⟩) : ∀ (x : AV) (v : Value), PV w ok x v → PV w' ok' x v
  | .junk, v, hx => by simpa [PV] using hx
  | .bool b, v, hx => by simpa [PV] using hx
  | .int k n, v, hx => by simpa [PV] using hx
  | .str s, v, hx => by simpa [PV] using hx
  | .agg cs, v, hx => by
    simp only [PV] at hx ⊢
    obtain ⟨us, rfl, h1, hu⟩ := hx
    exact ⟨us, rfl, h1, PVs_mono h cs us.toList hu⟩
  | .tup cs, v, hx => by
    simp only [PV] at hx ⊢
    obtain ⟨us, rfl, hu⟩ := hx
    exact ⟨us, rfl, PVs_mono h cs us.toList hu⟩
  | .vs full sz xs, v, hx => by
    simp only [PV] at hx ⊢
    obtain ⟨a, len, cap, rfl, h1, h2, h3, h4, h5, h6⟩ := hx
    refine ⟨a, len, cap, rfl, h1, h2, h3, h4, h5, fun hne => ?_⟩
    obtain ⟨b, o, ha, hs, he⟩ := h6 hne
    exact ⟨b, o, ha, hs, PEls_mono h sz b o xs he⟩
  | .pv cs, v, hx => by
    simp only [PV] at hx ⊢
    obtain ⟨b, o, rfl, hc⟩ := hx
    exact ⟨b, o, rfl, PCells_mono h b o cs hc⟩
  | .nilp, v, hx => by simpa [PV] using hx
  | .fn f caps, v, hx => by
    simp only [PV] at hx ⊢
    obtain ⟨us, rfl, hu⟩ := hx
    exact ⟨us, rfl, PVs_mono h caps us.toList hu⟩
  | .nilf, v, hx => by simpa [PV] using hx
  | .sl .., _, hx => by simp [PV] at hx
  | .ep .., _, hx => by simp [PV] at hx
  | .ptr .., _, hx => by simp [PV] at hx
theorem PVs_mono {w w' : World} {ok ok' : Nat → Nat → Prop} (h : ∀ b o, ok b o → ok' b o ∧ w'.cell? ⟨b, o, none⟩ = w.cell? ⟨b, o, none⟩) : ∀ (cs : List AV) (us : List Value), PVs w ok cs us → PVs w' ok' cs us
  | [], us, hx => by simpa [PVs] using hx
  | c :: cs, us, hx => by
    simp only [PVs] at hx ⊢
    obtain ⟨u, us', rfl, h1, h2⟩ := hx
    exact ⟨u, us', rfl, PV_mono h c u h1, PVs_mono h cs us' h2⟩
theorem PCells_mono {w w' : World} {ok ok' : Nat → Nat → Prop} (h : ∀ b o, ok b o → ok' b o ∧ w'.cell? ⟨b, o, none⟩ = w.cell? ⟨b, o, none⟩) (b o : Nat) : ∀ (cs : List AV), PCells w ok b o cs → PCells w' ok' b o cs
  | [], _ => by simp [PCells]
  | c :: cs, hx => by
    simp only [PCells] at hx ⊢
    obtain ⟨⟨u, h1, h2, h3, h4⟩, h5⟩ := hx
    exact ⟨⟨u, (h b o h1).1, by rw [(h b o h1).2]; exact h2, h3, PV_mono h c u h4⟩, PCells_mono h b (o + 1) cs h5⟩
theorem PEls_mono {w w' : World} {ok ok' : Nat → Nat → Prop} (h : ∀ b o, ok b o → ok' b o ∧ w'.cell? ⟨b, o, none⟩ = w.cell? ⟨b, o, none⟩) (sz b o : Nat) : ∀ (xs : List AV), PEls w ok sz b o xs → PEls w' ok' sz b o xs
  | [], _ => by simp [PEls]
  | .agg cs :: xs, hx => by
    simp only [PEls] at hx ⊢
    exact ⟨hx.1, PCells_mono h b o cs hx.2.1, PEls_mono h sz b (o + sz) xs hx.2.2⟩
  | x :: xs, hx => by
    rw [PEls_cons] at hx ⊢
    refine ⟨?_, PEls_mono h sz b (o + sz) xs hx.2⟩
    cases x with
    | agg cs => exact ⟨hx.1.1, PCells_mono h b o cs hx.1.2⟩
    | _ =>
      refine ⟨hx.1.1, ?_⟩
      have hc := hx.1.2
      simp only [AV.cells, PCells] at hc ⊢
      obtain ⟨⟨u, h1, h2, h3, h4⟩, h5⟩ := hc
      exact ⟨⟨u, (h b o h1).1, by rw [(h b o h1).2]; exact h2, h3, PV_mono h _ u h4⟩, trivial⟩
end

/-! ### A whole state -/

/-- Where a row lies: element i (from `lo` on) at cell `o + (i - lo) * sz` of block b; room for `cap` elements from `lo` on. -/
structure Img where
  b : Nat
  o : Nat
  cap : Nat
  lo : Nat

structure Env where
  w : World
  base : Nat
  ok0 : Nat → Nat → Prop
  nb : Nat → Nat
  im : Nat → Img
  h : AH

/-- The cells that pure values may lean on. -/
def Env.ok (E : Env) (b o : Nat) : Prop :=
  (b < E.base ∧ E.ok0 b o) ∨
  (E.base ≤ b ∧ b < E.w.heap.size ∧ (∀ i, i < E.h.boxes.length → E.nb i ≠ b) ∧
    ∀ k f, E.h.fams[k]? = some f → (E.im k).b = b → f.wr = false ∧ o < (E.im k).o + (f.xs.length - (E.im k).lo) * f.sz)

mutual
def VR (E : Env) : AV → Value → Prop
  | .agg cs, v => ∃ us : Array Value, v = .agg us ∧ (∀ u ∈ us.toList, u.oneCell' = true) ∧ VRs E cs us.toList
  | .tup cs, v => ∃ us : Array Value, v = .tuple us ∧ VRs E cs us.toList
  | .fn f caps, v => ∃ us : Array Value, v = .func (.func f) #[] us ∧ VRs E caps us.toList
  | .sl k n off len, v => ∃ a cap f, v = .slice a len cap ∧ E.h.fams[k]? = some f ∧ n ≤ f.xs.length ∧ (f.xs.length = n →
      (E.im k).lo ≤ off ∧ off + len ≤ n ∧ cap + (off - (E.im k).lo) = (E.im k).cap ∧ a ≠ none ∧
      (cap ≠ 0 → a = some ⟨(E.im k).b, (E.im k).o + (off - (E.im k).lo) * f.sz, none⟩))
  | .ep k n i c, v => ∃ a f, v = .pointer (some a) ∧ E.h.fams[k]? = some f ∧ n ≤ f.xs.length ∧ (f.xs.length = n →
      (E.im k).lo ≤ i ∧ a = ⟨(E.im k).b, (E.im k).o + (i - (E.im k).lo) * f.sz + c, none⟩)
  | .ptr b off, v => b < E.h.boxes.length ∧ v = .pointer (some ⟨E.nb b, off, none⟩)
  | .junk, v => v.oneCell' = true
  | .bool b, v => v = .bool b
  | .int k n, v => v = .int k n
  | .str s, v => v = .string s
  | .vs full sz xs, v => PV E.w E.ok (.vs full sz xs) v
  | .pv cs, v => PV E.w E.ok (.pv cs) v
  | .nilp, v => v = .pointer none
  | .nilf, v => v = .nilFunc
def VRs (E : Env) : List AV → List Value → Prop
  | [], us => us = []
  | c :: cs, us => ∃ u us', us = u :: us' ∧ VR E c u ∧ VRs E cs us'
end

theorem VRs_get {E : Env} {cs : List AV} : ∀ {us : List Value}, VRs E cs us → us.length = cs.length ∧ ∀ {j : Nat} {c : AV}, cs[j]? = some c → ∃ u, us[j]? = some u ∧ VR E c u := by
  induction cs with
  | nil => intro us h; simp [VRs] at h; subst h; simp
  | cons y ys ih =>
    intro us h
    simp only [VRs] at h
    obtain ⟨u, us', rfl, h1, h2⟩ := h
    obtain ⟨hl, hg⟩ := ih h2
    refine ⟨by simp [hl], fun {j c} hj => ?_⟩
    cases j with
    | zero => simp at hj; subst hj; exact ⟨u, rfl, h1⟩
    | succ j => simpa using hg (j := j) (c := c) (by simpa using hj)

theorem VRs_of {E : Env} {cs : List AV} : ∀ {us : List Value}, us.length = cs.length → (∀ (j : Nat) (c : AV) (u : Value), cs[j]? = some c → us[j]? = some u → VR E c u) → VRs E cs us := by
  induction cs with
  | nil => intro us hl _; simp [VRs]; simpa using hl
  | cons y ys ih =>
    intro us hl h
    cases us with
    | nil => simp at hl
    | cons u us' =>
      simp only [VRs]
      exact ⟨u, us', rfl, h 0 y u rfl rfl, ih (by simpa using hl) fun j c v hc hv => h (j + 1) c v (by simpa using hc) (by simpa using hv)⟩

mutual
theorem VR_of_PV {E : Env} : ∀ (x : AV) (v : Value), PV E.w E.ok x v → VR E x v
  | .junk, v, hx => by simpa [VR, PV] using hx
  | .bool b, v, hx => by simpa [PV, VR] using hx
  | .int k n, v, hx => by simpa [PV, VR] using hx
  | .str s, v, hx => by simpa [PV, VR] using hx
  | .agg cs, v, hx => by
    simp only [PV, VR] at hx ⊢
    obtain ⟨us, rfl, h1, hu⟩ := hx
    exact ⟨us, rfl, h1, VRs_of_PVs cs us.toList hu⟩
  | .tup cs, v, hx => by
    simp only [PV, VR] at hx ⊢
    obtain ⟨us, rfl, hu⟩ := hx
    exact ⟨us, rfl, VRs_of_PVs cs us.toList hu⟩
  | .vs full sz xs, v, hx => by simp only [VR]; exact hx
  | .pv cs, v, hx => by simp only [VR]; exact hx
  | .nilp, v, hx => by simpa [PV, VR] using hx
  | .fn f caps, v, hx => by
    simp only [PV, VR] at hx ⊢
    obtain ⟨us, rfl, hu⟩ := hx
    exact ⟨us, rfl, VRs_of_PVs caps us.toList hu⟩
  | .nilf, v, hx => by simpa [PV, VR] using hx
  | .sl .., _, hx => by simp [PV] at hx
  | .ep .., _, hx => by simp [PV] at hx
  | .ptr .., _, hx => by simp [PV] at hx
theorem VRs_of_PVs {E : Env} : ∀ (cs : List AV) (us : List Value), PVs E.w E.ok cs us → VRs E cs us
  | [], us, hx => by simpa [PVs, VRs] using hx
  | c :: cs, us, hx => by
    simp only [PVs, VRs] at hx ⊢
    obtain ⟨u, us', rfl, h1, h2⟩ := hx
    exact ⟨u, us', rfl, VR_of_PV c u h1, VRs_of_PVs cs us' h2⟩
end

/-- What one state hands on to a later one: what pure values lean on stays; boxes keep their places; a row that has kept its length has kept its place. -/
structure Ext (E E' : Env) : Prop where
  cells : ∀ b o, E.ok b o → E'.ok b o ∧ E'.w.cell? ⟨b, o, none⟩ = E.w.cell? ⟨b, o, none⟩
  boxes : E.h.boxes.length ≤ E'.h.boxes.length
  nb : ∀ i, i < E.h.boxes.length → E'.nb i = E.nb i
  fams : E.h.fams.length ≤ E'.h.fams.length
  im : ∀ k f f', E.h.fams[k]? = some f → E'.h.fams[k]? = some f' → f'.sz = f.sz ∧ f.xs.length ≤ f'.xs.length ∧ (f'.xs.length = f.xs.length → E'.im k = E.im k)
  base : E'.base = E.base
  ok0 : E'.ok0 = E.ok0
  below : Go.RowKit.Below E.base E.w E'.w

theorem Ext.refl (E : Env) : Ext E E :=
  ⟨fun _ _ h => ⟨h, rfl⟩, Nat.le_refl _, fun _ _ => rfl, Nat.le_refl _, fun k f f' h h' => by rw [h] at h'; cases h'; exact ⟨rfl, Nat.le_refl _, fun _ => rfl⟩, rfl, rfl, Go.RowKit.Below.refl _ _⟩

theorem Ext.trans {E E' E'' : Env} (h : Ext E E') (k : Ext E' E'') : Ext E E'' := by
  refine ⟨fun b o ho => ?_, Nat.le_trans h.boxes k.boxes, fun i hi => (k.nb i (Nat.lt_of_lt_of_le hi h.boxes)).trans (h.nb i hi), Nat.le_trans h.fams k.fams, fun j f f'' hf hf'' => ?_, k.base.trans h.base, k.ok0.trans h.ok0, ?_⟩
  · obtain ⟨h1, h2⟩ := h.cells b o ho
    obtain ⟨h3, h4⟩ := k.cells b o h1
    exact ⟨h3, h4.trans h2⟩
  · have hlt : j < E'.h.fams.length := Nat.lt_of_lt_of_le (List.getElem?_eq_some_iff.1 hf).1 h.fams
    obtain ⟨a1, a2, a3⟩ := h.im j f _ hf (List.getElem?_eq_getElem hlt)
    obtain ⟨b1, b2, b3⟩ := k.im j _ f'' (List.getElem?_eq_getElem hlt) hf''
    refine ⟨b1.trans a1, Nat.le_trans a2 b2, fun he => ?_⟩
    rw [b3 (by omega), a3 (by omega)]
  · have hk := k.below
    rw [h.base] at hk
    exact h.below.trans hk

mutual
theorem VR_ext {E E' : Env} (h : Ext E E') : ∀ (x : AV) (v : Value), VR E x v → VR E' x v
  | .junk, v, hx => by simpa [VR] using hx
  | .bool b, v, hx => by simpa [VR] using hx
  | .int k n, v, hx => by simpa [VR] using hx
  | .str s, v, hx => by simpa [VR] using hx
  | .agg cs, v, hx => by
    simp only [VR] at hx ⊢
    obtain ⟨us, rfl, h1, hu⟩ := hx
    exact ⟨us, rfl, h1, VRs_ext h cs us.toList hu⟩
  | .tup cs, v, hx => by
    simp only [VR] at hx ⊢
    obtain ⟨us, rfl, hu⟩ := hx
    exact ⟨us, rfl, VRs_ext h cs us.toList hu⟩
  | .vs full sz xs, v, hx => by
    simp only [VR] at hx ⊢
    exact PV_mono h.cells _ _ hx
  | .pv cs, v, hx => by
    simp only [VR] at hx ⊢
    exact PV_mono h.cells _ _ hx
  | .nilp, v, hx => by simpa [VR] using hx
  | .fn f caps, v, hx => by
    simp only [VR] at hx ⊢
    obtain ⟨us, rfl, hu⟩ := hx
    exact ⟨us, rfl, VRs_ext h caps us.toList hu⟩
  | .nilf, v, hx => by simpa [VR] using hx
  | .sl k n off len, v, hx => by
    simp only [VR] at hx ⊢
    obtain ⟨a, cap, f, rfl, hf, hn, hc⟩ := hx
    have hlt : k < E'.h.fams.length := Nat.lt_of_lt_of_le (List.getElem?_eq_some_iff.1 hf).1 h.fams
    obtain ⟨h1, h2, h3⟩ := h.im k f _ hf (List.getElem?_eq_getElem hlt)
    refine ⟨a, cap, _, rfl, List.getElem?_eq_getElem hlt, by omega, fun he => ?_⟩
    rw [h3 (by omega), h1]
    exact hc (by omega)
  | .ep k n i c, v, hx => by
    simp only [VR] at hx ⊢
    obtain ⟨a, f, rfl, hf, hn, hc⟩ := hx
    have hlt : k < E'.h.fams.length := Nat.lt_of_lt_of_le (List.getElem?_eq_some_iff.1 hf).1 h.fams
    obtain ⟨h1, h2, h3⟩ := h.im k f _ hf (List.getElem?_eq_getElem hlt)
    refine ⟨a, _, rfl, List.getElem?_eq_getElem hlt, by omega, fun he => ?_⟩
    rw [h3 (by omega), h1]
    exact hc (by omega)
  | .ptr b off, v, hx => by
    simp only [VR] at hx ⊢
    exact ⟨Nat.lt_of_lt_of_le hx.1 h.boxes, by rw [h.nb b hx.1]; exact hx.2⟩
theorem VRs_ext {E E' : Env} (h : Ext E E') : ∀ (cs : List AV) (us : List Value), VRs E cs us → VRs E' cs us
  | [], us, hx => by simpa [VRs] using hx
  | c :: cs, us, hx => by
    simp only [VRs] at hx ⊢
    obtain ⟨u, us', rfl, h1, h2⟩ := hx
    exact ⟨u, us', rfl, VR_ext h c u h1, VRs_ext h cs us' h2⟩
end

end Go.Abs
