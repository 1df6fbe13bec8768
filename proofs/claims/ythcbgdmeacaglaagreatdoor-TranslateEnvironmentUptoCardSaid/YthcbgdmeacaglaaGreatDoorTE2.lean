/- A part of the proof. -/
import Derived.Test.YthcbgdmeacaglaaGreatDoorTE1
set_option linter.all false
namespace Go.Abs
def Stay (w w' : World) (b o : Nat) : Prop := w'.cell? ⟨b, o, none⟩ = w.cell? ⟨b, o, none⟩ ∧ ∀ es clk, w.heap[b]? = some (.map es clk) → w'.heap[b]? = some (.map es clk)
theorem Stay.refl (w : World) (b o : Nat) : Stay w w b o := ⟨rfl, fun _ _ h => h⟩
theorem Stay.trans {w w' w'' : World} {b o : Nat} (h : Stay w w' b o) (k : Stay w' w'' b o) : Stay w w'' b o := ⟨k.1.trans h.1, fun es clk e => k.2 es clk (h.2 es clk e)⟩
mutual
def PV (w : World) (ok : Nat → Nat → Prop) : AV → Value → Prop
  | .junk, v => v.oneCell' = true
  | .bool b, v => v = .bool b
  | .int k n, v => v = .int k n
  | .str s, v => v = .string s
  | .agg cs, v => ∃ us : Array Value, v = .agg us ∧ (∀ u ∈ us.toList, u.oneCell' = true) ∧ PVs w ok cs us.toList
  | .tup cs, v => ∃ us : Array Value, v = .tuple us ∧ PVs w ok cs us.toList
  | .vs full sz xs, v => ∃ a len cap, v = .slice a len cap ∧ len = xs.length ∧ len ≤ cap ∧ cap ≤ maxLen ∧ (full = true → cap = len) ∧ ((a = none → cap = 0) ∧ (a = none ↔ sz = 0)) ∧ (xs ≠ [] → ∃ b o, a = some ⟨b, o, none⟩ ∧ 0 < sz ∧ PEls w ok sz b o xs)
  | .pv cs, v => ∃ b o, v = .pointer (some ⟨b, o, none⟩) ∧ PCells w ok b o cs
  | .nilp, v => v = .pointer none
  | .fn f caps, v => ∃ us : Array Value, v = .func (.func f) #[] us ∧ PVs w ok caps us.toList
  | .nilf, v => v = .nilFunc
  | .sl .., _ => False
  | .ep .., _ => False
  | .ptr .., _ => False
  | .mp _, _ => False
  | .mbox .., _ => False
  | .rbox _, _ => False
  | .tbox .., _ => False
  | .bsl .., _ => False
  | .nilm, v => v = .map none
  | .vm ks vs, v => ∃ b es clk, v = .map (some b) ∧ ok b 0 ∧ w.heap[b]? = some (.map es clk) ∧ PVs w ok ks (es.toList.map (·.key)) ∧ PVs w ok vs (es.toList.map (·.val))
def PVs (w : World) (ok : Nat → Nat → Prop) : List AV → List Value → Prop
  | [], us => us = []
  | c :: cs, us => ∃ u us', us = u :: us' ∧ PV w ok c u ∧ PVs w ok cs us'
def PCells (w : World) (ok : Nat → Nat → Prop) (b o : Nat) : List AV → Prop
  | [] => True
  | c :: cs => (∃ u, ok b o ∧ w.cell? ⟨b, o, none⟩ = some u ∧ u.oneCell' = true ∧ PV w ok c u) ∧ PCells w ok b (o + 1) cs
def PEls (w : World) (ok : Nat → Nat → Prop) (sz b o : Nat) : List AV → Prop
  | [] => True
  | .agg cs :: xs => cs.length = sz ∧ PCells w ok b o cs ∧ PEls w ok sz b (o + sz) xs
  | x :: xs => sz = 1 ∧ (∃ u, ok b o ∧ w.cell? ⟨b, o, none⟩ = some u ∧ u.oneCell' = true ∧ PV w ok x u) ∧ PEls w ok sz b (o + sz) xs
end
def PElem (w : World) (ok : Nat → Nat → Prop) (sz b o : Nat) (x : AV) : Prop := x.cells.length = sz ∧ PCells w ok b o x.cells
theorem PEls_cons {w : World} {ok : Nat → Nat → Prop} {sz b o : Nat} {x : AV} {xs : List AV} :
    PEls w ok sz b o (x :: xs) ↔ PElem w ok sz b o x ∧ PEls w ok sz b (o + sz) xs := by
  cases x with
  | agg cs => simp only [PEls, PElem, AV.cells, and_assoc]
  | _ =>
    simp only [PEls, PElem, AV.cells, PCells, and_true, List.length_cons, List.length_nil, Nat.zero_add]
    exact ⟨fun h => ⟨⟨h.1.symm, h.2.1⟩, h.2.2⟩, fun h => ⟨h.1.1.symm, h.1.2, h.2⟩⟩
theorem PEls_get {w : World} {ok : Nat → Nat → Prop} {sz b : Nat} {xs : List AV} : ∀ {o : Nat}, PEls w ok sz b o xs → ∀ {j : Nat} {x : AV}, xs[j]? = some x → PElem w ok sz b (o + j * sz) x := by
  induction xs with
  | nil => intro o _ j x h; simp at h
  | cons y ys ih =>
    intro o h j x hj
    rw [PEls_cons] at h
    cases j with
    | zero => simp at hj; subst hj; simpa using h.1
    | succ j =>
      have := ih h.2 (j := j) (x := x) (by simpa using hj)
      rwa [show o + sz + j * sz = o + (j + 1) * sz from by rw [Nat.succ_mul]; omega] at this
theorem PEls_of {w : World} {ok : Nat → Nat → Prop} {sz b : Nat} {xs : List AV} : ∀ {o : Nat}, (∀ j x, xs[j]? = some x → PElem w ok sz b (o + j * sz) x) → PEls w ok sz b o xs := by
  induction xs with
  | nil => intro o _; simp [PEls]
  | cons y ys ih =>
    intro o h
    rw [PEls_cons]
    refine ⟨by simpa using h 0 y rfl, ih fun j x hj => ?_⟩
    have := h (j + 1) x (by simpa using hj)
    rwa [show o + (j + 1) * sz = o + sz + j * sz from by rw [Nat.succ_mul]; omega] at this
theorem PCells_get {w : World} {ok : Nat → Nat → Prop} {b : Nat} {cs : List AV} : ∀ {o : Nat}, PCells w ok b o cs → ∀ {j : Nat} {c : AV}, cs[j]? = some c →
    ∃ u, ok b (o + j) ∧ w.cell? ⟨b, o + j, none⟩ = some u ∧ u.oneCell' = true ∧ PV w ok c u := by
  induction cs with
  | nil => intro o _ j c h; simp at h
  | cons y ys ih =>
    intro o h j c hj
    simp only [PCells] at h
    cases j with
    | zero => simp at hj; subst hj; simpa using h.1
    | succ j =>
      have := ih h.2 (j := j) (c := c) (by simpa using hj)
      rwa [show o + 1 + j = o + (j + 1) from by omega] at this
theorem PCells_of {w : World} {ok : Nat → Nat → Prop} {b : Nat} {cs : List AV} : ∀ {o : Nat}, (∀ j c, cs[j]? = some c → ∃ u, ok b (o + j) ∧ w.cell? ⟨b, o + j, none⟩ = some u ∧ u.oneCell' = true ∧ PV w ok c u) → PCells w ok b o cs := by
  induction cs with
  | nil => intro o _; simp [PCells]
  | cons y ys ih =>
    intro o h
    simp only [PCells]
    refine ⟨by simpa using h 0 y rfl, ih fun j c hj => ?_⟩
    have := h (j + 1) c (by simpa using hj)
    rwa [show o + (j + 1) = o + 1 + j from by omega] at this
theorem PVs_get {w : World} {ok : Nat → Nat → Prop} {cs : List AV} : ∀ {us : List Value}, PVs w ok cs us → us.length = cs.length ∧ ∀ {j : Nat} {c : AV}, cs[j]? = some c → ∃ u, us[j]? = some u ∧ PV w ok c u := by
  induction cs with
  | nil => intro us h; simp [PVs] at h; subst h; simp
  | cons y ys ih =>
    intro us h
    simp only [PVs] at h
    obtain ⟨u, us', rfl, h1, h2⟩ := h
    obtain ⟨hl, hg⟩ := ih h2
    refine ⟨by simp [hl], fun {j c} hj => ?_⟩
    cases j with
    | zero => simp at hj; subst hj; exact ⟨u, rfl, h1⟩
    | succ j => simpa using hg (j := j) (c := c) (by simpa using hj)
theorem PVs_of {w : World} {ok : Nat → Nat → Prop} {cs : List AV} : ∀ {us : List Value}, us.length = cs.length → (∀ (j : Nat) (c : AV) (u : Value), cs[j]? = some c → us[j]? = some u → PV w ok c u) → PVs w ok cs us := by
  induction cs with
  | nil => intro us hl _; simp [PVs]; simpa using hl
  | cons y ys ih =>
    intro us hl h
    cases us with
    | nil => simp at hl
    | cons u us' =>
      simp only [PVs]
      exact ⟨u, us', rfl, h 0 y u rfl rfl, ih (by simpa using hl) fun j c v hc hv => h (j + 1) c v (by simpa using hc) (by simpa using hv)⟩
mutual
theorem PV_mono {w w' : World} {ok ok' : Nat → Nat → Prop} (h : ∀ b o, ok b o → ok' b o ∧ Stay w w' b o) : ∀ (x : AV) (v : Value), PV w ok x v → PV w' ok' x v
  | .junk, v, hx => by simpa [PV] using hx
  | .bool b, v, hx => by simpa [PV] using hx
  | .int k n, v, hx => by simpa [PV] using hx
  | .str s, v, hx => by simpa [PV] using hx
  | .agg cs, v, hx => by
    simp only [PV] at hx ⊢
    obtain ⟨us, rfl, h1, hu⟩ := hx
    exact ⟨us, rfl, h1, PVs_mono h cs us.toList hu⟩
  | .tup cs, v, hx => by
    simp only [PV] at hx ⊢
    obtain ⟨us, rfl, hu⟩ := hx
    exact ⟨us, rfl, PVs_mono h cs us.toList hu⟩
  | .vs full sz xs, v, hx => by
    simp only [PV] at hx ⊢
    obtain ⟨a, len, cap, rfl, h1, h2, h3, h4, h5, h6⟩ := hx
    refine ⟨a, len, cap, rfl, h1, h2, h3, h4, h5, fun hne => ?_⟩
    obtain ⟨b, o, ha, hs, he⟩ := h6 hne
    exact ⟨b, o, ha, hs, PEls_mono h sz b o xs he⟩
  | .pv cs, v, hx => by
    simp only [PV] at hx ⊢
    obtain ⟨b, o, rfl, hc⟩ := hx
    exact ⟨b, o, rfl, PCells_mono h b o cs hc⟩
  | .nilp, v, hx => by simpa [PV] using hx
  | .fn f caps, v, hx => by
    simp only [PV] at hx ⊢
    obtain ⟨us, rfl, hu⟩ := hx
    exact ⟨us, rfl, PVs_mono h caps us.toList hu⟩
  | .nilf, v, hx => by simpa [PV] using hx
  | .sl .., _, hx => by simp [PV] at hx
  | .ep .., _, hx => by simp [PV] at hx
  | .ptr .., _, hx => by simp [PV] at hx
  | .mp _, _, hx => by simp [PV] at hx
  | .mbox .., _, hx => by simp [PV] at hx
  | .rbox _, _, hx => by simp [PV] at hx
  | .tbox .., _, hx => by simp [PV] at hx
  | .bsl .., _, hx => by simp [PV] at hx
  | .nilm, v, hx => by simpa [PV] using hx
  | .vm ks vs, v, hx => by
    simp only [PV] at hx ⊢
    obtain ⟨b, es, clk, rfl, h1, h2, h3, h4⟩ := hx
    exact ⟨b, es, clk, rfl, (h b 0 h1).1, (h b 0 h1).2.2 es clk h2, PVs_mono h ks _ h3, PVs_mono h vs _ h4⟩
theorem PVs_mono {w w' : World} {ok ok' : Nat → Nat → Prop} (h : ∀ b o, ok b o → ok' b o ∧ Stay w w' b o) : ∀ (cs : List AV) (us : List Value), PVs w ok cs us → PVs w' ok' cs us
  | [], us, hx => by simpa [PVs] using hx
  | c :: cs, us, hx => by
    simp only [PVs] at hx ⊢
    obtain ⟨u, us', rfl, h1, h2⟩ := hx
    exact ⟨u, us', rfl, PV_mono h c u h1, PVs_mono h cs us' h2⟩
theorem PCells_mono {w w' : World} {ok ok' : Nat → Nat → Prop} (h : ∀ b o, ok b o → ok' b o ∧ Stay w w' b o) (b o : Nat) : ∀ (cs : List AV), PCells w ok b o cs → PCells w' ok' b o cs
  | [], _ => by simp [PCells]
  | c :: cs, hx => by
    simp only [PCells] at hx ⊢
    obtain ⟨⟨u, h1, h2, h3, h4⟩, h5⟩ := hx
    exact ⟨⟨u, (h b o h1).1, by rw [(h b o h1).2.1]; exact h2, h3, PV_mono h c u h4⟩, PCells_mono h b (o + 1) cs h5⟩
theorem PEls_mono {w w' : World} {ok ok' : Nat → Nat → Prop} (h : ∀ b o, ok b o → ok' b o ∧ Stay w w' b o) (sz b o : Nat) : ∀ (xs : List AV), PEls w ok sz b o xs → PEls w' ok' sz b o xs
  | [], _ => by simp [PEls]
  | .agg cs :: xs, hx => by
    simp only [PEls] at hx ⊢
    exact ⟨hx.1, PCells_mono h b o cs hx.2.1, PEls_mono h sz b (o + sz) xs hx.2.2⟩
  | x :: xs, hx => by
    rw [PEls_cons] at hx ⊢
    refine ⟨?_, PEls_mono h sz b (o + sz) xs hx.2⟩
    cases x with
    | agg cs => exact ⟨hx.1.1, PCells_mono h b o cs hx.1.2⟩
    | _ =>
      refine ⟨hx.1.1, ?_⟩
      have hc := hx.1.2
      simp only [AV.cells, PCells] at hc ⊢
      obtain ⟨⟨u, h1, h2, h3, h4⟩, h5⟩ := hc
      exact ⟨⟨u, (h b o h1).1, by rw [(h b o h1).2.1]; exact h2, h3, PV_mono h _ u h4⟩, trivial⟩
end
structure Img where
  b : Nat
  o : Nat
  cap : Nat
  lo : Nat
structure Env where
  w : World
  base : Nat
  ok0 : Nat → Nat → Prop
  nb : Nat → Nat
  im : Nat → Img
  h : AH
def Env.Live (E : Env) (i : Nat) : Prop := ∃ cs, E.h.boxes[i]? = some cs ∧ isHole cs = false
theorem Env.Live.lt {E : Env} {i : Nat} (h : E.Live i) : i < E.h.boxes.length := by
  obtain ⟨cs, h, _⟩ := h
  exact (List.getElem?_eq_some_iff.1 h).1
theorem Env.Live.ne {E : Env} {i : Nat} {cs : List AV} (h : E.Live i) (hi : E.h.boxes[i]? = some cs) : isHole cs = false := by
  obtain ⟨cs', h1, h2⟩ := h
  rw [hi] at h1
  cases h1
  exact h2
theorem live_of {E : Env} {i : Nat} {cs : List AV} (hi : E.h.boxes[i]? = some cs) (h : isHole cs = false) : E.Live i := ⟨cs, hi, h⟩
theorem live_same {E E' : Env} (h : E'.h.boxes = E.h.boxes) {i : Nat} : E'.Live i ↔ E.Live i := by unfold Env.Live; rw [h]
theorem isHole_row {cs : List AV} (h : isMB cs = false) : isHole cs = false := by
  unfold isHole
  split
  · simp [isMB] at h
  · rfl
def Env.ok (E : Env) (b o : Nat) : Prop :=
  (b < E.base ∧ E.ok0 b o) ∨
  (E.base ≤ b ∧ b < E.w.heap.size ∧ (∀ i, E.Live i → E.nb i = b → ∃ cs, E.h.boxes[i]? = some [.rbox cs]) ∧
    ∀ k f, E.h.fams[k]? = some f → (E.im k).b = b → f.wr = false ∧ o < (E.im k).o + (f.xs.length - (E.im k).lo) * f.sz)
mutual
def VR (E : Env) : AV → Value → Prop
  | .agg cs, v => ∃ us : Array Value, v = .agg us ∧ (∀ u ∈ us.toList, u.oneCell' = true) ∧ VRs E cs us.toList
  | .tup cs, v => ∃ us : Array Value, v = .tuple us ∧ VRs E cs us.toList
  | .fn f caps, v => ∃ us : Array Value, v = .func (.func f) #[] us ∧ VRs E caps us.toList
  | .sl k n off len, v => ∃ a cap f, v = .slice a len cap ∧ E.h.fams[k]? = some f ∧ (n ≤ f.xs.length ∧ (len ≠ 0 → ∃ b o, a = some ⟨b, o, none⟩)) ∧ (f.xs.length = n →
      (E.im k).lo ≤ off ∧ off + len ≤ n ∧ cap + (off - (E.im k).lo) = (E.im k).cap ∧ a ≠ none ∧
      (cap ≠ 0 → a = some ⟨(E.im k).b, (E.im k).o + (off - (E.im k).lo) * f.sz, none⟩))
  | .ep k n i c sz, v => ∃ b o f, v = .pointer (some ⟨b, o, none⟩) ∧ E.h.fams[k]? = some f ∧ n ≤ f.xs.length ∧ (f.xs.length = n ∧ f.sz = sz →
      (E.im k).lo ≤ i ∧ (⟨b, o, none⟩ : Addr) = ⟨(E.im k).b, (E.im k).o + (i - (E.im k).lo) * f.sz + c, none⟩)
  | .ptr b off, v => E.Live b ∧ v = .pointer (some ⟨E.nb b, off, none⟩)
  | .mp b, v => E.Live b ∧ v = .map (some (E.nb b))
  | .mbox .., _ => False
  | .rbox _, _ => False
  | .tbox .., _ => False
  | .bsl b _ off len, v => E.Live b ∧ ∃ cap, v = .slice (some ⟨E.nb b, off, none⟩) len cap ∧ len ≤ cap ∧ cap ≤ maxLen
  | .nilm, v => v = .map none
  | .vm ks vs, v => PV E.w E.ok (.vm ks vs) v
  | .junk, v => v.oneCell' = true
  | .bool b, v => v = .bool b
  | .int k n, v => v = .int k n
  | .str s, v => v = .string s
  | .vs full sz xs, v => PV E.w E.ok (.vs full sz xs) v
  | .pv cs, v => PV E.w E.ok (.pv cs) v
  | .nilp, v => v = .pointer none
  | .nilf, v => v = .nilFunc
def VRs (E : Env) : List AV → List Value → Prop
  | [], us => us = []
  | c :: cs, us => ∃ u us', us = u :: us' ∧ VR E c u ∧ VRs E cs us'
end
theorem VRs_get {E : Env} {cs : List AV} : ∀ {us : List Value}, VRs E cs us → us.length = cs.length ∧ ∀ {j : Nat} {c : AV}, cs[j]? = some c → ∃ u, us[j]? = some u ∧ VR E c u := by
  induction cs with
  | nil => intro us h; simp [VRs] at h; subst h; simp
  | cons y ys ih =>
    intro us h
    simp only [VRs] at h
    obtain ⟨u, us', rfl, h1, h2⟩ := h
    obtain ⟨hl, hg⟩ := ih h2
    refine ⟨by simp [hl], fun {j c} hj => ?_⟩
    cases j with
    | zero => simp at hj; subst hj; exact ⟨u, rfl, h1⟩
    | succ j => simpa using hg (j := j) (c := c) (by simpa using hj)
theorem VRs_of {E : Env} {cs : List AV} : ∀ {us : List Value}, us.length = cs.length → (∀ (j : Nat) (c : AV) (u : Value), cs[j]? = some c → us[j]? = some u → VR E c u) → VRs E cs us := by
  induction cs with
  | nil => intro us hl _; simp [VRs]; simpa using hl
  | cons y ys ih =>
    intro us hl h
    cases us with
    | nil => simp at hl
    | cons u us' =>
      simp only [VRs]
      exact ⟨u, us', rfl, h 0 y u rfl rfl, ih (by simpa using hl) fun j c v hc hv => h (j + 1) c v (by simpa using hc) (by simpa using hv)⟩
mutual
theorem VR_of_PV {E : Env} : ∀ (x : AV) (v : Value), PV E.w E.ok x v → VR E x v
  | .junk, v, hx => by simpa [VR, PV] using hx
  | .bool b, v, hx => by simpa [PV, VR] using hx
  | .int k n, v, hx => by simpa [PV, VR] using hx
  | .str s, v, hx => by simpa [PV, VR] using hx
  | .agg cs, v, hx => by
    simp only [PV, VR] at hx ⊢
    obtain ⟨us, rfl, h1, hu⟩ := hx
    exact ⟨us, rfl, h1, VRs_of_PVs cs us.toList hu⟩
  | .tup cs, v, hx => by
    simp only [PV, VR] at hx ⊢
    obtain ⟨us, rfl, hu⟩ := hx
    exact ⟨us, rfl, VRs_of_PVs cs us.toList hu⟩
  | .vs full sz xs, v, hx => by simp only [VR]; exact hx
  | .pv cs, v, hx => by simp only [VR]; exact hx
  | .nilp, v, hx => by simpa [PV, VR] using hx
  | .fn f caps, v, hx => by
    simp only [PV, VR] at hx ⊢
    obtain ⟨us, rfl, hu⟩ := hx
    exact ⟨us, rfl, VRs_of_PVs caps us.toList hu⟩
  | .nilf, v, hx => by simpa [PV, VR] using hx
  | .sl .., _, hx => by simp [PV] at hx
  | .ep .., _, hx => by simp [PV] at hx
  | .ptr .., _, hx => by simp [PV] at hx
  | .mp _, _, hx => by simp [PV] at hx
  | .mbox .., _, hx => by simp [PV] at hx
  | .rbox _, _, hx => by simp [PV] at hx
  | .tbox .., _, hx => by simp [PV] at hx
  | .bsl .., _, hx => by simp [PV] at hx
  | .nilm, v, hx => by simpa [PV, VR] using hx
  | .vm ks vs, v, hx => by simp only [VR]; exact hx
theorem VRs_of_PVs {E : Env} : ∀ (cs : List AV) (us : List Value), PVs E.w E.ok cs us → VRs E cs us
  | [], us, hx => by simpa [PVs, VRs] using hx
  | c :: cs, us, hx => by
    simp only [PVs, VRs] at hx ⊢
    obtain ⟨u, us', rfl, h1, h2⟩ := hx
    exact ⟨u, us', rfl, VR_of_PV c u h1, VRs_of_PVs cs us' h2⟩
end
structure Bl (B : Nat) (w w' : World) : Prop where
  below : Go.RowKit.Below B w w'
  drawn : needDraws = true → w.drawn ≤ w'.drawn
theorem Bl.refl (B : Nat) (w : World) : Bl B w w := ⟨Go.RowKit.Below.refl _ _, fun _ => Nat.le_refl _⟩
theorem Bl.trans {B : Nat} {a b c : World} (h : Bl B a b) (k : Bl B b c) : Bl B a c := ⟨h.below.trans k.below, fun e => Nat.le_trans (h.drawn e) (k.drawn e)⟩
theorem Bl.size {B : Nat} {w w' : World} (h : Bl B w w') : w.heap.size ≤ w'.heap.size := h.below.size
theorem Bl.block {B : Nat} {w w' : World} (h : Bl B w w') : ∀ k, k < B → w'.heap[k]? = w.heap[k]? := h.below.block
theorem Bl.mono {B B' : Nat} {w w' : World} (h : Bl B w w') (hB : B' ≤ B) : Bl B' w w' := ⟨h.below.mono hB, h.drawn⟩
structure Ext (E E' : Env) : Prop where
  cells : ∀ b o, E.ok b o → E'.ok b o ∧ Stay E.w E'.w b o
  boxes : E.h.boxes.length ≤ E'.h.boxes.length
  nb : ∀ i, E.Live i → E'.Live i ∧ E'.nb i = E.nb i
  fams : E.h.fams.length ≤ E'.h.fams.length
  im : ∀ k f f', E.h.fams[k]? = some f → E'.h.fams[k]? = some f' → f'.sz = f.sz ∧ f.xs.length ≤ f'.xs.length ∧ (f'.xs.length = f.xs.length → E'.im k = E.im k)
  base : E'.base = E.base
  ok0 : E'.ok0 = E.ok0
  below : Bl E.base E.w E'.w
theorem Ext.refl (E : Env) : Ext E E :=
  ⟨fun _ _ h => ⟨h, Stay.refl _ _ _⟩, Nat.le_refl _, fun _ h => ⟨h, rfl⟩, Nat.le_refl _, fun k f f' h h' => by rw [h] at h'; cases h'; exact ⟨rfl, Nat.le_refl _, fun _ => rfl⟩, rfl, rfl, Bl.refl _ _⟩
theorem Ext.trans {E E' E'' : Env} (h : Ext E E') (k : Ext E' E'') : Ext E E'' := by
  refine ⟨fun b o ho => ?_, Nat.le_trans h.boxes k.boxes, fun i hi => ⟨(k.nb i (h.nb i hi).1).1, (k.nb i (h.nb i hi).1).2.trans (h.nb i hi).2⟩, Nat.le_trans h.fams k.fams, fun j f f'' hf hf'' => ?_, k.base.trans h.base, k.ok0.trans h.ok0, ?_⟩
  · obtain ⟨h1, h2⟩ := h.cells b o ho
    obtain ⟨h3, h4⟩ := k.cells b o h1
    exact ⟨h3, h2.trans h4⟩
  · have hlt : j < E'.h.fams.length := Nat.lt_of_lt_of_le (List.getElem?_eq_some_iff.1 hf).1 h.fams
    obtain ⟨a1, a2, a3⟩ := h.im j f _ hf (List.getElem?_eq_getElem hlt)
    obtain ⟨b1, b2, b3⟩ := k.im j _ f'' (List.getElem?_eq_getElem hlt) hf''
    refine ⟨b1.trans a1, Nat.le_trans a2 b2, fun he => ?_⟩
    rw [b3 (by omega), a3 (by omega)]
  · have hk := k.below
    rw [h.base] at hk
    exact h.below.trans hk
mutual
theorem VR_ext {E E' : Env} (h : Ext E E') : ∀ (x : AV) (v : Value), VR E x v → VR E' x v
  | .junk, v, hx => by simpa [VR] using hx
  | .bool b, v, hx => by simpa [VR] using hx
  | .int k n, v, hx => by simpa [VR] using hx
  | .str s, v, hx => by simpa [VR] using hx
  | .agg cs, v, hx => by
    simp only [VR] at hx ⊢
    obtain ⟨us, rfl, h1, hu⟩ := hx
    exact ⟨us, rfl, h1, VRs_ext h cs us.toList hu⟩
  | .tup cs, v, hx => by
    simp only [VR] at hx ⊢
    obtain ⟨us, rfl, hu⟩ := hx
    exact ⟨us, rfl, VRs_ext h cs us.toList hu⟩
  | .vs full sz xs, v, hx => by
    simp only [VR] at hx ⊢
    exact PV_mono h.cells _ _ hx
  | .pv cs, v, hx => by
    simp only [VR] at hx ⊢
    exact PV_mono h.cells _ _ hx
  | .nilp, v, hx => by simpa [VR] using hx
  | .fn f caps, v, hx => by
    simp only [VR] at hx ⊢
    obtain ⟨us, rfl, hu⟩ := hx
    exact ⟨us, rfl, VRs_ext h caps us.toList hu⟩
  | .nilf, v, hx => by simpa [VR] using hx
  | .sl k n off len, v, hx => by
    simp only [VR] at hx ⊢
    obtain ⟨a, cap, f, rfl, hf, hn, hc⟩ := hx
    have hlt : k < E'.h.fams.length := Nat.lt_of_lt_of_le (List.getElem?_eq_some_iff.1 hf).1 h.fams
    obtain ⟨h1, h2, h3⟩ := h.im k f _ hf (List.getElem?_eq_getElem hlt)
    refine ⟨a, cap, _, rfl, List.getElem?_eq_getElem hlt, ⟨by omega, hn.2⟩, fun he => ?_⟩
    rw [h3 (by omega), h1]
    exact hc (by omega)
  | .ep k n i c sz, v, hx => by
    simp only [VR] at hx ⊢
    obtain ⟨b, o, f, rfl, hf, hn, hc⟩ := hx
    have hlt : k < E'.h.fams.length := Nat.lt_of_lt_of_le (List.getElem?_eq_some_iff.1 hf).1 h.fams
    obtain ⟨h1, h2, h3⟩ := h.im k f _ hf (List.getElem?_eq_getElem hlt)
    refine ⟨b, o, _, rfl, List.getElem?_eq_getElem hlt, by omega, fun he => ?_⟩
    rw [h3 (by omega), h1]
    exact hc ⟨by omega, by rw [← h1]; exact he.2⟩
  | .ptr b off, v, hx => by
    simp only [VR] at hx ⊢
    exact ⟨(h.nb b hx.1).1, by rw [(h.nb b hx.1).2]; exact hx.2⟩
  | .mp b, v, hx => by
    simp only [VR] at hx ⊢
    exact ⟨(h.nb b hx.1).1, by rw [(h.nb b hx.1).2]; exact hx.2⟩
  | .mbox .., _, hx => by simp [VR] at hx
  | .rbox _, _, hx => by simp [VR] at hx
  | .tbox .., _, hx => by simp [VR] at hx
  | .bsl b sz off len, v, hx => by
    simp only [VR] at hx ⊢
    exact ⟨(h.nb b hx.1).1, by rw [(h.nb b hx.1).2]; exact hx.2⟩
  | .nilm, v, hx => by simpa [VR] using hx
  | .vm ks vs, v, hx => by
    simp only [VR] at hx ⊢
    exact PV_mono h.cells _ _ hx
theorem VRs_ext {E E' : Env} (h : Ext E E') : ∀ (cs : List AV) (us : List Value), VRs E cs us → VRs E' cs us
  | [], us, hx => by simpa [VRs] using hx
  | c :: cs, us, hx => by
    simp only [VRs] at hx ⊢
    obtain ⟨u, us', rfl, h1, h2⟩ := hx
    exact ⟨u, us', rfl, VR_ext h c u h1, VRs_ext h cs us' h2⟩
end
theorem VRs_hole {E : Env} {cs : List AV} {us : List Value} (h : VRs E cs us) : isHole cs = false := by
  unfold isHole
  split
  · simp only [VRs] at h
    obtain ⟨u, us', _, h1, _⟩ := h
    simp [VR] at h1
  · rfl
end Go.Abs
namespace Go.Abs
open Go.RowKit (Below)
def FElem (E : Env) (cur : Array Value) (p sz : Nat) (x : AV) : Prop :=
  x.cells.length = sz ∧ ∀ (c : Nat) (y : AV), x.cells[c]? = some y → ∃ v, cur[p + c]? = some v ∧ v.oneCell' = true ∧ PV E.w E.ok y v
structure FamR (E : Env) (k : Nat) (f : Fam) : Prop where
  base : E.base ≤ (E.im k).b
  sz : 0 < f.sz
  lo : (E.im k).lo ≤ f.xs.length
  room : f.xs.length ≤ (E.im k).lo + (E.im k).cap
  cap : (E.im k).cap ≤ maxLen
  cells : ∃ cur t, E.w.heap[(E.im k).b]? = some (.cells cur t (0, 0)) ∧ (E.im k).o + (E.im k).cap * f.sz ≤ cur.size ∧
    ∀ (i : Nat) (x : AV), (E.im k).lo ≤ i → f.xs[i]? = some x → FElem E cur ((E.im k).o + (i - (E.im k).lo) * f.sz) f.sz x
def RowBox (E : Env) (i : Nat) (cs : List AV) : Prop := ∃ cur t, E.w.heap[E.nb i]? = some (.cells cur t (0, 0)) ∧ VRs E cs cur.toList ∧ ∀ v ∈ cur.toList, v.oneCell' = true
def MapBox (E : Env) (i : Nat) (cs : List AV) : Prop := ∃ ks vs es clk, cs = [.mbox ks vs] ∧ E.w.heap[E.nb i]? = some (.map es clk) ∧ PVs E.w E.ok ks (es.toList.map (·.key)) ∧ PVs E.w E.ok vs (es.toList.map (·.val))
def RoBox (E : Env) (i : Nat) (cs : List AV) : Prop := ∃ ys cur t, cs = [.rbox ys] ∧ E.w.heap[E.nb i]? = some (.cells cur t (0, 0)) ∧ PVs E.w E.ok ys cur.toList ∧ ∀ v ∈ cur.toList, v.oneCell' = true
def TypBox (E : Env) (i : Nat) (cs : List AV) : Prop := ∃ T ys cur, cs = [.tbox T ys] ∧ E.w.heap[E.nb i]? = some (.cells cur T (0, 0)) ∧ VRs E ys (cur.toList.take ys.length) ∧ ∀ v ∈ cur.toList, v.oneCell' = true
def BoxR (E : Env) (i : Nat) (cs : List AV) : Prop := E.base ≤ E.nb i ∧ (RowBox E i cs ∨ MapBox E i cs ∨ RoBox E i cs ∨ TypBox E i cs)
theorem BoxR.row {E : Env} {i : Nat} {cs : List AV} (h : BoxR E i cs) (hm : isMB cs = false) : ∃ cur t, E.w.heap[E.nb i]? = some (.cells cur t (0, 0)) ∧ VRs E cs cur.toList ∧ ∀ v ∈ cur.toList, v.oneCell' = true := by
  rcases h.2 with h | ⟨ks, vs, es, clk, rfl, _⟩ | ⟨ys, cur, t, rfl, _⟩ | ⟨T, ys, cur, rfl, _⟩
  · exact h
  · simp [isMB] at hm
  · simp [isMB] at hm
  · simp [isMB] at hm
theorem BoxR.typ {E : Env} {i : Nat} {T : TypeId} {ys : List AV} (h : BoxR E i [.tbox T ys]) : ∃ cur, E.w.heap[E.nb i]? = some (.cells cur T (0, 0)) ∧ VRs E ys (cur.toList.take ys.length) ∧ ∀ v ∈ cur.toList, v.oneCell' = true := by
  rcases h.2 with ⟨cur, t, _, h, _⟩ | ⟨ks', vs', es, clk, e, h1, h2, h3⟩ | ⟨ys', cur, t, e, _⟩ | ⟨T', ys', cur, e, h1, h2, h3⟩
  · simp [VRs, VR] at h
  · cases e
  · cases e
  · cases e
    exact ⟨cur, h1, h2, h3⟩
theorem BoxR.map {E : Env} {i : Nat} {ks vs : List AV} (h : BoxR E i [.mbox ks vs]) : ∃ es clk, E.w.heap[E.nb i]? = some (.map es clk) ∧ PVs E.w E.ok ks (es.toList.map (·.key)) ∧ PVs E.w E.ok vs (es.toList.map (·.val)) := by
  rcases h.2 with ⟨cur, t, _, h, _⟩ | ⟨ks', vs', es, clk, e, h1, h2, h3⟩ | ⟨ys, cur, t, e, _⟩ | ⟨T, ys, cur, e, _⟩
  · simp [VRs, VR] at h
  · cases e
    exact ⟨es, clk, h1, h2, h3⟩
  · cases e
  · cases e
structure SR (E : Env) : Prop where
  basele : E.base ≤ E.w.heap.size
  boxes : ∀ (i : Nat) (cs : List AV), E.h.boxes[i]? = some cs → isHole cs = false → BoxR E i cs
  fams : ∀ (k : Nat) (f : Fam), E.h.fams[k]? = some f → FamR E k f
  inj : ∀ i j, E.Live i → E.Live j → E.nb i = E.nb j → i = j
  injf : ∀ k j, k < E.h.fams.length → j < E.h.fams.length → (E.im k).b = (E.im j).b → k = j
  sep : ∀ i k, E.Live i → k < E.h.fams.length → E.nb i ≠ (E.im k).b
section
variable {E : Env}
theorem heap_lt {w : World} {b : Nat} {o : Obj} (h : w.heap[b]? = some o) : b < w.heap.size := (Array.getElem?_eq_some_iff.1 h).1
theorem SR.nb_lt (h : SR E) {i : Nat} (hi : E.Live i) : E.base ≤ E.nb i ∧ E.nb i < E.w.heap.size := by
  obtain ⟨cs, hc, hh⟩ := hi
  obtain ⟨h1, ⟨cur, t, h2, _⟩ | ⟨ks, vs, es, clk, _, h2, _⟩ | ⟨ys, cur, t, _, h2, _⟩ | ⟨T, ys, cur, _, h2, _⟩⟩ := h.boxes i _ hc hh
  · exact ⟨h1, heap_lt h2⟩
  · exact ⟨h1, heap_lt h2⟩
  · exact ⟨h1, heap_lt h2⟩
  · exact ⟨h1, heap_lt h2⟩
theorem SR.im_lt (h : SR E) {k : Nat} (hk : k < E.h.fams.length) : E.base ≤ (E.im k).b ∧ (E.im k).b < E.w.heap.size := by
  have hf := h.fams k _ (List.getElem?_eq_getElem hk)
  obtain ⟨cur, t, h2, _⟩ := hf.cells
  exact ⟨hf.base, heap_lt h2⟩
theorem ok_lt (h : SR E) {b o : Nat} (hb : E.ok b o) : b < E.w.heap.size := by
  rcases hb with ⟨hb, _⟩ | ⟨_, hb, _⟩
  · exact Nat.lt_of_lt_of_le hb h.basele
  · exact hb
theorem cell_eq {w w' : World} {b o : Nat} (h : w'.heap[b]? = w.heap[b]?) : Stay w w' b o := ⟨World.cell?_of_block (a := ⟨b, o, none⟩) h, fun _ _ e => by rw [h]; exact e⟩
theorem BoxR.ext {E' : Env} (h : Ext E E') {i : Nat} {cs : List AV} (hi : E.Live i) (hb : E'.w.heap[E.nb i]? = E.w.heap[E.nb i]?) (hx : BoxR E i cs) : BoxR E' i cs := by
  obtain ⟨h1, ⟨cur, t, h2, h3, h4⟩ | ⟨ks, vs, es, clk, e, h2, h3, h4⟩ | ⟨ys, cur, t, e, h2, h3, h4⟩ | ⟨T, ys, cur, e, h2, h3, h4⟩⟩ := hx
  · exact ⟨by rw [h.base, (h.nb i hi).2]; exact h1, .inl ⟨cur, t, by rw [(h.nb i hi).2, hb]; exact h2, VRs_ext h _ _ h3, h4⟩⟩
  · exact ⟨by rw [h.base, (h.nb i hi).2]; exact h1, .inr (.inl ⟨ks, vs, es, clk, e, by rw [(h.nb i hi).2, hb]; exact h2, PVs_mono h.cells _ _ h3, PVs_mono h.cells _ _ h4⟩)⟩
  · exact ⟨by rw [h.base, (h.nb i hi).2]; exact h1, .inr (.inr (.inl ⟨ys, cur, t, e, by rw [(h.nb i hi).2, hb]; exact h2, PVs_mono h.cells _ _ h3, h4⟩))⟩
  · exact ⟨by rw [h.base, (h.nb i hi).2]; exact h1, .inr (.inr (.inr ⟨T, ys, cur, e, by rw [(h.nb i hi).2, hb]; exact h2, VRs_ext h _ _ h3, h4⟩))⟩
theorem FElem.ext {E' : Env} (h : Ext E E') {cur : Array Value} {p sz : Nat} {x : AV} (hx : FElem E cur p sz x) : FElem E' cur p sz x :=
  ⟨hx.1, fun c y hc => by obtain ⟨v, h1, h2, h3⟩ := hx.2 c y hc; exact ⟨v, h1, h2, PV_mono h.cells _ _ h3⟩⟩
theorem FamR.ext {E' : Env} (h : Ext E E') {k : Nat} {f : Fam} (him : E'.im k = E.im k) (hb : E'.w.heap[(E.im k).b]? = E.w.heap[(E.im k).b]?) (hx : FamR E k f) : FamR E' k f := by
  obtain ⟨cur, t, h1, h2, h3⟩ := hx.cells
  refine ⟨by rw [h.base, him]; exact hx.base, hx.sz, by rw [him]; exact hx.lo, by rw [him]; exact hx.room, by rw [him]; exact hx.cap, cur, t, by rw [him, hb]; exact h1, by rw [him]; exact h2, ?_⟩
  rw [him]
  exact fun i x hi hx' => (h3 i x hi hx').ext h
theorem grow_ext (h : SR E) {w' : World} (hb : Bl E.w.heap.size E.w w') : Ext E { E with w := w' } := by
  refine ⟨fun b o ho => ?_, Nat.le_refl _, fun _ h => ⟨h, rfl⟩, Nat.le_refl _, fun k f f' hf hf' => ?_, rfl, rfl, hb.mono h.basele⟩
  · have hlt := ok_lt h ho
    refine ⟨?_, cell_eq (hb.block b hlt)⟩
    rcases ho with ho | ⟨h1, _, h3, h4⟩
    · exact .inl ho
    · exact .inr ⟨h1, Nat.lt_of_lt_of_le hlt hb.size, h3, h4⟩
  · have : f = f' := by have := hf.symm.trans hf'; simpa using this
    subst this
    exact ⟨rfl, Nat.le_refl _, fun _ => rfl⟩
theorem grow_SR (h : SR E) {w' : World} (hb : Bl E.w.heap.size E.w w') : SR { E with w := w' } := by
  have hx := grow_ext h hb
  refine ⟨Nat.le_trans h.basele hb.size, fun i cs hi hh => ?_, fun k f hk => ?_, h.inj, h.injf, h.sep⟩
  · have hi' : E.Live i := live_of hi hh
    exact (h.boxes i cs hi hh).ext hx hi' (hb.block _ (h.nb_lt hi').2)
  · have hk' := (List.getElem?_eq_some_iff.1 hk).1
    exact (h.fams k f hk).ext hx rfl (hb.block _ (h.im_lt hk').2)
def upd {α : Type} (f : Nat → α) (n : Nat) (x : α) : Nat → α := fun i => if i = n then x else f i
theorem upd_same {α : Type} (f : Nat → α) (n : Nat) (x : α) : upd f n x n = x := by simp [upd]
theorem upd_other {α : Type} (f : Nat → α) {n i : Nat} (x : α) (h : i ≠ n) : upd f n x i = f i := by simp [upd, h]
theorem live_app {E E' : Env} {cs : List AV} (e : E'.h.boxes = E.h.boxes ++ [cs]) {i : Nat} (h : E'.Live i) : E.Live i ∨ i = E.h.boxes.length := by
  by_cases hi : i < E.h.boxes.length
  · obtain ⟨x, h1, h2⟩ := h
    rw [e, List.getElem?_append_left hi] at h1
    exact .inl ⟨x, h1, h2⟩
  · have := h.lt
    rw [e] at this
    simp at this
    exact .inr (by omega)
theorem live_keep {E E' : Env} {cs : List AV} (e : E'.h.boxes = E.h.boxes ++ [cs]) {i : Nat} (h : E.Live i) : E'.Live i := by
  have hi := h.lt
  obtain ⟨x, h1, h2⟩ := h
  exact ⟨x, by rw [e, List.getElem?_append_left hi]; exact h1, h2⟩
theorem live_set {E E' : Env} {cs : List AV} {j : Nat} (e : E'.h.boxes = E.h.boxes.set j cs) (hc : isHole cs = false) {i : Nat} (h : E.Live i) : E'.Live i := by
  obtain ⟨x, h1, h2⟩ := h
  by_cases hn : j = i
  · subst hn
    exact ⟨cs, by rw [e, List.getElem?_set_self (List.getElem?_eq_some_iff.1 h1).1], hc⟩
  · exact ⟨x, by rw [e, List.getElem?_set_ne hn]; exact h1, h2⟩
theorem live_unset {E E' : Env} {cs : List AV} {j : Nat} (e : E'.h.boxes = E.h.boxes.set j cs) {i : Nat} (h : E'.Live i) : E.Live i ∨ i = j := by
  by_cases hn : j = i
  · exact .inr hn.symm
  · obtain ⟨x, h1, h2⟩ := h
    rw [e, List.getElem?_set_ne hn] at h1
    exact .inl ⟨x, h1, h2⟩
theorem live_new {E E' : Env} {cs : List AV} (e : E'.h.boxes = E.h.boxes ++ [cs]) (hc : isHole cs = false) : E'.Live E.h.boxes.length := ⟨cs, by rw [e]; simp, hc⟩
def Env.newBox (E : Env) (us : Array Value) (t : TypeId) (cs : List AV) : Env :=
  { E with w := E.w.alloc (.cells us t), nb := upd E.nb E.h.boxes.length E.w.heap.size, h := { E.h with boxes := E.h.boxes ++ [cs] } }
theorem newBox_ext (h : SR E) (us : Array Value) (t : TypeId) (cs : List AV) : Ext E (E.newBox us t cs) := by
  refine ⟨fun b o ho => ?_, by simp [Env.newBox], fun i hi => ⟨live_keep rfl hi, upd_other _ _ (by have := hi.lt; omega)⟩, Nat.le_refl _, fun k f f' hf hf' => ?_, rfl, rfl, ⟨(Below.refl _ _).alloc h.basele _, fun _ => Nat.le_refl _⟩⟩
  · have hlt := ok_lt h ho
    refine ⟨?_, cell_eq (Below.heap_alloc _ _ _ hlt)⟩
    rcases ho with ho | ⟨h1, _, h3, h4⟩
    · exact .inl ho
    · refine .inr ⟨h1, by simp [Env.newBox]; omega, fun i hi => ?_, h4⟩
      by_cases hn : i = E.h.boxes.length
      · subst hn; simp only [Env.newBox, upd_same]; intro e; omega
      · have hi' : E.Live i := (live_app (E := E) rfl hi).resolve_right hn
        simp only [Env.newBox, upd_other _ _ hn]
        intro e
        obtain ⟨cs', hcs'⟩ := h3 i hi' e
        exact ⟨cs', by rw [List.getElem?_append_left hi'.lt]; exact hcs'⟩
  · have : f = f' := by have := hf.symm.trans hf'; simpa using this
    subst this
    exact ⟨rfl, Nat.le_refl _, fun _ => rfl⟩
theorem newBox_SRg (h : SR E) {us : Array Value} {t : TypeId} {cs : List AV} (hbx : BoxR (E.newBox us t cs) E.h.boxes.length cs) : SR (E.newBox us t cs) := by
  have hx := newBox_ext h us t cs
  have hlen : (E.newBox us t cs).h.boxes.length = E.h.boxes.length + 1 := by simp [Env.newBox]
  have hnb : ∀ i, E.Live i → (E.newBox us t cs).nb i = E.nb i := fun i hi => upd_other _ _ (by have := hi.lt; omega)
  have hnew : (E.newBox us t cs).nb E.h.boxes.length = E.w.heap.size := upd_same _ _ _
  refine ⟨Nat.le_trans h.basele (by simp [Env.newBox]), fun i cs' hi hh => ?_, fun k f hk => ?_, fun i j hi hj he => ?_, h.injf, fun i k hi hk => ?_⟩
  · by_cases hn : i = E.h.boxes.length
    · subst hn
      have : cs' = cs := by simpa [Env.newBox] using hi.symm
      subst this
      exact hbx
    · have hi' : i < E.h.boxes.length := by have := (List.getElem?_eq_some_iff.1 hi).1; omega
      have hcs : E.h.boxes[i]? = some cs' := by
        simp only [Env.newBox] at hi
        rwa [List.getElem?_append_left hi'] at hi
      have hl := live_of hcs hh
      exact (h.boxes i cs' hcs hh).ext hx hl (Below.heap_alloc _ _ _ (h.nb_lt hl).2)
  · have hk' : k < E.h.fams.length := (List.getElem?_eq_some_iff.1 hk).1
    exact (h.fams k f hk).ext hx rfl (Below.heap_alloc _ _ _ (h.im_lt hk').2)
  · rcases live_app (E := E) rfl hi with hi' | rfl <;> rcases live_app (E := E) rfl hj with hj' | rfl
    · rw [hnb i hi', hnb j hj'] at he; exact h.inj i j hi' hj' he
    · rw [hnb i hi', hnew] at he; have := (h.nb_lt hi').2; omega
    · rw [hnb j hj', hnew] at he; have := (h.nb_lt hj').2; omega
    · rfl
  · have hk' : k < E.h.fams.length := hk
    rcases live_app (E := E) rfl hi with hi' | rfl
    · rw [hnb i hi']; exact h.sep i k hi' hk'
    · rw [hnew]
      have := (h.im_lt hk').2
      simp only [Env.newBox]
      omega
theorem newBox_nb (us : Array Value) (t : TypeId) (cs : List AV) : (E.newBox us t cs).nb E.h.boxes.length = E.w.heap.size := upd_same _ _ _
theorem newBox_SR (h : SR E) {us : Array Value} {t : TypeId} {cs : List AV} (hv : VRs E cs us.toList) (h1 : ∀ v ∈ us.toList, v.oneCell' = true) : SR (E.newBox us t cs) :=
  newBox_SRg h ⟨by rw [newBox_nb]; exact h.basele, .inl ⟨us, t, by rw [newBox_nb]; exact heap_alloc_new _ _, VRs_ext (newBox_ext h us t cs) _ _ hv, h1⟩⟩
theorem VRs_all {E : Env} {cs : List AV} {us : List Value} (h : VRs E cs us) : VRs E cs (us.take cs.length) := by
  rw [List.take_of_length_le (by rw [(VRs_get h).1]; exact Nat.le_refl _)]
  exact h
theorem newTBox_SR (h : SR E) {us : Array Value} {t : TypeId} {cs : List AV} (hv : VRs E cs (us.toList.take cs.length)) (h1 : ∀ v ∈ us.toList, v.oneCell' = true) : SR (E.newBox us t [.tbox t cs]) :=
  newBox_SRg h ⟨by rw [newBox_nb]; exact h.basele, .inr (.inr (.inr ⟨t, cs, us, rfl, by rw [newBox_nb]; exact heap_alloc_new _ _, VRs_ext (newBox_ext h us t _) _ _ hv, h1⟩))⟩
def Env.lay (E : Env) (k : Nat) : Env := { E with h := E.h.holes k }
theorem live_lay {k i : Nat} : (E.lay k).Live i ↔ E.Live i := by
  constructor
  · rintro ⟨x, h1, h2⟩
    have h1 : (E.h.boxes ++ List.replicate k holeB)[i]? = some x := h1
    by_cases hi : i < E.h.boxes.length
    · rw [List.getElem?_append_left hi] at h1
      exact ⟨x, h1, h2⟩
    · rw [List.getElem?_append_right (by omega), List.getElem?_replicate] at h1
      split at h1
      · cases h1; cases h2
      · cases h1
  · intro h
    have hi := h.lt
    obtain ⟨x, h1, h2⟩ := h
    exact ⟨x, by show (E.h.boxes ++ List.replicate k holeB)[i]? = some x; rw [List.getElem?_append_left hi]; exact h1, h2⟩
theorem lay_ext (k : Nat) : Ext E (E.lay k) := by
  refine ⟨fun b o ho => ⟨?_, Stay.refl _ _ _⟩, by simp [Env.lay, AH.holes], fun i hi => ⟨live_lay.2 hi, rfl⟩, Nat.le_refl _, fun j f f' hf hf' => ?_, rfl, rfl, Bl.refl _ _⟩
  · rcases ho with ho | ⟨h1, h2, h3, h4⟩
    · exact .inl ho
    · refine .inr ⟨h1, h2, fun i hi e => ?_, h4⟩
      have hl := live_lay.1 hi
      obtain ⟨cs, hcs⟩ := h3 i hl e
      exact ⟨cs, by show (E.h.boxes ++ List.replicate k holeB)[i]? = _; rw [List.getElem?_append_left hl.lt]; exact hcs⟩
  · have : f = f' := by have := hf.symm.trans hf'; simpa using this
    subst this
    exact ⟨rfl, Nat.le_refl _, fun _ => rfl⟩
theorem lay_SR (h : SR E) (k : Nat) : SR (E.lay k) := by
  have hx := lay_ext (E := E) k
  refine ⟨h.basele, fun i cs hi hh => ?_, fun j f hj => ?_, fun i j hi hj => h.inj i j (live_lay.1 hi) (live_lay.1 hj), h.injf, fun i j hi hj => h.sep i j (live_lay.1 hi) hj⟩
  · have hl := live_lay.1 (live_of hi hh)
    have hi' : E.h.boxes[i]? = some cs := by
      have hi : (E.h.boxes ++ List.replicate k holeB)[i]? = some cs := hi
      rwa [List.getElem?_append_left hl.lt] at hi
    exact (h.boxes i cs hi' hh).ext hx hl rfl
  · exact (h.fams j f hj).ext hx rfl rfl
def Env.setBox (E : Env) (i : Nat) (us : Array Value) (cs : List AV) : Env :=
  { E with w := E.w.setRow (E.nb i) us, h := { E.h with boxes := E.h.boxes.set i cs } }
theorem setRow_below {w : World} {B g : Nat} (us : Array Value) (hg : B ≤ g) : Below B w (w.setRow g us) :=
  ⟨rfl, rfl, rfl, by simp, fun k hk => setRow_other w g k us (by omega)⟩
theorem setBox_extg (h : SR E) {i : Nat} {old : List AV} (hold : E.h.boxes[i]? = some old) (hh : isHole old = false) (hro : ∀ ys, old ≠ [.rbox ys]) (us : Array Value) (cs : List AV) (hcs : isHole cs = false) : Ext E (E.setBox i us cs) := by
  have hi := live_of hold hh
  have hb := h.nb_lt hi
  refine ⟨fun b o ho => ?_, by simp [Env.setBox], fun _ h => ⟨live_set rfl hcs h, rfl⟩, Nat.le_refl _, fun k f f' hf hf' => ?_, rfl, rfl, ⟨setRow_below us hb.1, fun _ => Nat.le_refl _⟩⟩
  · have hne : b ≠ E.nb i := by
      rcases ho with ⟨ho, _⟩ | ⟨_, _, h3, _⟩
      · omega
      · intro e
        obtain ⟨cs', hcs'⟩ := h3 i hi e.symm
        rw [hold] at hcs'
        exact hro _ (Option.some.inj hcs')
    refine ⟨?_, cell_eq (setRow_other _ _ _ _ hne)⟩
    rcases ho with ho | ⟨h1, h2, h3, h4⟩
    · exact .inl ho
    · refine .inr ⟨h1, by simpa [Env.setBox] using h2, fun j hj e => ?_, h4⟩
      have hij : i ≠ j := fun e' => hne (by rw [e']; exact e.symm)
      obtain ⟨cs', hcs'⟩ := h3 j ((live_unset (E := E) rfl hj).resolve_right (Ne.symm hij)) e
      exact ⟨cs', by simpa [Env.setBox, List.getElem?_set_ne hij] using hcs'⟩
  · have : f = f' := by have := hf.symm.trans hf'; simpa using this
    subst this
    exact ⟨rfl, Nat.le_refl _, fun _ => rfl⟩
theorem row_ro {old : List AV} (hmb : isMB old = false) : ∀ ys, old ≠ [.rbox ys] := fun ys e => by rw [e] at hmb; simp [isMB] at hmb
theorem setBox_ext (h : SR E) {i : Nat} {old : List AV} (hold : E.h.boxes[i]? = some old) (hmb : isMB old = false) (us : Array Value) (cs : List AV) (hcs : isHole cs = false) : Ext E (E.setBox i us cs) := setBox_extg h hold (isHole_row hmb) (row_ro hmb) us cs hcs
theorem setBox_SRg (h : SR E) {i : Nat} {old : List AV} (hi : E.h.boxes[i]? = some old) (hh0 : isHole old = false) (hro : ∀ ys, old ≠ [.rbox ys]) {us : Array Value} {cs : List AV} (hcs0 : isHole cs = false) (hbx : BoxR (E.setBox i us cs) i cs) :
    SR (E.setBox i us cs) := by
  have hl := live_of hi hh0
  have hi' := hl.lt
  have hx := setBox_extg h hi hh0 hro us cs hcs0
  have hun : ∀ a, (E.setBox i us cs).Live a → E.Live a := fun a ha => (live_unset (E := E) rfl ha).elim id fun e => e ▸ hl
  refine ⟨by simpa [Env.setBox] using h.basele, fun j cs' hj hh => ?_, fun k f hk => ?_, fun a b ha hb => h.inj a b (hun a ha) (hun b hb), h.injf, fun a k ha => h.sep a k (hun a ha)⟩
  · by_cases hn : i = j
    · subst hn
      have : cs' = cs := by simpa [Env.setBox, hi'] using hj.symm
      subst this
      exact hbx
    · have hcs : E.h.boxes[j]? = some cs' := by simpa [Env.setBox, List.getElem?_set_ne hn] using hj
      have hlj := live_of hcs hh
      exact (h.boxes j cs' hcs hh).ext hx hlj (setRow_other _ _ _ _ (fun e => hn (h.inj _ _ hl hlj e.symm)))
  · have hk' : k < E.h.fams.length := (List.getElem?_eq_some_iff.1 hk).1
    exact (h.fams k f hk).ext hx rfl (setRow_other _ _ _ _ (fun e => h.sep i k hl hk' e.symm))
theorem setBox_SR (h : SR E) {i : Nat} {old : List AV} (hi : E.h.boxes[i]? = some old) (hmb : isMB old = false) {us : Array Value} {cs : List AV} (hv : VRs E cs us.toList) (h1 : ∀ v ∈ us.toList, v.oneCell' = true) :
    SR (E.setBox i us cs) := by
  have hx := setBox_ext h hi hmb us cs (VRs_hole hv)
  have hb1 := (h.boxes i old hi (isHole_row hmb)).1
  obtain ⟨cur, t, hb2, _⟩ := (h.boxes i old hi (isHole_row hmb)).row hmb
  exact setBox_SRg h hi (isHole_row hmb) (row_ro hmb) (VRs_hole hv) ⟨hb1, .inl ⟨us, t, setRow_heap _ _ _ _ _ _ hb2, VRs_ext hx _ _ hv, h1⟩⟩
theorem setTBox_SR (h : SR E) {i : Nat} {T : TypeId} {ys cs : List AV} (hi : E.h.boxes[i]? = some [.tbox T ys]) {us : Array Value} (hv : VRs E cs (us.toList.take cs.length)) (h1 : ∀ v ∈ us.toList, v.oneCell' = true) :
    SR (E.setBox i us [.tbox T cs]) ∧ Ext E (E.setBox i us [.tbox T cs]) := by
  have hx := setBox_extg h hi rfl (fun ys e => by cases e) us [.tbox T cs] rfl
  have hb1 := (h.boxes i _ hi rfl).1
  obtain ⟨cur, hb2, _⟩ := (h.boxes i _ hi rfl).typ
  exact ⟨setBox_SRg h hi rfl (fun ys e => by cases e) rfl ⟨hb1, .inr (.inr (.inr ⟨T, cs, us, rfl, setRow_heap _ _ _ _ _ _ hb2, VRs_ext hx _ _ hv, h1⟩))⟩, hx⟩
end
section
variable {E : Env}
def Env.newFam (E : Env) (us : Array Value) (t : TypeId) (cap : Nat) (f : Fam) : Env :=
  { E with w := E.w.alloc (.cells us t), im := upd E.im E.h.fams.length ⟨E.w.heap.size, 0, cap, 0⟩, h := { E.h with fams := E.h.fams ++ [f] } }
theorem newFam_ext (h : SR E) (us : Array Value) (t : TypeId) (cap : Nat) (f : Fam) : Ext E (E.newFam us t cap f) := by
  refine ⟨fun b o ho => ?_, Nat.le_refl _, fun _ h => ⟨h, rfl⟩, by simp [Env.newFam], fun k g g' hg hg' => ?_, rfl, rfl, ⟨(Below.refl _ _).alloc h.basele _, fun _ => Nat.le_refl _⟩⟩
  · have hlt := ok_lt h ho
    refine ⟨?_, cell_eq (Below.heap_alloc _ _ _ hlt)⟩
    rcases ho with ho | ⟨h1, _, h3, h4⟩
    · exact .inl ho
    · refine .inr ⟨h1, by simp [Env.newFam]; omega, h3, fun k g hk he => ?_⟩
      by_cases hn : k = E.h.fams.length
      · subst hn; simp only [Env.newFam, upd_same] at he; omega
      · have hk' : k < E.h.fams.length := by
          have := (List.getElem?_eq_some_iff.1 hk).1
          simp [Env.newFam] at this; omega
        simp only [Env.newFam, List.getElem?_append_left hk'] at hk
        simp only [Env.newFam, upd_other _ _ hn] at he ⊢
        exact h4 k g hk he
  · have hk' : k < E.h.fams.length := (List.getElem?_eq_some_iff.1 hg).1
    simp only [Env.newFam, List.getElem?_append_left hk'] at hg'
    have : g = g' := by have := hg.symm.trans hg'; simpa using this
    subst this
    exact ⟨rfl, Nat.le_refl _, fun _ => upd_other _ _ (by omega)⟩
theorem newFam_SR (h : SR E) {us : Array Value} {t : TypeId} {cap : Nat} {f : Fam} (hsz : 0 < f.sz) (hroom : f.xs.length ≤ cap) (hcap : cap ≤ maxLen) (hfit : cap * f.sz ≤ us.size)
    (hel : ∀ (i : Nat) (x : AV), f.xs[i]? = some x → FElem E us (i * f.sz) f.sz x) : SR (E.newFam us t cap f) := by
  have hx := newFam_ext h us t cap f
  have hlen : (E.newFam us t cap f).h.fams.length = E.h.fams.length + 1 := by simp [Env.newFam]
  have him : ∀ k, k < E.h.fams.length → (E.newFam us t cap f).im k = E.im k := fun k hk => upd_other _ _ (by omega)
  have hnew : (E.newFam us t cap f).im E.h.fams.length = ⟨E.w.heap.size, 0, cap, 0⟩ := upd_same _ _ _
  refine ⟨Nat.le_trans h.basele (by simp [Env.newFam]), fun i cs hi hh => ?_, fun k g hk => ?_, h.inj, fun k j hk hj he => ?_, fun i k hi hk => ?_⟩
  · have hi' : E.Live i := live_of hi hh
    exact (h.boxes i cs hi hh).ext hx hi' (Below.heap_alloc _ _ _ (h.nb_lt hi').2)
  · by_cases hn : k = E.h.fams.length
    · subst hn
      have : g = f := by simpa [Env.newFam] using hk.symm
      subst this
      refine ⟨by rw [hnew]; exact h.basele, hsz, by rw [hnew]; simp, by rw [hnew]; simpa using hroom, by rw [hnew]; exact hcap, us, t, by rw [hnew]; exact heap_alloc_new _ _, by rw [hnew]; simpa using hfit, ?_⟩
      rw [hnew]
      intro i x _ hi
      have := (hel i x hi).ext hx
      simpa using this
    · have hk' : k < E.h.fams.length := by have := (List.getElem?_eq_some_iff.1 hk).1; omega
      simp only [Env.newFam, List.getElem?_append_left hk'] at hk
      exact (h.fams k g hk).ext hx (him k hk') (Below.heap_alloc _ _ _ (h.im_lt hk').2)
  · rw [hlen] at hk hj
    by_cases hk' : k < E.h.fams.length <;> by_cases hj' : j < E.h.fams.length
    · rw [him k hk', him j hj'] at he; exact h.injf k j hk' hj' he
    · obtain rfl : j = E.h.fams.length := by omega
      rw [him k hk', hnew] at he; have := (h.im_lt hk').2; simp at he; omega
    · obtain rfl : k = E.h.fams.length := by omega
      rw [him j hj', hnew] at he; have := (h.im_lt hj').2; simp at he; omega
    · omega
  · rw [hlen] at hk
    by_cases hk' : k < E.h.fams.length
    · rw [him k hk']; exact h.sep i k hi hk'
    · obtain rfl : k = E.h.fams.length := by omega
      rw [hnew]
      have := (h.nb_lt hi).2
      simp only [Env.newFam]
      omega
def Env.setFam (E : Env) (k : Nat) (us : Array Value) (f : Fam) : Env :=
  { E with w := E.w.setRow (E.im k).b us, h := { E.h with fams := E.h.fams.set k f } }
theorem setFam_ext (h : SR E) {k : Nat} {f f' : Fam} (hk : E.h.fams[k]? = some f) {us cur : Array Value} {t : TypeId} (hc : E.w.heap[(E.im k).b]? = some (.cells cur t (0, 0)))
    (hsz : f'.sz = f.sz) (hwr : f'.wr = f.wr) (hlen : f.xs.length ≤ f'.xs.length)
    (hkeep : f.wr = false → ∀ j, j < (E.im k).o + (f.xs.length - (E.im k).lo) * f.sz → us[j]? = cur[j]?) : Ext E (E.setFam k us f') := by
  have hk' := (List.getElem?_eq_some_iff.1 hk).1
  have hb := h.im_lt hk'
  refine ⟨fun b o ho => ?_, Nat.le_refl _, fun _ h => ⟨h, rfl⟩, by simp [Env.setFam], fun j g g' hg hg' => ?_, rfl, rfl, ⟨setRow_below us hb.1, fun _ => Nat.le_refl _⟩⟩
  · rcases ho with ⟨ho1, ho2⟩ | ⟨h1, h2, h3, h4⟩
    · exact ⟨.inl ⟨ho1, ho2⟩, cell_eq (setRow_other _ _ _ _ (by omega))⟩
    · refine ⟨.inr ⟨h1, by simpa [Env.setFam] using h2, h3, fun j g hj he => ?_⟩, ?_⟩
      · by_cases hn : k = j
        · subst hn
          have : g = f' := by simpa [Env.setFam, hk'] using hj.symm
          subst this
          obtain ⟨a1, a2⟩ := h4 k f hk he
          refine ⟨by rw [hwr]; exact a1, ?_⟩
          rw [hsz]
          refine Nat.lt_of_lt_of_le a2 (Nat.add_le_add_left (Nat.mul_le_mul_right _ (by show f.xs.length - (E.im k).lo ≤ g.xs.length - (E.im k).lo; omega)) _)
        · exact h4 j g (by simpa [Env.setFam, List.getElem?_set_ne hn] using hj) he
      · by_cases hbk : b = (E.im k).b
        · obtain ⟨a1, a2⟩ := h4 k f hk hbk.symm
          subst hbk
          have e1 : (E.w.setRow (E.im k).b us).cell? ⟨(E.im k).b, o, none⟩ = us[o]? := cell_of_row _ _ _ _ _ _ (setRow_heap _ _ _ _ _ _ hc)
          have e2 : E.w.cell? ⟨(E.im k).b, o, none⟩ = cur[o]? := cell_of_row _ _ _ _ _ _ hc
          refine ⟨?_, fun es clk e => by rw [hc] at e; cases e⟩
          show (E.w.setRow (E.im k).b us).cell? _ = _
          rw [e1, e2]
          exact hkeep a1 o a2
        · exact cell_eq (setRow_other _ _ _ _ hbk)
  · by_cases hn : k = j
    · subst hn
      have e1 : g' = f' := by simpa [Env.setFam, hk'] using hg'.symm
      have e2 : g = f := by have := hg.symm.trans hk; simpa using this
      subst e1; subst e2
      exact ⟨hsz, hlen, fun _ => rfl⟩
    · have : g = g' := by
        have hg'' : E.h.fams[j]? = some g' := by simpa [Env.setFam, List.getElem?_set_ne hn] using hg'
        have := hg.symm.trans hg''; simpa using this
      subst this
      exact ⟨rfl, Nat.le_refl _, fun _ => rfl⟩
theorem setFam_SR (h : SR E) {k : Nat} {f f' : Fam} (hk : E.h.fams[k]? = some f) {us cur : Array Value} {t : TypeId} (hc : E.w.heap[(E.im k).b]? = some (.cells cur t (0, 0)))
    (hsz : f'.sz = f.sz) (hwr : f'.wr = f.wr) (hlen : f.xs.length ≤ f'.xs.length)
    (hkeep : f.wr = false → ∀ j, j < (E.im k).o + (f.xs.length - (E.im k).lo) * f.sz → us[j]? = cur[j]?)
    (hroom : f'.xs.length ≤ (E.im k).lo + (E.im k).cap) (hsize : us.size = cur.size)
    (hel : ∀ (i : Nat) (x : AV), (E.im k).lo ≤ i → f'.xs[i]? = some x → FElem E us ((E.im k).o + (i - (E.im k).lo) * f.sz) f.sz x) : SR (E.setFam k us f') := by
  have hk' := (List.getElem?_eq_some_iff.1 hk).1
  have hx := setFam_ext h hk hc hsz hwr hlen hkeep
  have hl : (E.setFam k us f').h.fams.length = E.h.fams.length := by simp [Env.setFam]
  refine ⟨by simpa [Env.setFam] using h.basele, fun i cs hi hh => ?_, fun j g hj => ?_, h.inj, fun a b ha hb => h.injf a b (by simpa [hl] using ha) (by simpa [hl] using hb), fun i a hi ha => h.sep i a hi (by simpa [hl] using ha)⟩
  · have hi' : E.Live i := live_of hi hh
    exact (h.boxes i cs hi hh).ext hx hi' (setRow_other _ _ _ _ (h.sep i k hi' hk'))
  · by_cases hn : k = j
    · subst hn
      have : g = f' := by simpa [Env.setFam, hk'] using hj.symm
      subst this
      have hf := h.fams k f hk
      obtain ⟨cur', t', c1, c2, _⟩ := hf.cells
      have : cur' = cur := by have := c1.symm.trans hc; simp at this; exact this.1
      subst this
      refine ⟨hf.base, by rw [hsz]; exact hf.sz, Nat.le_trans hf.lo hlen, hroom, hf.cap, us, t, setRow_heap _ _ _ _ _ _ hc, ?_, ?_⟩
      · show (E.im k).o + (E.im k).cap * g.sz ≤ us.size
        rw [hsz, hsize]; exact c2
      · intro i x hi hxi
        have := (hel i x hi hxi).ext hx
        rw [hsz]
        exact this
    · have hj' : j < E.h.fams.length := by have := (List.getElem?_eq_some_iff.1 hj).1; omega
      have hg : E.h.fams[j]? = some g := by simpa [Env.setFam, List.getElem?_set_ne hn] using hj
      exact (h.fams j g hg).ext hx rfl (setRow_other _ _ _ _ (fun e => hn (h.injf _ _ hk' hj' e.symm)))
def Env.rstFam (E : Env) (k : Nat) (f : Fam) : Env := { E with h := { E.h with fams := E.h.fams.set k { f with wr := false } } }
theorem rstFam_ext {k : Nat} {f : Fam} (hk : E.h.fams[k]? = some f) : Ext E (E.rstFam k f) := by
  have hk' := (List.getElem?_eq_some_iff.1 hk).1
  have key : ∀ (j : Nat) (g : Fam), (E.rstFam k f).h.fams[j]? = some g → ∃ g0, E.h.fams[j]? = some g0 ∧ g.xs = g0.xs ∧ g.sz = g0.sz ∧ (g0.wr = false → g.wr = false) := by
    intro j g hj
    by_cases hn : k = j
    · subst hn
      have : g = { f with wr := false } := by simpa [Env.rstFam, hk'] using hj.symm
      subst this
      exact ⟨f, hk, rfl, rfl, fun _ => rfl⟩
    · exact ⟨g, by simpa [Env.rstFam, List.getElem?_set_ne hn] using hj, rfl, rfl, fun h => h⟩
  refine ⟨fun b o ho => ⟨?_, Stay.refl _ _ _⟩, Nat.le_refl _, fun _ h => ⟨h, rfl⟩, by simp [Env.rstFam], fun j g g' hg hg' => ?_, rfl, rfl, Bl.refl _ _⟩
  · rcases ho with ho | ⟨h1, h2, h3, h4⟩
    · exact .inl ho
    · refine .inr ⟨h1, h2, h3, fun j g hj he => ?_⟩
      obtain ⟨g0, q1, q2, q3, q4⟩ := key j g hj
      obtain ⟨a1, a2⟩ := h4 j g0 q1 he
      exact ⟨q4 a1, by rw [q2, q3]; exact a2⟩
  · obtain ⟨g0, q1, q2, q3, _⟩ := key j g' hg'
    have : g0 = g := by have := q1.symm.trans hg; simpa using this
    subst this
    exact ⟨q3, by rw [q2]; exact Nat.le_refl _, fun _ => rfl⟩
theorem rstFam_SR (h : SR E) {k : Nat} {f : Fam} (hk : E.h.fams[k]? = some f) : SR (E.rstFam k f) := by
  have hk' := (List.getElem?_eq_some_iff.1 hk).1
  have hx := rstFam_ext hk
  have hl : (E.rstFam k f).h.fams.length = E.h.fams.length := by simp [Env.rstFam]
  refine ⟨h.basele, fun i cs hi hh => ?_, fun j g hj => ?_, h.inj, fun a b ha hb => h.injf a b (by simpa [hl] using ha) (by simpa [hl] using hb), fun i a hi ha => h.sep i a hi (by simpa [hl] using ha)⟩
  · have hi' : E.Live i := live_of hi hh
    exact (h.boxes i cs hi hh).ext hx hi' rfl
  · by_cases hn : k = j
    · subst hn
      have : g = { f with wr := false } := by simpa [Env.rstFam, hk'] using hj.symm
      subst this
      have := (h.fams k f hk).ext hx rfl rfl
      exact ⟨this.base, this.sz, this.lo, this.room, this.cap, this.cells⟩
    · have hg : E.h.fams[j]? = some g := by simpa [Env.rstFam, List.getElem?_set_ne hn] using hj
      exact (h.fams j g hg).ext hx rfl rfl
structure Rests (E E' : Env) : Prop where
  w : E'.w = E.w
  ext : Ext E E'
  sr : SR E'
theorem Rests.trans {E E' E'' : Env} (h : Rests E E') (k : Rests E' E'') : Rests E E'' := ⟨k.w.trans h.w, h.ext.trans k.ext, k.sr⟩
theorem rst1_ok (h : SR E) (x : AV) : ∃ E', Rests E E' ∧ E'.h = rst1 E.h x := by
  cases x
  case sl k n off len =>
    cases hk : E.h.fams[k]? with
    | none => exact ⟨E, ⟨rfl, Ext.refl E, h⟩, by simp only [rst1, hk]⟩
    | some f => exact ⟨E.rstFam k f, ⟨rfl, rstFam_ext hk, rstFam_SR h hk⟩, by simp only [rst1, hk]; rfl⟩
  all_goals exact ⟨E, ⟨rfl, Ext.refl E, h⟩, rfl⟩
theorem rstL_ok : ∀ (xs : List AV) {E : Env}, SR E → ∃ E', Rests E E' ∧ E'.h = rstL E.h xs
  | [], E, h => ⟨E, ⟨rfl, Ext.refl E, h⟩, rfl⟩
  | x :: xs, E, h => by
    obtain ⟨E1, r1, e1⟩ := rst1_ok h x
    obtain ⟨E2, r2, e2⟩ := rstL_ok xs r1.sr
    exact ⟨E2, r1.trans r2, by rw [e2, e1]; rfl⟩
theorem rst0_ok (h : SR E) (x : AV) : ∃ E', Rests E E' ∧ E'.h = rst0 E.h x := by
  unfold rst0
  split
  · exact rstL_ok _ h
  · exact rst1_ok h _
theorem rstT_ok : ∀ (xs : List AV) {E : Env}, SR E → ∃ E', Rests E E' ∧ E'.h = rstT E.h xs
  | [], E, h => ⟨E, ⟨rfl, Ext.refl E, h⟩, rfl⟩
  | x :: xs, E, h => by
    obtain ⟨E1, r1, e1⟩ := rst0_ok h x
    obtain ⟨E2, r2, e2⟩ := rstT_ok xs r1.sr
    exact ⟨E2, r1.trans r2, by rw [e2, e1]; rfl⟩
theorem rstV_ok (h : SR E) (x : AV) : ∃ E', Rests E E' ∧ E'.h = rstV E.h x := by
  unfold rstV
  split
  · exact rstT_ok _ h
  · exact rst0_ok h _
def Env.moveFam (E : Env) (k : Nat) (us : Array Value) (t : TypeId) (lo cap : Nat) (f : Fam) : Env :=
  { E with w := E.w.alloc (.cells us t), im := upd E.im k ⟨E.w.heap.size, 0, cap, lo⟩, h := { E.h with fams := E.h.fams.set k f } }
theorem moveFam_ext (h : SR E) {k : Nat} {f f' : Fam} (hk : E.h.fams[k]? = some f) (us : Array Value) (t : TypeId) (lo cap : Nat)
    (hsz : f'.sz = f.sz) (hlen : f.xs.length < f'.xs.length) : Ext E (E.moveFam k us t lo cap f') := by
  have hk' := (List.getElem?_eq_some_iff.1 hk).1
  refine ⟨fun b o ho => ?_, Nat.le_refl _, fun _ h => ⟨h, rfl⟩, by simp [Env.moveFam], fun j g g' hg hg' => ?_, rfl, rfl, ⟨(Below.refl _ _).alloc h.basele _, fun _ => Nat.le_refl _⟩⟩
  · have hlt := ok_lt h ho
    refine ⟨?_, cell_eq (Below.heap_alloc _ _ _ hlt)⟩
    rcases ho with ho | ⟨h1, _, h3, h4⟩
    · exact .inl ho
    · refine .inr ⟨h1, by simp [Env.moveFam]; omega, h3, fun j g hj he => ?_⟩
      by_cases hn : j = k
      · subst hn; simp only [Env.moveFam, upd_same] at he; omega
      · simp only [Env.moveFam, upd_other _ _ hn] at he ⊢
        exact h4 j g (by simpa [Env.moveFam, List.getElem?_set_ne (Ne.symm hn)] using hj) he
  · by_cases hn : k = j
    · subst hn
      have e1 : g' = f' := by simpa [Env.moveFam, hk'] using hg'.symm
      have e2 : g = f := by have := hg.symm.trans hk; simpa using this
      subst e1; subst e2
      exact ⟨hsz, Nat.le_of_lt hlen, fun e => by omega⟩
    · have hg'' : E.h.fams[j]? = some g' := by simpa [Env.moveFam, List.getElem?_set_ne hn] using hg'
      have : g = g' := by have := hg.symm.trans hg''; simpa using this
      subst this
      exact ⟨rfl, Nat.le_refl _, fun _ => upd_other _ _ (Ne.symm hn)⟩
theorem moveFam_SR (h : SR E) {k : Nat} {f f' : Fam} (hk : E.h.fams[k]? = some f) {us : Array Value} {t : TypeId} {lo cap : Nat}
    (hsz : f'.sz = f.sz) (hlen : f.xs.length < f'.xs.length) (hlo : lo ≤ f'.xs.length) (hroom : f'.xs.length ≤ lo + cap) (hcap : cap ≤ maxLen) (hfit : cap * f.sz ≤ us.size)
    (hel : ∀ (i : Nat) (x : AV), lo ≤ i → f'.xs[i]? = some x → FElem E us ((i - lo) * f.sz) f.sz x) : SR (E.moveFam k us t lo cap f') := by
  have hk' := (List.getElem?_eq_some_iff.1 hk).1
  have hx := moveFam_ext h hk us t lo cap hsz hlen
  have hl : (E.moveFam k us t lo cap f').h.fams.length = E.h.fams.length := by simp [Env.moveFam]
  have him : ∀ j, j ≠ k → (E.moveFam k us t lo cap f').im j = E.im j := fun j hj => upd_other _ _ hj
  have hnew : (E.moveFam k us t lo cap f').im k = ⟨E.w.heap.size, 0, cap, lo⟩ := upd_same _ _ _
  refine ⟨Nat.le_trans h.basele (by simp [Env.moveFam]), fun i cs hi hh => ?_, fun j g hj => ?_, h.inj, fun a b ha hb he => ?_, fun i a hi ha => ?_⟩
  · have hi' : E.Live i := live_of hi hh
    exact (h.boxes i cs hi hh).ext hx hi' (Below.heap_alloc _ _ _ (h.nb_lt hi').2)
  · by_cases hn : k = j
    · subst hn
      have : g = f' := by simpa [Env.moveFam, hk'] using hj.symm
      subst this
      have hf := h.fams k f hk
      refine ⟨by rw [hnew]; exact h.basele, by rw [hsz]; exact hf.sz, by rw [hnew]; exact hlo, by rw [hnew]; exact hroom, by rw [hnew]; exact hcap, us, t, by rw [hnew]; exact heap_alloc_new _ _, by rw [hnew, hsz]; simpa using hfit, ?_⟩
      rw [hnew]
      intro i x hi hxi
      have := (hel i x hi hxi).ext hx
      rw [hsz]
      simpa using this
    · have hj' : j < E.h.fams.length := by have := (List.getElem?_eq_some_iff.1 hj).1; omega
      have hg : E.h.fams[j]? = some g := by simpa [Env.moveFam, List.getElem?_set_ne hn] using hj
      exact (h.fams j g hg).ext hx (him j (Ne.symm hn)) (Below.heap_alloc _ _ _ (h.im_lt hj').2)
  · rw [hl] at ha hb
    by_cases e1 : a = k <;> by_cases e2 : b = k
    · omega
    · subst e1
      rw [hnew, him b e2] at he; have := (h.im_lt hb).2; simp at he; omega
    · subst e2
      rw [hnew, him a e1] at he; have := (h.im_lt ha).2; simp at he; omega
    · rw [him a e1, him b e2] at he; exact h.injf a b ha hb he
  · rw [hl] at ha
    by_cases e1 : a = k
    · subst e1
      rw [hnew]
      have := (h.nb_lt hi).2
      simp only [Env.moveFam]
      omega
    · rw [him a e1]; exact h.sep i a hi ha
end
end Go.Abs
