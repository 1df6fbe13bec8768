/- Each quiet operation: what it yields in the model is what the abstract operation yields. -/
import Derived.Test.YtpkegmgepnhfnaaGreatV1
/- A whole state of the abstract machine and the model's memory: what each kind of step does to it. -/
namespace Go.Abs
open Go.RowKit (Below)

/-- An element of a row as its cells hold it. -/
def FElem (E : Env) (cur : Array Value) (p sz : Nat) (x : AV) : Prop :=
  x.cells.length = sz ∧ ∀ (c : Nat) (y : AV), x.cells[c]? = some y → ∃ v, cur[p + c]? = some v ∧ v.oneCell' = true ∧ PV E.w E.ok y v

structure FamR (E : Env) (k : Nat) (f : Fam) : Prop where
  base : E.base ≤ (E.im k).b
  sz : 0 < f.sz
  lo : (E.im k).lo ≤ f.xs.length
  room : f.xs.length ≤ (E.im k).lo + (E.im k).cap
  cap : (E.im k).cap ≤ maxLen
  cells : ∃ cur t, E.w.heap[(E.im k).b]? = some (.cells cur t (0, 0)) ∧ (E.im k).o + (E.im k).cap * f.sz ≤ cur.size ∧
    ∀ (i : Nat) (x : AV), (E.im k).lo ≤ i → f.xs[i]? = some x → FElem E cur ((E.im k).o + (i - (E.im k).lo) * f.sz) f.sz x

/-- A box that is a row of cells. -/
def RowBox (E : Env) (i : Nat) (cs : List AV) : Prop := ∃ cur t, E.w.heap[E.nb i]? = some (.cells cur t (0, 0)) ∧ VRs E cs cur.toList ∧ ∀ v ∈ cur.toList, v.oneCell' = true
/-- A box that is a map. -/
def MapBox (E : Env) (i : Nat) (cs : List AV) : Prop := ∃ ks vs es clk, cs = [.mbox ks vs] ∧ E.w.heap[E.nb i]? = some (.map es clk) ∧ PVs E.w E.ok ks (es.toList.map (·.key)) ∧ PVs E.w E.ok vs (es.toList.map (·.val))
/-- A box that is only read. -/
def RoBox (E : Env) (i : Nat) (cs : List AV) : Prop := ∃ ys cur t, cs = [.rbox ys] ∧ E.w.heap[E.nb i]? = some (.cells cur t (0, 0)) ∧ PVs E.w E.ok ys cur.toList ∧ ∀ v ∈ cur.toList, v.oneCell' = true
def BoxR (E : Env) (i : Nat) (cs : List AV) : Prop := E.base ≤ E.nb i ∧ (RowBox E i cs ∨ MapBox E i cs ∨ RoBox E i cs)

theorem BoxR.row {E : Env} {i : Nat} {cs : List AV} (h : BoxR E i cs) (hm : isMB cs = false) : ∃ cur t, E.w.heap[E.nb i]? = some (.cells cur t (0, 0)) ∧ VRs E cs cur.toList ∧ ∀ v ∈ cur.toList, v.oneCell' = true := by
  rcases h.2 with h | ⟨ks, vs, es, clk, rfl, _⟩ | ⟨ys, cur, t, rfl, _⟩
  · exact h
  · simp [isMB] at hm
  · simp [isMB] at hm
theorem BoxR.map {E : Env} {i : Nat} {ks vs : List AV} (h : BoxR E i [.mbox ks vs]) : ∃ es clk, E.w.heap[E.nb i]? = some (.map es clk) ∧ PVs E.w E.ok ks (es.toList.map (·.key)) ∧ PVs E.w E.ok vs (es.toList.map (·.val)) := by
  rcases h.2 with ⟨cur, t, _, h, _⟩ | ⟨ks', vs', es, clk, e, h1, h2, h3⟩ | ⟨ys, cur, t, e, _⟩
  · simp [VRs, VR] at h
  · cases e
    exact ⟨es, clk, h1, h2, h3⟩
  · cases e

structure SR (E : Env) : Prop where
  basele : E.base ≤ E.w.heap.size
  boxes : ∀ (i : Nat) (cs : List AV), E.h.boxes[i]? = some cs → BoxR E i cs
  fams : ∀ (k : Nat) (f : Fam), E.h.fams[k]? = some f → FamR E k f
  inj : ∀ i j, i < E.h.boxes.length → j < E.h.boxes.length → E.nb i = E.nb j → i = j
  injf : ∀ k j, k < E.h.fams.length → j < E.h.fams.length → (E.im k).b = (E.im j).b → k = j
  sep : ∀ i k, i < E.h.boxes.length → k < E.h.fams.length → E.nb i ≠ (E.im k).b

section
variable {E : Env}

theorem heap_lt {w : World} {b : Nat} {o : Obj} (h : w.heap[b]? = some o) : b < w.heap.size := (Array.getElem?_eq_some_iff.1 h).1

theorem SR.nb_lt (h : SR E) {i : Nat} (hi : i < E.h.boxes.length) : E.base ≤ E.nb i ∧ E.nb i < E.w.heap.size := by
  obtain ⟨h1, ⟨cur, t, h2, _⟩ | ⟨ks, vs, es, clk, _, h2, _⟩ | ⟨ys, cur, t, _, h2, _⟩⟩ := h.boxes i _ (List.getElem?_eq_getElem hi)
  · exact ⟨h1, heap_lt h2⟩
  · exact ⟨h1, heap_lt h2⟩
  · exact ⟨h1, heap_lt h2⟩

theorem SR.im_lt (h : SR E) {k : Nat} (hk : k < E.h.fams.length) : E.base ≤ (E.im k).b ∧ (E.im k).b < E.w.heap.size := by
  have hf := h.fams k _ (List.getElem?_eq_getElem hk)
  obtain ⟨cur, t, h2, _⟩ := hf.cells
  exact ⟨hf.base, heap_lt h2⟩

theorem ok_lt (h : SR E) {b o : Nat} (hb : E.ok b o) : b < E.w.heap.size := by
  rcases hb with ⟨hb, _⟩ | ⟨_, hb, _⟩
  · exact Nat.lt_of_lt_of_le hb h.basele
  · exact hb

theorem cell_eq {w w' : World} {b o : Nat} (h : w'.heap[b]? = w.heap[b]?) : Stay w w' b o := ⟨World.cell?_of_block (a := ⟨b, o, none⟩) h, fun _ _ e => by rw [h]; exact e⟩

/-- What goes on when a state goes on: boxes and rows that are as they were. -/
theorem BoxR.ext {E' : Env} (h : Ext E E') {i : Nat} {cs : List AV} (hi : i < E.h.boxes.length) (hb : E'.w.heap[E.nb i]? = E.w.heap[E.nb i]?) (hx : BoxR E i cs) : BoxR E' i cs := by
  obtain ⟨h1, ⟨cur, t, h2, h3, h4⟩ | ⟨ks, vs, es, clk, e, h2, h3, h4⟩ | ⟨ys, cur, t, e, h2, h3, h4⟩⟩ := hx
  · exact ⟨by rw [h.base, h.nb i hi]; exact h1, .inl ⟨cur, t, by rw [h.nb i hi, hb]; exact h2, VRs_ext h _ _ h3, h4⟩⟩
  · exact ⟨by rw [h.base, h.nb i hi]; exact h1, .inr (.inl ⟨ks, vs, es, clk, e, by rw [h.nb i hi, hb]; exact h2, PVs_mono h.cells _ _ h3, PVs_mono h.cells _ _ h4⟩)⟩
  · exact ⟨by rw [h.base, h.nb i hi]; exact h1, .inr (.inr ⟨ys, cur, t, e, by rw [h.nb i hi, hb]; exact h2, PVs_mono h.cells _ _ h3, h4⟩)⟩

theorem FElem.ext {E' : Env} (h : Ext E E') {cur : Array Value} {p sz : Nat} {x : AV} (hx : FElem E cur p sz x) : FElem E' cur p sz x :=
  ⟨hx.1, fun c y hc => by obtain ⟨v, h1, h2, h3⟩ := hx.2 c y hc; exact ⟨v, h1, h2, PV_mono h.cells _ _ h3⟩⟩

theorem FamR.ext {E' : Env} (h : Ext E E') {k : Nat} {f : Fam} (him : E'.im k = E.im k) (hb : E'.w.heap[(E.im k).b]? = E.w.heap[(E.im k).b]?) (hx : FamR E k f) : FamR E' k f := by
  obtain ⟨cur, t, h1, h2, h3⟩ := hx.cells
  refine ⟨by rw [h.base, him]; exact hx.base, hx.sz, by rw [him]; exact hx.lo, by rw [him]; exact hx.room, by rw [him]; exact hx.cap, cur, t, by rw [him, hb]; exact h1, by rw [him]; exact h2, ?_⟩
  rw [him]
  exact fun i x hi hx' => (h3 i x hi hx').ext h

/-! ### The world alone goes on (draws; new blocks of others; calls of pure functions) -/

theorem grow_ext (h : SR E) {w' : World} (hb : Below E.w.heap.size E.w w') : Ext E { E with w := w' } := by
  refine ⟨fun b o ho => ?_, Nat.le_refl _, fun _ _ => rfl, Nat.le_refl _, fun k f f' hf hf' => ?_, rfl, rfl, hb.mono h.basele⟩
  · have hlt := ok_lt h ho
    refine ⟨?_, cell_eq (hb.block b hlt)⟩
    rcases ho with ho | ⟨h1, _, h3, h4⟩
    · exact .inl ho
    · exact .inr ⟨h1, Nat.lt_of_lt_of_le hlt hb.size, h3, h4⟩
  · have : f = f' := by have := hf.symm.trans hf'; simpa using this
    subst this
    exact ⟨rfl, Nat.le_refl _, fun _ => rfl⟩

theorem grow_SR (h : SR E) {w' : World} (hb : Below E.w.heap.size E.w w') : SR { E with w := w' } := by
  have hx := grow_ext h hb
  refine ⟨Nat.le_trans h.basele hb.size, fun i cs hi => ?_, fun k f hk => ?_, h.inj, h.injf, h.sep⟩
  · have hi' := (List.getElem?_eq_some_iff.1 hi).1
    exact (h.boxes i cs hi).ext hx hi' (hb.block _ (h.nb_lt hi').2)
  · have hk' := (List.getElem?_eq_some_iff.1 hk).1
    exact (h.fams k f hk).ext hx rfl (hb.block _ (h.im_lt hk').2)

/-! ### A new box -/

def upd {α : Type} (f : Nat → α) (n : Nat) (x : α) : Nat → α := fun i => if i = n then x else f i
theorem upd_same {α : Type} (f : Nat → α) (n : Nat) (x : α) : upd f n x n = x := by simp [upd]
theorem upd_other {α : Type} (f : Nat → α) {n i : Nat} (x : α) (h : i ≠ n) : upd f n x i = f i := by simp [upd, h]

def Env.newBox (E : Env) (us : Array Value) (t : TypeId) (cs : List AV) : Env :=
  { E with w := E.w.alloc (.cells us t), nb := upd E.nb E.h.boxes.length E.w.heap.size, h := { E.h with boxes := E.h.boxes ++ [cs] } }

theorem newBox_ext (h : SR E) (us : Array Value) (t : TypeId) (cs : List AV) : Ext E (E.newBox us t cs) := by
  refine ⟨fun b o ho => ?_, by simp [Env.newBox], fun i hi => upd_other _ _ (by omega), Nat.le_refl _, fun k f f' hf hf' => ?_, rfl, rfl, (Below.refl _ _).alloc h.basele _⟩
  · have hlt := ok_lt h ho
    refine ⟨?_, cell_eq (Below.heap_alloc _ _ _ hlt)⟩
    rcases ho with ho | ⟨h1, _, h3, h4⟩
    · exact .inl ho
    · refine .inr ⟨h1, by simp [Env.newBox]; omega, fun i hi => ?_, h4⟩
      by_cases hn : i = E.h.boxes.length
      · subst hn; simp only [Env.newBox, upd_same]; intro e; omega
      · have hi' : i < E.h.boxes.length := by simp [Env.newBox] at hi; omega
        simp only [Env.newBox, upd_other _ _ hn]
        intro e
        obtain ⟨cs', hcs'⟩ := h3 i hi' e
        exact ⟨cs', by rw [List.getElem?_append_left hi']; exact hcs'⟩
  · have : f = f' := by have := hf.symm.trans hf'; simpa using this
    subst this
    exact ⟨rfl, Nat.le_refl _, fun _ => rfl⟩

theorem newBox_SR (h : SR E) {us : Array Value} {t : TypeId} {cs : List AV} (hv : VRs E cs us.toList) (h1 : ∀ v ∈ us.toList, v.oneCell' = true) : SR (E.newBox us t cs) := by
  have hx := newBox_ext h us t cs
  have hlen : (E.newBox us t cs).h.boxes.length = E.h.boxes.length + 1 := by simp [Env.newBox]
  have hnb : ∀ i, i < E.h.boxes.length → (E.newBox us t cs).nb i = E.nb i := fun i hi => upd_other _ _ (by omega)
  have hnew : (E.newBox us t cs).nb E.h.boxes.length = E.w.heap.size := upd_same _ _ _
  refine ⟨Nat.le_trans h.basele (by simp [Env.newBox]), fun i cs' hi => ?_, fun k f hk => ?_, fun i j hi hj he => ?_, h.injf, fun i k hi hk => ?_⟩
  · by_cases hn : i = E.h.boxes.length
    · subst hn
      have : cs' = cs := by simpa [Env.newBox] using hi.symm
      subst this
      exact ⟨by rw [hnew]; exact h.basele, .inl ⟨us, t, by rw [hnew]; exact heap_alloc_new _ _, VRs_ext hx _ _ hv, h1⟩⟩
    · have hi' : i < E.h.boxes.length := by have := (List.getElem?_eq_some_iff.1 hi).1; omega
      have hcs : E.h.boxes[i]? = some cs' := by
        simp only [Env.newBox] at hi
        rwa [List.getElem?_append_left hi'] at hi
      exact (h.boxes i cs' hcs).ext hx hi' (Below.heap_alloc _ _ _ (h.nb_lt hi').2)
  · have hk' : k < E.h.fams.length := (List.getElem?_eq_some_iff.1 hk).1
    exact (h.fams k f hk).ext hx rfl (Below.heap_alloc _ _ _ (h.im_lt hk').2)
  · rw [hlen] at hi hj
    by_cases hi' : i < E.h.boxes.length <;> by_cases hj' : j < E.h.boxes.length
    · rw [hnb i hi', hnb j hj'] at he; exact h.inj i j hi' hj' he
    · obtain rfl : j = E.h.boxes.length := by omega
      rw [hnb i hi', hnew] at he; have := (h.nb_lt hi').2; omega
    · obtain rfl : i = E.h.boxes.length := by omega
      rw [hnb j hj', hnew] at he; have := (h.nb_lt hj').2; omega
    · omega
  · rw [hlen] at hi
    have hk' : k < E.h.fams.length := hk
    by_cases hi' : i < E.h.boxes.length
    · rw [hnb i hi']; exact h.sep i k hi' hk'
    · obtain rfl : i = E.h.boxes.length := by omega
      rw [hnew]
      have := (h.im_lt hk').2
      simp only [Env.newBox]
      omega

/-! ### A store into a box -/

def Env.setBox (E : Env) (i : Nat) (us : Array Value) (cs : List AV) : Env :=
  { E with w := E.w.setRow (E.nb i) us, h := { E.h with boxes := E.h.boxes.set i cs } }

theorem setRow_below {w : World} {B g : Nat} (us : Array Value) (hg : B ≤ g) : Below B w (w.setRow g us) :=
  ⟨rfl, rfl, rfl, by simp, fun k hk => setRow_other w g k us (by omega)⟩

theorem setBox_ext (h : SR E) {i : Nat} (hi : i < E.h.boxes.length) {old : List AV} (hold : E.h.boxes[i]? = some old) (hmb : isMB old = false) (us : Array Value) (cs : List AV) : Ext E (E.setBox i us cs) := by
  have hb := h.nb_lt hi
  refine ⟨fun b o ho => ?_, by simp [Env.setBox], fun _ _ => rfl, Nat.le_refl _, fun k f f' hf hf' => ?_, rfl, rfl, setRow_below us hb.1⟩
  · have hne : b ≠ E.nb i := by
      rcases ho with ⟨ho, _⟩ | ⟨_, _, h3, _⟩
      · omega
      · intro e
        obtain ⟨cs', hcs'⟩ := h3 i hi e.symm
        rw [hold] at hcs'
        cases hcs'
        simp [isMB] at hmb
    refine ⟨?_, cell_eq (setRow_other _ _ _ _ hne)⟩
    rcases ho with ho | ⟨h1, h2, h3, h4⟩
    · exact .inl ho
    · refine .inr ⟨h1, by simpa [Env.setBox] using h2, fun j hj e => ?_, h4⟩
      obtain ⟨cs', hcs'⟩ := h3 j (by simpa [Env.setBox] using hj) e
      have hij : i ≠ j := fun e' => hne (by rw [e']; exact e.symm)
      exact ⟨cs', by simpa [Env.setBox, List.getElem?_set_ne hij] using hcs'⟩
  · have : f = f' := by have := hf.symm.trans hf'; simpa using this
    subst this
    exact ⟨rfl, Nat.le_refl _, fun _ => rfl⟩

theorem setBox_SR (h : SR E) {i : Nat} {old : List AV} (hi : E.h.boxes[i]? = some old) (hmb : isMB old = false) {us : Array Value} {cs : List AV} (hv : VRs E cs us.toList) (h1 : ∀ v ∈ us.toList, v.oneCell' = true) :
    SR (E.setBox i us cs) := by
  have hi' := (List.getElem?_eq_some_iff.1 hi).1
  have hx := setBox_ext h hi' hi hmb us cs
  have hlen : (E.setBox i us cs).h.boxes.length = E.h.boxes.length := by simp [Env.setBox]
  have hb1 := (h.boxes i old hi).1
  obtain ⟨cur, t, hb2, _⟩ := (h.boxes i old hi).row hmb
  refine ⟨by simpa [Env.setBox] using h.basele, fun j cs' hj => ?_, fun k f hk => ?_, fun a b ha hb => h.inj a b (by simpa [hlen] using ha) (by simpa [hlen] using hb), h.injf, fun a k ha => h.sep a k (by simpa [hlen] using ha)⟩
  · by_cases hn : i = j
    · subst hn
      have : cs' = cs := by simpa [Env.setBox, hi'] using hj.symm
      subst this
      exact ⟨hb1, .inl ⟨us, t, setRow_heap _ _ _ _ _ _ hb2, VRs_ext hx _ _ hv, h1⟩⟩
    · have hj' : j < E.h.boxes.length := by have := (List.getElem?_eq_some_iff.1 hj).1; omega
      have hcs : E.h.boxes[j]? = some cs' := by simpa [Env.setBox, List.getElem?_set_ne hn] using hj
      exact (h.boxes j cs' hcs).ext hx hj' (setRow_other _ _ _ _ (fun e => hn (h.inj _ _ hi' hj' e.symm)))
  · have hk' : k < E.h.fams.length := (List.getElem?_eq_some_iff.1 hk).1
    exact (h.fams k f hk).ext hx rfl (setRow_other _ _ _ _ (fun e => h.sep i k hi' hk' e.symm))

end
end Go.Abs

/- Rows of the abstract heap: a new row, a row that is written or grows in its place, a row that moves. -/
namespace Go.Abs
open Go.RowKit (Below)
section
variable {E : Env}

/-! ### A new row -/

def Env.newFam (E : Env) (us : Array Value) (t : TypeId) (cap : Nat) (f : Fam) : Env :=
  { E with w := E.w.alloc (.cells us t), im := upd E.im E.h.fams.length ⟨E.w.heap.size, 0, cap, 0⟩, h := { E.h with fams := E.h.fams ++ [f] } }

theorem newFam_ext (h : SR E) (us : Array Value) (t : TypeId) (cap : Nat) (f : Fam) : Ext E (E.newFam us t cap f) := by
  refine ⟨fun b o ho => ?_, Nat.le_refl _, fun _ _ => rfl, by simp [Env.newFam], fun k g g' hg hg' => ?_, rfl, rfl, (Below.refl _ _).alloc h.basele _⟩
  · have hlt := ok_lt h ho
    refine ⟨?_, cell_eq (Below.heap_alloc _ _ _ hlt)⟩
    rcases ho with ho | ⟨h1, _, h3, h4⟩
    · exact .inl ho
    · refine .inr ⟨h1, by simp [Env.newFam]; omega, h3, fun k g hk he => ?_⟩
      by_cases hn : k = E.h.fams.length
      · subst hn; simp only [Env.newFam, upd_same] at he; omega
      · have hk' : k < E.h.fams.length := by
          have := (List.getElem?_eq_some_iff.1 hk).1
          simp [Env.newFam] at this; omega
        simp only [Env.newFam, List.getElem?_append_left hk'] at hk
        simp only [Env.newFam, upd_other _ _ hn] at he ⊢
        exact h4 k g hk he
  · have hk' : k < E.h.fams.length := (List.getElem?_eq_some_iff.1 hg).1
    simp only [Env.newFam, List.getElem?_append_left hk'] at hg'
    have : g = g' := by have := hg.symm.trans hg'; simpa using this
    subst this
    exact ⟨rfl, Nat.le_refl _, fun _ => upd_other _ _ (by omega)⟩

theorem newFam_SR (h : SR E) {us : Array Value} {t : TypeId} {cap : Nat} {f : Fam} (hsz : 0 < f.sz) (hroom : f.xs.length ≤ cap) (hcap : cap ≤ maxLen) (hfit : cap * f.sz ≤ us.size)
    (hel : ∀ (i : Nat) (x : AV), f.xs[i]? = some x → FElem E us (i * f.sz) f.sz x) : SR (E.newFam us t cap f) := by
  have hx := newFam_ext h us t cap f
  have hlen : (E.newFam us t cap f).h.fams.length = E.h.fams.length + 1 := by simp [Env.newFam]
  have him : ∀ k, k < E.h.fams.length → (E.newFam us t cap f).im k = E.im k := fun k hk => upd_other _ _ (by omega)
  have hnew : (E.newFam us t cap f).im E.h.fams.length = ⟨E.w.heap.size, 0, cap, 0⟩ := upd_same _ _ _
  refine ⟨Nat.le_trans h.basele (by simp [Env.newFam]), fun i cs hi => ?_, fun k g hk => ?_, h.inj, fun k j hk hj he => ?_, fun i k hi hk => ?_⟩
  · have hi' := (List.getElem?_eq_some_iff.1 hi).1
    exact (h.boxes i cs hi).ext hx hi' (Below.heap_alloc _ _ _ (h.nb_lt hi').2)
  · by_cases hn : k = E.h.fams.length
    · subst hn
      have : g = f := by simpa [Env.newFam] using hk.symm
      subst this
      refine ⟨by rw [hnew]; exact h.basele, hsz, by rw [hnew]; simp, by rw [hnew]; simpa using hroom, by rw [hnew]; exact hcap, us, t, by rw [hnew]; exact heap_alloc_new _ _, by rw [hnew]; simpa using hfit, ?_⟩
      rw [hnew]
      intro i x _ hi
      have := (hel i x hi).ext hx
      simpa using this
    · have hk' : k < E.h.fams.length := by have := (List.getElem?_eq_some_iff.1 hk).1; omega
      simp only [Env.newFam, List.getElem?_append_left hk'] at hk
      exact (h.fams k g hk).ext hx (him k hk') (Below.heap_alloc _ _ _ (h.im_lt hk').2)
  · rw [hlen] at hk hj
    by_cases hk' : k < E.h.fams.length <;> by_cases hj' : j < E.h.fams.length
    · rw [him k hk', him j hj'] at he; exact h.injf k j hk' hj' he
    · obtain rfl : j = E.h.fams.length := by omega
      rw [him k hk', hnew] at he; have := (h.im_lt hk').2; simp at he; omega
    · obtain rfl : k = E.h.fams.length := by omega
      rw [him j hj', hnew] at he; have := (h.im_lt hj').2; simp at he; omega
    · omega
  · rw [hlen] at hk
    by_cases hk' : k < E.h.fams.length
    · rw [him k hk']; exact h.sep i k hi hk'
    · obtain rfl : k = E.h.fams.length := by omega
      rw [hnew]
      have := (h.nb_lt hi).2
      simp only [Env.newFam]
      omega

/-! ### A row that is written, or grows, in its place -/

def Env.setFam (E : Env) (k : Nat) (us : Array Value) (f : Fam) : Env :=
  { E with w := E.w.setRow (E.im k).b us, h := { E.h with fams := E.h.fams.set k f } }

theorem setFam_ext (h : SR E) {k : Nat} {f f' : Fam} (hk : E.h.fams[k]? = some f) {us cur : Array Value} {t : TypeId} (hc : E.w.heap[(E.im k).b]? = some (.cells cur t (0, 0)))
    (hsz : f'.sz = f.sz) (hwr : f'.wr = f.wr) (hlen : f.xs.length ≤ f'.xs.length)
    (hkeep : f.wr = false → ∀ j, j < (E.im k).o + (f.xs.length - (E.im k).lo) * f.sz → us[j]? = cur[j]?) : Ext E (E.setFam k us f') := by
  have hk' := (List.getElem?_eq_some_iff.1 hk).1
  have hb := h.im_lt hk'
  refine ⟨fun b o ho => ?_, Nat.le_refl _, fun _ _ => rfl, by simp [Env.setFam], fun j g g' hg hg' => ?_, rfl, rfl, setRow_below us hb.1⟩
  · rcases ho with ⟨ho1, ho2⟩ | ⟨h1, h2, h3, h4⟩
    · exact ⟨.inl ⟨ho1, ho2⟩, cell_eq (setRow_other _ _ _ _ (by omega))⟩
    · refine ⟨.inr ⟨h1, by simpa [Env.setFam] using h2, h3, fun j g hj he => ?_⟩, ?_⟩
      · by_cases hn : k = j
        · subst hn
          have : g = f' := by simpa [Env.setFam, hk'] using hj.symm
          subst this
          obtain ⟨a1, a2⟩ := h4 k f hk he
          refine ⟨by rw [hwr]; exact a1, ?_⟩
          rw [hsz]
          refine Nat.lt_of_lt_of_le a2 (Nat.add_le_add_left (Nat.mul_le_mul_right _ (by show f.xs.length - (E.im k).lo ≤ g.xs.length - (E.im k).lo; omega)) _)
        · exact h4 j g (by simpa [Env.setFam, List.getElem?_set_ne hn] using hj) he
      · by_cases hbk : b = (E.im k).b
        · obtain ⟨a1, a2⟩ := h4 k f hk hbk.symm
          subst hbk
          have e1 : (E.w.setRow (E.im k).b us).cell? ⟨(E.im k).b, o, none⟩ = us[o]? := cell_of_row _ _ _ _ _ _ (setRow_heap _ _ _ _ _ _ hc)
          have e2 : E.w.cell? ⟨(E.im k).b, o, none⟩ = cur[o]? := cell_of_row _ _ _ _ _ _ hc
          refine ⟨?_, fun es clk e => by rw [hc] at e; cases e⟩
          show (E.w.setRow (E.im k).b us).cell? _ = _
          rw [e1, e2]
          exact hkeep a1 o a2
        · exact cell_eq (setRow_other _ _ _ _ hbk)
  · by_cases hn : k = j
    · subst hn
      have e1 : g' = f' := by simpa [Env.setFam, hk'] using hg'.symm
      have e2 : g = f := by have := hg.symm.trans hk; simpa using this
      subst e1; subst e2
      exact ⟨hsz, hlen, fun _ => rfl⟩
    · have : g = g' := by
        have hg'' : E.h.fams[j]? = some g' := by simpa [Env.setFam, List.getElem?_set_ne hn] using hg'
        have := hg.symm.trans hg''; simpa using this
      subst this
      exact ⟨rfl, Nat.le_refl _, fun _ => rfl⟩

theorem setFam_SR (h : SR E) {k : Nat} {f f' : Fam} (hk : E.h.fams[k]? = some f) {us cur : Array Value} {t : TypeId} (hc : E.w.heap[(E.im k).b]? = some (.cells cur t (0, 0)))
    (hsz : f'.sz = f.sz) (hwr : f'.wr = f.wr) (hlen : f.xs.length ≤ f'.xs.length)
    (hkeep : f.wr = false → ∀ j, j < (E.im k).o + (f.xs.length - (E.im k).lo) * f.sz → us[j]? = cur[j]?)
    (hroom : f'.xs.length ≤ (E.im k).lo + (E.im k).cap) (hsize : us.size = cur.size)
    (hel : ∀ (i : Nat) (x : AV), (E.im k).lo ≤ i → f'.xs[i]? = some x → FElem E us ((E.im k).o + (i - (E.im k).lo) * f.sz) f.sz x) : SR (E.setFam k us f') := by
  have hk' := (List.getElem?_eq_some_iff.1 hk).1
  have hx := setFam_ext h hk hc hsz hwr hlen hkeep
  have hl : (E.setFam k us f').h.fams.length = E.h.fams.length := by simp [Env.setFam]
  refine ⟨by simpa [Env.setFam] using h.basele, fun i cs hi => ?_, fun j g hj => ?_, h.inj, fun a b ha hb => h.injf a b (by simpa [hl] using ha) (by simpa [hl] using hb), fun i a hi ha => h.sep i a hi (by simpa [hl] using ha)⟩
  · have hi' := (List.getElem?_eq_some_iff.1 hi).1
    exact (h.boxes i cs hi).ext hx hi' (setRow_other _ _ _ _ (h.sep i k hi' hk'))
  · by_cases hn : k = j
    · subst hn
      have : g = f' := by simpa [Env.setFam, hk'] using hj.symm
      subst this
      have hf := h.fams k f hk
      obtain ⟨cur', t', c1, c2, _⟩ := hf.cells
      have : cur' = cur := by have := c1.symm.trans hc; simp at this; exact this.1
      subst this
      refine ⟨hf.base, by rw [hsz]; exact hf.sz, Nat.le_trans hf.lo hlen, hroom, hf.cap, us, t, setRow_heap _ _ _ _ _ _ hc, ?_, ?_⟩
      · show (E.im k).o + (E.im k).cap * g.sz ≤ us.size
        rw [hsz, hsize]; exact c2
      · intro i x hi hxi
        have := (hel i x hi hxi).ext hx
        rw [hsz]
        exact this
    · have hj' : j < E.h.fams.length := by have := (List.getElem?_eq_some_iff.1 hj).1; omega
      have hg : E.h.fams[j]? = some g := by simpa [Env.setFam, List.getElem?_set_ne hn] using hj
      exact (h.fams j g hg).ext hx rfl (setRow_other _ _ _ _ (fun e => hn (h.injf _ _ hk' hj' e.symm)))

/-! ### A row that is only read from now on -/

def Env.rstFam (E : Env) (k : Nat) (f : Fam) : Env := { E with h := { E.h with fams := E.h.fams.set k { f with wr := false } } }

theorem rstFam_ext {k : Nat} {f : Fam} (hk : E.h.fams[k]? = some f) : Ext E (E.rstFam k f) := by
  have hk' := (List.getElem?_eq_some_iff.1 hk).1
  have key : ∀ (j : Nat) (g : Fam), (E.rstFam k f).h.fams[j]? = some g → ∃ g0, E.h.fams[j]? = some g0 ∧ g.xs = g0.xs ∧ g.sz = g0.sz ∧ (g0.wr = false → g.wr = false) := by
    intro j g hj
    by_cases hn : k = j
    · subst hn
      have : g = { f with wr := false } := by simpa [Env.rstFam, hk'] using hj.symm
      subst this
      exact ⟨f, hk, rfl, rfl, fun _ => rfl⟩
    · exact ⟨g, by simpa [Env.rstFam, List.getElem?_set_ne hn] using hj, rfl, rfl, fun h => h⟩
  refine ⟨fun b o ho => ⟨?_, Stay.refl _ _ _⟩, Nat.le_refl _, fun _ _ => rfl, by simp [Env.rstFam], fun j g g' hg hg' => ?_, rfl, rfl, Below.refl _ _⟩
  · rcases ho with ho | ⟨h1, h2, h3, h4⟩
    · exact .inl ho
    · refine .inr ⟨h1, h2, h3, fun j g hj he => ?_⟩
      obtain ⟨g0, q1, q2, q3, q4⟩ := key j g hj
      obtain ⟨a1, a2⟩ := h4 j g0 q1 he
      exact ⟨q4 a1, by rw [q2, q3]; exact a2⟩
  · obtain ⟨g0, q1, q2, q3, _⟩ := key j g' hg'
    have : g0 = g := by have := q1.symm.trans hg; simpa using this
    subst this
    exact ⟨q3, by rw [q2]; exact Nat.le_refl _, fun _ => rfl⟩

theorem rstFam_SR (h : SR E) {k : Nat} {f : Fam} (hk : E.h.fams[k]? = some f) : SR (E.rstFam k f) := by
  have hk' := (List.getElem?_eq_some_iff.1 hk).1
  have hx := rstFam_ext hk
  have hl : (E.rstFam k f).h.fams.length = E.h.fams.length := by simp [Env.rstFam]
  refine ⟨h.basele, fun i cs hi => ?_, fun j g hj => ?_, h.inj, fun a b ha hb => h.injf a b (by simpa [hl] using ha) (by simpa [hl] using hb), fun i a hi ha => h.sep i a hi (by simpa [hl] using ha)⟩
  · have hi' := (List.getElem?_eq_some_iff.1 hi).1
    exact (h.boxes i cs hi).ext hx hi' rfl
  · by_cases hn : k = j
    · subst hn
      have : g = { f with wr := false } := by simpa [Env.rstFam, hk'] using hj.symm
      subst this
      have := (h.fams k f hk).ext hx rfl rfl
      exact ⟨this.base, this.sz, this.lo, this.room, this.cap, this.cells⟩
    · have hg : E.h.fams[j]? = some g := by simpa [Env.rstFam, List.getElem?_set_ne hn] using hj
      exact (h.fams j g hg).ext hx rfl rfl

/-! ### A row that moves to a new block as it grows -/

def Env.moveFam (E : Env) (k : Nat) (us : Array Value) (t : TypeId) (lo cap : Nat) (f : Fam) : Env :=
  { E with w := E.w.alloc (.cells us t), im := upd E.im k ⟨E.w.heap.size, 0, cap, lo⟩, h := { E.h with fams := E.h.fams.set k f } }

theorem moveFam_ext (h : SR E) {k : Nat} {f f' : Fam} (hk : E.h.fams[k]? = some f) (us : Array Value) (t : TypeId) (lo cap : Nat)
    (hsz : f'.sz = f.sz) (hlen : f.xs.length < f'.xs.length) : Ext E (E.moveFam k us t lo cap f') := by
  have hk' := (List.getElem?_eq_some_iff.1 hk).1
  refine ⟨fun b o ho => ?_, Nat.le_refl _, fun _ _ => rfl, by simp [Env.moveFam], fun j g g' hg hg' => ?_, rfl, rfl, (Below.refl _ _).alloc h.basele _⟩
  · have hlt := ok_lt h ho
    refine ⟨?_, cell_eq (Below.heap_alloc _ _ _ hlt)⟩
    rcases ho with ho | ⟨h1, _, h3, h4⟩
    · exact .inl ho
    · refine .inr ⟨h1, by simp [Env.moveFam]; omega, h3, fun j g hj he => ?_⟩
      by_cases hn : j = k
      · subst hn; simp only [Env.moveFam, upd_same] at he; omega
      · simp only [Env.moveFam, upd_other _ _ hn] at he ⊢
        exact h4 j g (by simpa [Env.moveFam, List.getElem?_set_ne (Ne.symm hn)] using hj) he
  · by_cases hn : k = j
    · subst hn
      have e1 : g' = f' := by simpa [Env.moveFam, hk'] using hg'.symm
      have e2 : g = f := by have := hg.symm.trans hk; simpa using this
      subst e1; subst e2
      exact ⟨hsz, Nat.le_of_lt hlen, fun e => by omega⟩
    · have hg'' : E.h.fams[j]? = some g' := by simpa [Env.moveFam, List.getElem?_set_ne hn] using hg'
      have : g = g' := by have := hg.symm.trans hg''; simpa using this
      subst this
      exact ⟨rfl, Nat.le_refl _, fun _ => upd_other _ _ (Ne.symm hn)⟩

theorem moveFam_SR (h : SR E) {k : Nat} {f f' : Fam} (hk : E.h.fams[k]? = some f) {us : Array Value} {t : TypeId} {lo cap : Nat}
    (hsz : f'.sz = f.sz) (hlen : f.xs.length < f'.xs.length) (hlo : lo ≤ f'.xs.length) (hroom : f'.xs.length ≤ lo + cap) (hcap : cap ≤ maxLen) (hfit : cap * f.sz ≤ us.size)
    (hel : ∀ (i : Nat) (x : AV), lo ≤ i → f'.xs[i]? = some x → FElem E us ((i - lo) * f.sz) f.sz x) : SR (E.moveFam k us t lo cap f') := by
  have hk' := (List.getElem?_eq_some_iff.1 hk).1
  have hx := moveFam_ext h hk us t lo cap hsz hlen
  have hl : (E.moveFam k us t lo cap f').h.fams.length = E.h.fams.length := by simp [Env.moveFam]
  have him : ∀ j, j ≠ k → (E.moveFam k us t lo cap f').im j = E.im j := fun j hj => upd_other _ _ hj
  have hnew : (E.moveFam k us t lo cap f').im k = ⟨E.w.heap.size, 0, cap, lo⟩ := upd_same _ _ _
  refine ⟨Nat.le_trans h.basele (by simp [Env.moveFam]), fun i cs hi => ?_, fun j g hj => ?_, h.inj, fun a b ha hb he => ?_, fun i a hi ha => ?_⟩
  · have hi' := (List.getElem?_eq_some_iff.1 hi).1
    exact (h.boxes i cs hi).ext hx hi' (Below.heap_alloc _ _ _ (h.nb_lt hi').2)
  · by_cases hn : k = j
    · subst hn
      have : g = f' := by simpa [Env.moveFam, hk'] using hj.symm
      subst this
      have hf := h.fams k f hk
      refine ⟨by rw [hnew]; exact h.basele, by rw [hsz]; exact hf.sz, by rw [hnew]; exact hlo, by rw [hnew]; exact hroom, by rw [hnew]; exact hcap, us, t, by rw [hnew]; exact heap_alloc_new _ _, by rw [hnew, hsz]; simpa using hfit, ?_⟩
      rw [hnew]
      intro i x hi hxi
      have := (hel i x hi hxi).ext hx
      rw [hsz]
      simpa using this
    · have hj' : j < E.h.fams.length := by have := (List.getElem?_eq_some_iff.1 hj).1; omega
      have hg : E.h.fams[j]? = some g := by simpa [Env.moveFam, List.getElem?_set_ne hn] using hj
      exact (h.fams j g hg).ext hx (him j (Ne.symm hn)) (Below.heap_alloc _ _ _ (h.im_lt hj').2)
  · rw [hl] at ha hb
    by_cases e1 : a = k <;> by_cases e2 : b = k
    · omega
    · subst e1
      rw [hnew, him b e2] at he; have := (h.im_lt hb).2; simp at he; omega
    · subst e2
      rw [hnew, him a e1] at he; have := (h.im_lt ha).2; simp at he; omega
    · rw [him a e1, him b e2] at he; exact h.injf a b ha hb he
  · rw [hl] at ha
    by_cases e1 : a = k
    · subst e1
      rw [hnew]
      have := (h.nb_lt hi).2
      simp only [Env.moveFam]
      omega
    · rw [him a e1]; exact h.sep i a hi ha

end
end Go.Abs

/- Operands, constants, values laid to rest, loads: abstract and in the model. -/
namespace Go.Abs
open Go.RowKit (Below)

/-- A frame. -/
structure FR (E : Env) (fr : Fr) (tmps : Array Value) : Prop where
  len : fr.length = tmps.size
  val : ∀ t : Nat, VR E (fr.getD t undefA) (tmps.getD t undef)

theorem VR_undef (E : Env) : VR E undefA undef := by simp [undefA, undef, VR, VRs]

theorem FR.ext {E E' : Env} (h : Ext E E') {fr : Fr} {tmps : Array Value} (hf : FR E fr tmps) : FR E' fr tmps := ⟨hf.len, fun t => VR_ext h _ _ (hf.val t)⟩

theorem FR.put {E : Env} {fr : Fr} {a : Act} (hf : FR E fr a.tmps) (dst : Option Nat) {v : AV} {u : Value} (hv : VR E v u) : FR E (put fr dst v) (a.put dst u).tmps := by
  cases dst with
  | none => exact hf
  | some d =>
    refine ⟨by simp [Abs.put, Act.put, hf.len], fun t => ?_⟩
    simp only [Abs.put, Act.put]
    by_cases hd : d < fr.length
    · by_cases ht : d = t
      · subst ht
        have hd' : d < a.tmps.size := by rw [← hf.len]; exact hd
        simpa [List.getD, Array.getD, hd, hd'] using hv
      · have := hf.val t
        simpa [List.getD, List.getElem?_set_ne ht, Array.getElem?_setIfInBounds_ne ht] using this
    · have := hf.val t
      have hd' : ¬ d < a.tmps.size := by rw [← hf.len]; exact hd
      have e1 : fr.set d v = fr := List.set_eq_of_length_le (by omega)
      have e2 : a.tmps.setIfInBounds d u = a.tmps := Array.setIfInBounds_eq_of_size_le (by omega)
      rw [e1, e2]; exact this

theorem mapO_spec {α β : Type} {f : α → Option β} : ∀ {l : List α} {r : List β}, mapO f l = some r → r.length = l.length ∧ ∀ (j : Nat) (x : α), l[j]? = some x → ∃ y, f x = some y ∧ r[j]? = some y
  | [], r, h => by simp [mapO] at h; subst h; simp
  | a :: l, r, h => by
    simp only [mapO] at h
    split at h
    · rename_i y ys h1 h2
      cases h
      obtain ⟨hl, hg⟩ := mapO_spec h2
      refine ⟨by simp [hl], fun j x hx => ?_⟩
      cases j with
      | zero => simp at hx; subst hx; exact ⟨y, h1, rfl⟩
      | succ j => simpa using hg j x (by simpa using hx)
    · cases h

theorem constAV1_sound {w : World} {ok : Nat → Nat → Prop} : ∀ {v : Value} {x : AV}, constAV1 v = some x → PV w ok x v ∧ v.oneCell' = true := by
  intro v x h
  unfold constAV1 at h
  split at h
  case h_1 => cases h; exact ⟨by simp [PV], rfl⟩
  case h_2 => cases h; exact ⟨by simp [PV], rfl⟩
  case h_3 => cases h; exact ⟨by simp [PV], rfl⟩
  case h_4 => cases h; exact ⟨by simp only [PV]; exact ⟨none, 0, 0, rfl, rfl, by omega, by omega, fun _ => rfl, ⟨fun _ => rfl, by simp⟩, fun h => absurd rfl h⟩, rfl⟩
  case h_5 => cases h; exact ⟨by simp [PV], rfl⟩
  case h_6 => cases h; exact ⟨by simp [PV], rfl⟩
  case h_7 => cases h; exact ⟨by simp [PV], rfl⟩
  case h_9 => cases h
  case h_8 f a b =>
    split at h
    · rename_i hs
      cases h
      have ha : a = #[] := Array.size_eq_zero_iff.1 hs.1
      have hb : b = #[] := Array.size_eq_zero_iff.1 hs.2
      subst ha; subst hb
      exact ⟨by simp [PV, PVs], rfl⟩
    · cases h

theorem constAV_sound {w : World} {ok : Nat → Nat → Prop} {v : Value} {x : AV} (h : constAV v = some x) : PV w ok x v := by
  unfold constAV at h
  split at h
  · rename_i cs
    cases hm : mapO constAV1 cs.toList with
    | none => simp [hm] at h
    | some ys =>
      simp [hm] at h
      subst h
      obtain ⟨hl, hg⟩ := mapO_spec hm
      simp only [PV]
      refine ⟨cs, rfl, fun u hu => ?_, PVs_of hl.symm fun j c u hc hu => ?_⟩
      · obtain ⟨j, hj⟩ := List.getElem?_of_mem hu
        obtain ⟨y, hy, _⟩ := hg j u hj
        exact (constAV1_sound (w := w) (ok := ok) hy).2
      · obtain ⟨y, hy, hy'⟩ := hg j u hu
        have : c = y := by rw [hc] at hy'; simpa using hy'
        subst this
        exact (constAV1_sound hy).1
  · rename_i vs
    split at h
    · rename_i hs
      cases h
      have : vs = #[] := Array.size_eq_zero_iff.1 hs
      subst this
      simp [PV, PVs]
    · cases h
  · exact (constAV1_sound h).1

section
variable {E : Env}

theorem opd_sound {fr : Fr} {a : Act} (hf : FR E fr a.tmps) {x : Operand} {y : Opd} (h : resOpd x = some y) : VR E (get fr y) (a.eval x) := by
  cases x with
  | tmp t => simp [resOpd] at h; subst h; exact hf.val t
  | const v =>
    simp only [resOpd] at h
    cases hc : constAV v with
    | none => simp [hc] at h
    | some av => simp [hc] at h; subst h; exact VR_of_PV _ _ (constAV_sound hc)
  | global g => simp [resOpd] at h
  | func f => simp [resOpd] at h; subst h; simp [get, Act.eval, VR, VRs]

theorem opds_sound {fr : Fr} {a : Act} (hf : FR E fr a.tmps) {xs : Array Operand} {ys : List Opd} (h : mapO resOpd xs.toList = some ys) : VRs E (ys.map (get fr)) (xs.map a.eval).toList := by
  obtain ⟨hl, hg⟩ := mapO_spec h
  refine VRs_of (by simpa using hl.symm) fun j c u hc hu => ?_
  simp only [Array.toList_map, List.getElem?_map] at hc hu
  cases hx : xs.toList[j]? with
  | none => simp [hx] at hu
  | some x =>
    obtain ⟨y, hy, hy'⟩ := hg j x hx
    simp [hx] at hu
    simp [hy'] at hc
    subst hu; subst hc
    exact opd_sound hf hy

theorem VR_one {x : AV} {v : Value} (h : VR E x v) (ht : x.isTup = false) (ha : ∀ cs, x ≠ .agg cs) : v.oneCell' = true ∧ v.cells = #[v] := by
  cases x <;> simp only [VR, PV] at h
  case agg cs => exact absurd rfl (ha cs)
  case tup => simp [AV.isTup] at ht
  case junk => refine ⟨h, ?_⟩; cases v <;> simp_all [Value.oneCell', Value.cells]
  case vs => obtain ⟨a, len, cap, rfl, _⟩ := h; exact ⟨rfl, rfl⟩
  case sl => obtain ⟨a, cap, f, rfl, _⟩ := h; exact ⟨rfl, rfl⟩
  case pv => obtain ⟨b, o, rfl, _⟩ := h; exact ⟨rfl, rfl⟩
  case ep => obtain ⟨b, o, f, rfl, _⟩ := h; exact ⟨rfl, rfl⟩
  case ptr => obtain ⟨_, rfl⟩ := h; exact ⟨rfl, rfl⟩
  case mp => obtain ⟨_, rfl⟩ := h; exact ⟨rfl, rfl⟩
  case vm => obtain ⟨b, es, clk, rfl, _⟩ := h; exact ⟨rfl, rfl⟩
  case fn => obtain ⟨us, rfl, _⟩ := h; exact ⟨rfl, rfl⟩
  all_goals (subst h; exact ⟨rfl, rfl⟩)

theorem VR_cells {x : AV} {v : Value} (h : VR E x v) (ht : x.isTup = false) : VRs E x.cells v.cells.toList ∧ ∀ u ∈ v.cells.toList, u.oneCell' = true := by
  by_cases ha : ∃ cs, x = .agg cs
  · obtain ⟨cs, rfl⟩ := ha
    simp only [VR] at h
    obtain ⟨us, rfl, h1, h2⟩ := h
    exact ⟨h2, h1⟩
  · have ha' : ∀ cs, x ≠ .agg cs := fun cs e => ha ⟨cs, e⟩
    obtain ⟨h1, h2⟩ := VR_one h ht ha'
    have hc : x.cells = [x] := by cases x <;> first | rfl | exact absurd rfl (ha' _)
    rw [hc, h2]
    exact ⟨by simp [VRs, h], by simpa using h1⟩

/-! ### Rows laid to rest -/

theorem mul_room {i n sz c : Nat} (hi : i < n) (hc : c < sz) : i * sz + c < n * sz := by
  have : (i + 1) * sz ≤ n * sz := Nat.mul_le_mul_right _ hi
  rw [Nat.succ_mul] at this
  omega

theorem sl_PV (hS : SR E) {k n off len : Nat} {v : Value} {f : Fam} (hv : VR E (.sl k n off len) v) (hf : E.h.fams[k]? = some f) (hn : f.xs.length = n) (ho : off + len ≤ n)
    {ok' : Nat → Nat → Prop} (hok : ∀ b o, E.ok b o → ok' b o) (hown : f.wr = true → ∀ b o, E.base ≤ b → b < E.w.heap.size → ok' b o) :
    PV E.w ok' (.vs false f.sz ((f.xs.drop off).take len)) v := by
  simp only [VR] at hv
  obtain ⟨a, cap, f', rfl, hf', hle, hc⟩ := hv
  have : f' = f := by rw [hf] at hf'; simpa using hf'.symm
  subst this
  obtain ⟨h1, h2, h3, h4, h5⟩ := hc hn
  have hF := hS.fams k f' hf
  have hk := (List.getElem?_eq_some_iff.1 hf).1
  have hb := hS.im_lt hk
  have hroom := hF.room
  have hcap := hF.cap
  have hlen : ((f'.xs.drop off).take len).length = len := by simp; omega
  simp only [PV]
  refine ⟨a, len, cap, rfl, hlen.symm, by omega, by omega, by simp, ⟨fun e => absurd e h4, ⟨fun e => absurd e h4, fun e => absurd hF.sz (by omega)⟩⟩, fun hne => ?_⟩
  have hpos : 0 < len := by
    rcases Nat.eq_zero_or_pos len with h0 | h0
    · subst h0; simp at hne
    · exact h0
  refine ⟨_, _, h5 (by omega), hF.sz, PEls_of fun j x hx => ?_⟩
  have hj : j < len := by have := (List.getElem?_eq_some_iff.1 hx).1; omega
  have hx' : f'.xs[off + j]? = some x := by
    rw [List.getElem?_take, if_pos hj, List.getElem?_drop] at hx; exact hx
  obtain ⟨cur, t, c1, c2, c3⟩ := hF.cells
  obtain ⟨e1, e2⟩ := c3 (off + j) x (by omega) hx'
  have epos : (E.im k).o + (off + j - (E.im k).lo) * f'.sz = (E.im k).o + (off - (E.im k).lo) * f'.sz + j * f'.sz := by
    rw [show off + j - (E.im k).lo = (off - (E.im k).lo) + j from by omega, Nat.add_mul]; omega
  refine ⟨e1, PCells_of fun c y hy => ?_⟩
  obtain ⟨u, u1, u2, u3⟩ := e2 c y hy
  have hcs : c < f'.sz := by have := (List.getElem?_eq_some_iff.1 hy).1; omega
  rw [epos] at u1
  refine ⟨u, ?_, ?_, u2, PV_mono (fun b o h => ⟨hok b o h, Stay.refl _ _ _⟩) _ _ u3⟩
  · cases hw : f'.wr with
    | true => exact hown hw _ _ hb.1 hb.2
    | false =>
      refine hok _ _ (.inr ⟨hb.1, hb.2, fun i hi e => absurd e (hS.sep i k hi hk), fun k' g hk' he => ?_⟩)
      have hk'' := (List.getElem?_eq_some_iff.1 hk').1
      have := hS.injf k' k hk'' hk he
      subst this
      have : g = f' := by rw [hf] at hk'; simpa using hk'.symm
      subst this
      refine ⟨hw, ?_⟩
      rw [← epos, Nat.add_assoc]
      exact Nat.add_lt_add_left (mul_room (by omega) hcs) _
  · rw [cell_of_row _ _ _ _ _ _ c1]; exact u1

theorem flat_PV {x : AV} {v : Value} (h : VR E x v) (hf : x.flat = true) : PV E.w E.ok x v := by
  cases x <;> simp only [VR] at h <;> first | exact h | (simp [AV.flat] at hf; done) | skip
  all_goals simp only [PV]
  all_goals first
    | exact h
    | skip
  case fn f caps =>
    obtain ⟨us, rfl, hu⟩ := h
    have hc : caps = [] := by simpa [AV.flat] using hf
    subst hc
    refine ⟨us, rfl, ?_⟩
    simpa [VRs, PVs] using hu

/-- `ok'` lets all that pure values may lean on; and, where rows that may be written to are let (`am`), all memory. -/
def OkUp (E : Env) (am : Bool) (ok' : Nat → Nat → Prop) : Prop := (∀ b o, E.ok b o → ok' b o) ∧ (am = true → ∀ b o, E.base ≤ b → b < E.w.heap.size → ok' b o)

theorem frz1_sound (hS : SR E) {am : Bool} {ok' : Nat → Nat → Prop} (hok : OkUp E am ok') {x y : AV} {v : Value} (hv : VR E x v) (h : frz1 E.h am x = some y) : PV E.w ok' y v ∧ (v.oneCell' = true → True) ∧ y.isTup = false := by
  have up : ∀ {z : AV} {u : Value}, PV E.w E.ok z u → PV E.w ok' z u := fun hz => PV_mono (fun b o h => ⟨hok.1 b o h, Stay.refl _ _ _⟩) _ _ hz
  cases x <;> simp only [frz1] at h
  case sl k n off len =>
    split at h
    · rename_i f hf
      split at h
      · rename_i hc
        cases h
        refine ⟨sl_PV hS hv hf hc.1 hc.2.1 hok.1 (fun hw => hok.2 ?_), fun _ => trivial, rfl⟩
        have := hc.2.2; simpa [hw] using this
      · cases h
    · cases h
  case ep => cases h
  case ptr => cases h
  case agg => cases h
  case tup => cases h
  case mbox => cases h
  case rbox => cases h
  case mp b =>
    split at h
    · rename_i ks vs hb
      split at h
      · rename_i ham
        cases h
        simp only [VR] at hv
        obtain ⟨hlt, rfl⟩ := hv
        obtain ⟨es, clk, h1, h2, h3⟩ := (hS.boxes b _ hb).map
        have hlt' := hS.nb_lt hlt
        refine ⟨?_, fun _ => trivial, rfl⟩
        simp only [PV]
        exact ⟨E.nb b, es, clk, rfl, hok.2 ham _ _ hlt'.1 hlt'.2, h1, PVs_mono (fun b o h => ⟨hok.1 b o h, Stay.refl _ _ _⟩) _ _ h2, PVs_mono (fun b o h => ⟨hok.1 b o h, Stay.refl _ _ _⟩) _ _ h3⟩
      · cases h
    · cases h
  case fn f caps =>
    split at h
    · rename_i hc
      cases h
      refine ⟨?_, fun _ => trivial, rfl⟩
      simp only [VR] at hv
      obtain ⟨us, rfl, hu⟩ := hv
      obtain ⟨hl, hg⟩ := VRs_get hu
      simp only [PV]
      refine ⟨us, rfl, PVs_of hl fun j c u hc' hu' => ?_⟩
      obtain ⟨u', h1, h2⟩ := hg hc'
      have : u' = u := by rw [hu'] at h1; simpa using h1.symm
      subst this
      exact up (flat_PV h2 ((List.all_eq_true.1 hc) c (List.mem_of_getElem? hc')))
    · cases h
  all_goals (cases h; exact ⟨up (flat_PV hv rfl), fun _ => trivial, rfl⟩)

theorem frzL_sound (hS : SR E) {am : Bool} {ok' : Nat → Nat → Prop} (hok : OkUp E am ok') : ∀ {xs ys : List AV} {us : List Value}, VRs E xs us → frzL E.h am xs = some ys → PVs E.w ok' ys us
  | [], ys, us, hv, h => by simp [frzL] at h; subst h; simpa [VRs, PVs] using hv
  | x :: xs, ys, us, hv, h => by
    simp only [frzL, Option.bind_eq_some_iff, Option.map_eq_some_iff] at h
    obtain ⟨y, hy, ys', hys, rfl⟩ := h
    simp only [VRs] at hv
    obtain ⟨u, us', rfl, h1, h2⟩ := hv
    simp only [PVs]
    exact ⟨u, us', rfl, (frz1_sound hS hok h1 hy).1, frzL_sound hS hok h2 hys⟩

theorem frz_sound (hS : SR E) {am : Bool} {ok' : Nat → Nat → Prop} (hok : OkUp E am ok') {x y : AV} {v : Value} (hv : VR E x v) (h : frz E.h am x = some y) : PV E.w ok' y v ∧ y.isTup = false := by
  unfold frz at h
  split at h
  · rename_i cs
    simp only [Option.map_eq_some_iff] at h
    obtain ⟨ys, hys, rfl⟩ := h
    simp only [VR] at hv
    obtain ⟨us, rfl, h1, h2⟩ := hv
    simp only [PV]
    exact ⟨⟨us, rfl, h1, frzL_sound hS hok h2 hys⟩, rfl⟩
  · have := frz1_sound hS hok hv h
    exact ⟨this.1, this.2.2⟩

theorem frzAll_sound (hS : SR E) {am : Bool} {ok' : Nat → Nat → Prop} (hok : OkUp E am ok') : ∀ {xs ys : List AV} {us : List Value}, VRs E xs us → frzAll E.h am xs = some ys → PVs E.w ok' ys us
  | [], ys, us, hv, h => by simp [frzAll] at h; subst h; simpa [VRs, PVs] using hv
  | x :: xs, ys, us, hv, h => by
    simp only [frzAll, Option.bind_eq_some_iff, Option.map_eq_some_iff] at h
    obtain ⟨y, hy, ys', hys, rfl⟩ := h
    simp only [VRs] at hv
    obtain ⟨u, us', rfl, h1, h2⟩ := hv
    simp only [PVs]
    exact ⟨u, us', rfl, (frz_sound hS hok h1 hy).1, frzAll_sound hS hok h2 hys⟩

theorem frzRes_sound (hS : SR E) {ok' : Nat → Nat → Prop} (hok : OkUp E true ok') {x y : AV} {v : Value} (hv : VR E x v) (h : frzRes E.h x = some y) : PV E.w ok' y v := by
  unfold frzRes at h
  split at h
  · rename_i vs
    simp only [Option.map_eq_some_iff] at h
    obtain ⟨ys, hys, rfl⟩ := h
    simp only [VR] at hv
    obtain ⟨us, rfl, h2⟩ := hv
    simp only [PV]
    exact ⟨us, rfl, frzAll_sound hS hok h2 hys⟩
  · exact (frz_sound hS hok hv h).1

/-! ### Loads -/

/-- Cells from o on in block b. -/
def CellsV (E : Env) (b o : Nat) (cs : List AV) : Prop :=
  ∀ (j : Nat) (c : AV), cs[j]? = some c → ∃ u, E.w.cell? ⟨b, o + j, none⟩ = some u ∧ u.oneCell' = true ∧ VR E c u

theorem CellsV.drop {b o n : Nat} {cs : List AV} (h : CellsV E b o cs) : CellsV E b (o + n) (cs.drop n) := by
  intro j c hc
  rw [List.getElem?_drop] at hc
  have := h (n + j) c hc
  rwa [show o + (n + j) = o + n + j from by omega] at this

theorem CellsV_of_PCells {b o : Nat} {cs : List AV} (h : PCells E.w E.ok b o cs) : CellsV E b o cs := by
  intro j c hc
  obtain ⟨u, _, h2, h3, h4⟩ := PCells_get h hc
  exact ⟨u, h2, h3, VR_of_PV _ _ h4⟩

theorem loadA_cells (hS : SR E) {agg : Bool} {n : Nat} {x r : AV} {v : Value} (hv : VR E x v) (h : loadA E.h agg n x = some r) :
    ∃ b o cs, v = .pointer (some ⟨b, o, none⟩) ∧ CellsV E b o cs ∧ ofCells agg n cs = some r := by
  cases x <;> simp only [loadA] at h <;> try (cases h; done)
  case pv cs =>
    simp only [VR, PV] at hv
    obtain ⟨b, o, rfl, hc⟩ := hv
    exact ⟨b, o, cs, rfl, CellsV_of_PCells hc, h⟩
  case ptr b off =>
    split at h
    · rename_i cs hcs
      simp only [VR] at hv
      obtain ⟨_, rfl⟩ := hv
      have hmb : isMB cs = false := by
        cases hq : isMB cs with
        | false => rfl
        | true => rw [hq, if_pos rfl] at h; cases h
      rw [hmb, if_neg (by simp)] at h
      obtain ⟨cur, t, h2, h3, h4⟩ := (hS.boxes b cs hcs).row hmb
      refine ⟨E.nb b, 0 + off, cs.drop off, by simp, CellsV.drop ?_, h⟩
      obtain ⟨hl, hg⟩ := VRs_get h3
      intro j c hc
      obtain ⟨u, h5, h6⟩ := hg hc
      refine ⟨u, ?_, h4 u (List.mem_of_getElem? h5), h6⟩
      rw [Nat.zero_add, cell_of_row _ _ _ _ _ _ h2]
      simpa using h5
    · cases h
  case ep k m i c sz =>
    split at h
    · rename_i f hf
      split at h
      · rename_i hm
        split at h
        · rename_i y hy
          simp only [VR] at hv
          obtain ⟨b, o, f', rfl, hf', _, hc⟩ := hv
          have : f' = f := by rw [hf] at hf'; simpa using hf'.symm
          subst this
          obtain ⟨hlo, hbo⟩ := hc hm
          rw [hbo]
          obtain ⟨cur, t, c1, c2, c3⟩ := (hS.fams k f' hf).cells
          obtain ⟨e1, e2⟩ := c3 i y hlo hy
          refine ⟨_, _, y.cells.drop c, rfl, CellsV.drop ?_, h⟩
          intro j z hz
          obtain ⟨u, u1, u2, u3⟩ := e2 j z hz
          exact ⟨u, by rw [cell_of_row _ _ _ _ _ _ c1]; exact u1, u2, VR_of_PV _ _ u3⟩
        · cases h
      · cases h
    · cases h

theorem add_addr (b o j : Nat) : (⟨b, o, none⟩ : Addr).add j = ⟨b, o + j, none⟩ := by unfold Addr.add; split <;> simp_all

theorem run_load_cells {P : Program} {t : TypeId} {agg : Bool} {n b o : Nat} {cs : List AV} {r : AV} (hc : CellsV E b o cs) (h : ofCells agg n cs = some r)
    (ha : Program.agg? P t = some agg) (hn : Program.size? P t = some n) : ∃ v, (loadVar t ⟨b, o, none⟩).run P E.w = .ok v E.w ∧ VR E r v := by
  have hisAgg : (isAgg t).run P E.w = .ok agg E.w := by
    unfold Program.agg? at ha
    unfold isAgg underlying
    split at ha <;> simp_all
  have hsize : (sizeOf t).run P E.w = .ok n E.w := by
    unfold Program.size? at hn
    unfold sizeOf typeInfo
    simp only [Option.map_eq_some_iff] at hn
    obtain ⟨i, hi, rfl⟩ := hn
    simp [hi]
  cases agg with
  | true =>
    simp only [ofCells] at h
    split at h
    · rename_i hle
      cases h
      have hex : ∀ j, j < n → ∃ u, E.w.cell? ⟨b, o + j, none⟩ = some u ∧ u.oneCell' = true ∧ VR E (cs.getD j default) u := by
        intro j hj
        have hj' : cs[j]? = some (cs.getD j default) := by simp [List.getD, List.getElem?_eq_getElem (show j < cs.length by omega)]
        exact hc j _ hj'
      have hpick : ∃ g : Nat → Value, ∀ j, j < n → E.w.cell? ⟨b, o + j, none⟩ = some (g j) ∧ (g j).oneCell' = true ∧ VR E (cs.getD j default) (g j) := by
        refine ⟨fun j => if hj : j < n then Classical.choose (hex j hj) else default, fun j hj => ?_⟩
        simp only [hj, dif_pos]
        exact Classical.choose_spec (hex j hj)
      obtain ⟨g, hg⟩ := hpick
      have hl := run_loadCells (P := P) E.w ⟨b, o, none⟩ n g (fun j hj => by rw [add_addr]; exact (hg j hj).1)
      refine ⟨.agg (List.map g (List.range n)).toArray, ?_, ?_⟩
      · unfold loadVar
        simp only [Sem.run_bind, hisAgg, Result.andThen_ok, if_true, hsize, hl, Sem.run_pure]
      · simp only [VR]
        refine ⟨_, rfl, fun u hu => ?_, VRs_of (by simp; omega) fun j c u hc' hu => ?_⟩
        · simp at hu
          obtain ⟨j, hj, rfl⟩ := hu
          exact (hg j hj).2.1
        · have hj : j < n := by have := (List.getElem?_eq_some_iff.1 hc').1; simp at this; omega
          rw [List.getElem?_take, if_pos hj] at hc'
          have e1 : u = g j := by simpa [hj] using hu.symm
          have e2 : cs.getD j default = c := by simp [List.getD, hc']
          rw [e1, ← e2]
          exact (hg j hj).2.2
    · cases h
  | false =>
    simp only [ofCells] at h
    have h0 : cs[0]? = some r := by rw [← h]; cases cs <;> rfl
    obtain ⟨u, h1, _, h3⟩ := hc 0 r h0
    refine ⟨u, ?_, h3⟩
    unfold loadVar
    simp only [Sem.run_bind, hisAgg, Result.andThen_ok, Bool.false_eq_true, if_false]
    simp at h1
    simp [h1]

end
end Go.Abs

/- Operations that leave the model's world alone: what they yield stands to what the abstract operation yields. -/
namespace Go.Abs
open Go.RowKit (Below)
section
variable {E : Env} {P : Program} {fr : Fr} {a : Act}

/-- The operation yields u and leaves the world alone. -/
def Quiet (P : Program) (a : Act) (o : Oper) (E : Env) (v : AV) : Prop := ∃ u, (execOp a.eval o).run P E.w = .ok (.value u) E.w ∧ VR E v u

theorem VR_int (k : IntKind) (n : Int) : VR E (.int k n) (.int k n) := by simp [VR]
theorem VR_bool (b : Bool) : VR E (.bool b) (.bool b) := by simp [VR]
theorem VR_str (b : ByteArray) : VR E (.str b) (.string b) := by simp [VR]

theorem eqGuard_int (op : BinOp) (t : TypeId) (x y : Operand) (k k' : IntKind) (i j : Int) (w : World) : (eqGuard op t x y (.int k i) (.int k' j)).run P w = .ok () w := by
  unfold eqGuard; cases op <;> simp
theorem eqGuard_str (op : BinOp) (t : TypeId) (x y : Operand) (i j : ByteArray) (w : World) : (eqGuard op t x y (.string i) (.string j)).run P w = .ok () w := by
  unfold eqGuard; cases op <;> simp
theorem eqGuard_bool (op : BinOp) (t : TypeId) (x y : Operand) (i j : Bool) (w : World) : (eqGuard op t x y (.bool i) (.bool j)).run P w = .ok () w := by
  unfold eqGuard; cases op <;> simp

theorem bin_int_sound {op : BinOp} {t : TypeId} {k k' : IntKind} {i j : Int} {v : AV} (w : World) (h : evalBin op (.int k i) (.int k' j) = some v) :
    ∃ u, (binOp op t (.int k i) (.int k' j)).run P w = .ok u w ∧ VR E v u := by
  cases op <;> simp only [evalBin] at h <;> try (cases h; done)
  case quo =>
    split at h
    · rename_i hk; cases h; obtain ⟨rfl, hj⟩ := hk; refine ⟨_, ?_, VR_int _ _⟩; simp [binOp, Op.intDiv, hj]
    · cases h
  case rem =>
    split at h
    · rename_i hk; cases h; obtain ⟨rfl, hj⟩ := hk; refine ⟨_, ?_, VR_int _ _⟩; simp [binOp, Op.intDiv, hj]
    · cases h
  case shl =>
    split at h
    · rename_i hk; cases h; refine ⟨_, ?_, VR_int _ _⟩; simp [binOp, Op.shift, show ¬ j < 0 from by omega]
    · cases h
  case shr =>
    split at h
    · rename_i hk; cases h; refine ⟨_, ?_, VR_int _ _⟩; simp [binOp, Op.shift, show ¬ j < 0 from by omega]
    · cases h
  all_goals
    split at h
    · rename_i hk; cases h; subst hk; first | (refine ⟨_, ?_, VR_int _ _⟩; simp [binOp, Op.intArith, Op.intBits]; done) | (refine ⟨_, ?_, VR_bool _⟩; simp [binOp, Op.intCmp]; done)
    · cases h

theorem bin_str_sound {op : BinOp} {t : TypeId} {i j : ByteArray} {v : AV} (w : World) (h : evalBin op (.str i) (.str j) = some v) :
    ∃ u, (binOp op t (.string i) (.string j)).run P w = .ok u w ∧ VR E v u := by
  cases op <;> simp only [evalBin] at h <;> try (cases h; done)
  case add =>
    split at h
    · cases h
    · rename_i hk; cases h; refine ⟨_, ?_, VR_str _⟩; simp only [binOp, Op.stringOp, hk, if_false, Sem.run_pure]
  all_goals (cases h; refine ⟨_, ?_, VR_bool _⟩; simp [binOp, Op.stringOp])

theorem bin_sound {op : BinOp} {t : TypeId} {x y : AV} {v : AV} {xv yv : Value} (hx : VR E x xv) (hy : VR E y yv) (px py : Operand) (w : World) (h : evalBin op x y = some v) :
    ∃ u, (do eqGuard op t px py xv yv; binOp op t xv yv : Sem Value).run P w = .ok u w ∧ VR E v u := by
  cases x <;> cases y <;> try (simp [evalBin] at h; done)
  · simp only [VR] at hx hy; subst hx; subst hy
    obtain ⟨u, h1, h2⟩ := bin_int_sound (E := E) (P := P) (t := t) w h
    exact ⟨u, by simp [eqGuard_int, h1], h2⟩
  · simp only [VR] at hx hy; subst hx; subst hy
    obtain ⟨u, h1, h2⟩ := bin_str_sound (E := E) (P := P) (t := t) w h
    exact ⟨u, by simp [eqGuard_str, h1], h2⟩

theorem run_under {t : TypeId} {d : TypeDesc} (h : P.underlying t = some d) (w : World) : (underlying t).run P w = .ok d w := by unfold underlying; simp [h]
theorem run_size {t : TypeId} {n : Nat} (h : Program.size? P t = some n) (w : World) : (sizeOf t).run P w = .ok n w := by
  unfold Program.size? at h
  simp only [Option.map_eq_some_iff] at h
  obtain ⟨i, hi, rfl⟩ := h
  unfold sizeOf typeInfo
  simp [hi]

theorem equalIn_bool {t : TypeId} (ht : P.underlying t = some .bool) (d : Nat) (i j : Bool) (w : World) : (Op.equalIn (d + 1) t (.bool i) (.bool j)).run P w = .ok (i == j) w := by
  simp [Op.equalIn, run_under ht]

theorem beq_sound {neg : Bool} {t : TypeId} {i j : Bool} (ht : P.underlying t = some .bool) (px py : Operand) (w : World) :
    (do eqGuard (if neg then .neq else .eql) t px py (.bool i) (.bool j); binOp (if neg then .neq else .eql) t (.bool i) (.bool j) : Sem Value).run P w = .ok (.bool (if neg then !(i == j) else i == j)) w := by
  have h : (Op.equal t (.bool i) (.bool j)).run P w = .ok (i == j) w := equalIn_bool ht 9999 i j w
  cases neg <;> simp only [if_true, if_false, Bool.false_eq_true, Sem.run_bind, eqGuard_bool, Result.andThen_ok, binOp, h, Sem.run_pure]

theorem equalIn_nil {t e : TypeId} {ad : Option Addr} {len cap : Nat} (ht : P.underlying t = some (.slice e)) (d : Nat) (w : World) : (Op.equalIn (d + 1) t (.slice ad len cap) (.slice none 0 0)).run P w = .ok ad.isNone w := by
  cases ad <;> simp [Op.equalIn, run_under ht]

theorem nileq_sound {neg : Bool} {t e : TypeId} {ad : Option Addr} {len cap : Nat} (ht : P.underlying t = some (.slice e)) (px py : Operand) (w : World) :
    (do eqGuard (if neg then .neq else .eql) t px py (.slice ad len cap) (.slice none 0 0); binOp (if neg then .neq else .eql) t (.slice ad len cap) (.slice none 0 0) : Sem Value).run P w = .ok (.bool (if neg then !ad.isNone else ad.isNone)) w := by
  have h : (Op.equal t (.slice ad len cap) (.slice none 0 0)).run P w = .ok ad.isNone w := equalIn_nil ht 9999 w
  have g : (eqGuard (if neg then .neq else .eql) t px py (.slice ad len cap) (.slice none 0 0)).run P w = .ok () w := by
    unfold eqGuard; cases neg <;> simp
  cases neg <;> simp only [if_true, if_false, Bool.false_eq_true, Sem.run_bind, Result.andThen_ok, binOp, h, Sem.run_pure] at g ⊢ <;> simp only [g, Result.andThen_ok, h, Sem.run_bind, Sem.run_pure]

theorem bound_sound (hf : FR E fr a.tmps) {x : Option Operand} {y : Option Opd} (hr : resOpt x = some y) {r : Option Int} (h : boundA fr y = some r) :
    (r = none ∧ x.map a.eval = none) ∨ ∃ k i, r = some i ∧ x.map a.eval = some (.int k i) := by
  cases x with
  | none => simp [resOpt] at hr; subst hr; simp [boundA] at h; subst h; exact .inl ⟨rfl, rfl⟩
  | some x =>
    simp only [resOpt, Option.map_eq_some_iff] at hr
    obtain ⟨z, hz, rfl⟩ := hr
    have hv := opd_sound hf hz
    simp only [boundA] at h
    split at h
    · rename_i k i hg
      cases h
      rw [hg] at hv
      simp only [VR] at hv
      exact .inr ⟨k, i, rfl, by simp [hv]⟩
    · cases h

theorem run_sliceBound {k : IntKind} {i : Int} {y : Nat} {code : Go.BoundsCode} (w : World) (h0 : 0 ≤ i) (h1 : i ≤ y) : (Instr.sliceBound (.int k i) y code).run P w = .ok i.toNat w := by
  unfold Instr.sliceBound; simp [asIntOf, h0, h1]

theorem sliceBounds_none {b : Bool} {len cap : Nat} {lo hi : Option Value} {l h : Option Int} (w : World) (hl : (l = none ∧ lo = none) ∨ ∃ k i, l = some i ∧ lo = some (.int k i)) (hh : (h = none ∧ hi = none) ∨ ∃ k i, h = some i ∧ hi = some (.int k i))
    (h0 : 0 ≤ l.getD 0) (h1 : l.getD 0 ≤ h.getD len) (h2 : h.getD len ≤ len) (hc : len ≤ cap) :
    (Instr.sliceBounds b len cap lo hi none).run P w = .ok ((l.getD 0).toNat, (h.getD len).toNat, cap) w := by
  unfold Instr.sliceBounds
  rcases hl with ⟨rfl, rfl⟩ | ⟨k, i, rfl, rfl⟩ <;> rcases hh with ⟨rfl, rfl⟩ | ⟨k', j, rfl, rfl⟩ <;> simp only [Option.getD_none, Option.getD_some] at h0 h1 h2 ⊢
  · simp
  · cases b <;> simp [run_sliceBound w (show (0 : Int) ≤ j by omega) (show j ≤ (cap : Int) by omega)]
  · simp [run_sliceBound w h0 (show i ≤ (len : Int) by omega)]
  · have e : i ≤ ((j.toNat : Nat) : Int) := by omega
    cases b <;> simp [run_sliceBound w (show (0 : Int) ≤ j by omega) (show j ≤ (cap : Int) by omega), run_sliceBound w h0 e]

theorem sliceBounds_some {b : Bool} {len cap : Nat} {lo hi mx : Option Value} {l h : Option Int} {m : Int} (w : World) (hl : (l = none ∧ lo = none) ∨ ∃ k i, l = some i ∧ lo = some (.int k i)) (hh : (h = none ∧ hi = none) ∨ ∃ k i, h = some i ∧ hi = some (.int k i))
    (hm : ∃ k, mx = some (.int k m)) (hs : h.isSome = true)
    (h0 : 0 ≤ l.getD 0) (h1 : l.getD 0 ≤ h.getD len) (h2 : h.getD len ≤ m) (hc : m ≤ cap) :
    (Instr.sliceBounds b len cap lo hi mx).run P w = .ok ((l.getD 0).toNat, (h.getD len).toNat, m.toNat) w := by
  unfold Instr.sliceBounds
  obtain ⟨km, rfl⟩ := hm
  rcases hh with ⟨rfl, rfl⟩ | ⟨k', j, rfl, rfl⟩
  · simp at hs
  simp only [Option.getD_some] at h1 h2 ⊢
  have em : j ≤ ((m.toNat : Nat) : Int) := by omega
  rcases hl with ⟨rfl, rfl⟩ | ⟨k, i, rfl, rfl⟩ <;> simp only [Option.getD_none, Option.getD_some] at h0 h1 ⊢
  · cases b <;> simp [run_sliceBound w (show (0 : Int) ≤ m by omega) hc, run_sliceBound w (show (0 : Int) ≤ j by omega) em]
  · have e : i ≤ ((j.toNat : Nat) : Int) := by omega
    cases b <;> simp [run_sliceBound w (show (0 : Int) ≤ m by omega) hc, run_sliceBound w (show (0 : Int) ≤ j by omega) em, run_sliceBound w h0 e]

end
end Go.Abs

namespace Go.Abs
open Go.RowKit (Below)
section
variable {E : Env} {P : Program} {fr : Fr} {a : Act} {o : Oper}

theorem q_mov {x : Operand} {y : Opd} (hf : FR E fr a.tmps) (ho : o.op = .move x ∨ o.op = .assign x) (hx : resOpd x = some y) : Quiet P a o E (get fr y) := by
  refine ⟨a.eval x, ?_, opd_sound hf hx⟩
  rcases ho with ho | ho <;> simp [execOp, ho]

theorem q_pick {c x y : Operand} {c' x' y' : Opd} {t : Bool} (hf : FR E fr a.tmps) (ho : o.op = .pick c x y) (hc : resOpd c = some c') (hx : resOpd x = some x') (hy : resOpd y = some y') (hg : get fr c' = .bool t) :
    Quiet P a o E (if t then get fr x' else get fr y') := by
  have h := opd_sound hf hc
  rw [hg] at h
  simp only [VR] at h
  refine ⟨if t then a.eval x else a.eval y, ?_, ?_⟩
  · cases t <;> simp [execOp, ho, h, asBool]
  · cases t
    · exact opd_sound hf hy
    · exact opd_sound hf hx

theorem q_ld {t : TypeId} {x : Operand} {x' : Opd} {b : Bool} {n : Nat} {v : AV} (hS : SR E) (hf : FR E fr a.tmps) (ho : o.op = .load t x) (hb : Program.agg? P t = some b) (hn : Program.size? P t = some n) (hx : resOpd x = some x')
    (h : loadA E.h b n (get fr x') = some v) : Quiet P a o E v := by
  obtain ⟨bl, of, cs, e1, e2, e3⟩ := loadA_cells hS (opd_sound hf hx) h
  obtain ⟨u, h1, h2⟩ := run_load_cells (P := P) e2 e3 hb hn
  exact ⟨u, by simp [execOp, ho, Instr.loadAt, Instr.sureAddr, e1, h1], h2⟩

theorem q_nilck {x : Operand} {x' : Opd} {v : AV} (hf : FR E fr a.tmps) (ho : o.op = .nilCheck x) (hx : resOpd x = some x')
    (h : (match get fr x' with | .pv cs => some (AV.pv cs, E.h) | .ptr b o => some (.ptr b o, E.h) | .ep k n i q s => some (.ep k n i q s, E.h) | .fn f cs => some (.fn f cs, E.h) | _ => none) = some (v, E.h)) : Quiet P a o E v := by
  have hv := opd_sound hf hx
  refine ⟨a.eval x, ?_, ?_⟩
  · split at h
    · rename_i hg; rw [hg] at hv; simp only [VR, PV] at hv; obtain ⟨b, o', e, _⟩ := hv; simp [execOp, ho, e]
    · rename_i hg; rw [hg] at hv; simp only [VR] at hv; obtain ⟨_, e⟩ := hv; simp [execOp, ho, e]
    · rename_i hg; rw [hg] at hv; simp only [VR] at hv; obtain ⟨a', o', f, e, _⟩ := hv; simp [execOp, ho, e]
    · rename_i hg; rw [hg] at hv; simp only [VR] at hv; obtain ⟨us, e, _⟩ := hv; simp [execOp, ho, e]
    · cases h
  · split at h <;> first | (cases h; done) | (rename_i hg; rw [hg] at hv; simp at h; rw [← h]; exact hv)

theorem q_bin {op : BinOp} {t t' : TypeId} {x y : Operand} {x' y' : Opd} {v : AV} (hf : FR E fr a.tmps) (ho : o.op = .binOp op t x y t') (hx : resOpd x = some x') (hy : resOpd y = some y')
    (h : evalBin op (get fr x') (get fr y') = some v) : Quiet P a o E v := by
  obtain ⟨u, h1, h2⟩ := bin_sound (P := P) (t := t) (opd_sound hf hx) (opd_sound hf hy) x y E.w h
  refine ⟨u, ?_, h2⟩
  simp only [execOp, ho, Sem.run_bind] at h1 ⊢
  rw [h1]
  rfl

theorem q_beq {neg : Bool} {t t' : TypeId} {x y : Operand} {x' y' : Opd} {i j : Bool} (hf : FR E fr a.tmps) (ho : o.op = .binOp (if neg then .neq else .eql) t x y t') (ht : P.underlying t = some .bool) (hx : resOpd x = some x') (hy : resOpd y = some y')
    (hi : get fr x' = .bool i) (hj : get fr y' = .bool j) : Quiet P a o E (.bool (if neg then !(i == j) else i == j)) := by
  have e1 := opd_sound hf hx
  have e2 := opd_sound hf hy
  rw [hi] at e1; rw [hj] at e2
  simp only [VR] at e1 e2
  refine ⟨_, ?_, VR_bool _⟩
  have h := beq_sound (neg := neg) (i := i) (j := j) ht x y E.w
  simp only [execOp, ho, Sem.run_bind, e1, e2] at h ⊢
  rw [h]
  rfl

theorem q_nileq {neg : Bool} {t e t' : TypeId} {x y : Operand} {x' : Opd} {full : Bool} {z : Nat} {xs : List AV} (hf : FR E fr a.tmps) (ho : o.op = .binOp (if neg then .neq else .eql) t x y t') (ht : P.underlying t = some (.slice e)) (hx : resOpd x = some x') (hy : resOpd y = some (.c (.vs true 0 [])))
    (hi : get fr x' = .vs full z xs) : Quiet P a o E (.bool (if neg then !(z == 0) else z == 0)) := by
  have e1 := opd_sound hf hx
  have e2 := opd_sound hf hy
  rw [hi] at e1
  simp only [get, VR, PV] at e1 e2
  obtain ⟨ad, len, cap, e3, e4, e5, e6, e7, e8, e9⟩ := e1
  obtain ⟨ad', len', cap', k3, k4, k5, k6, k7, k8, k9⟩ := e2
  obtain rfl : ad' = none := k8.2.2 trivial
  obtain rfl : len' = 0 := k4
  obtain rfl : cap' = 0 := k8.1 rfl
  refine ⟨_, ?_, VR_bool _⟩
  have h := nileq_sound (neg := neg) (ad := ad) (len := len) (cap := cap) ht x y E.w
  have hz : ad.isNone = (z == 0) := by
    cases ad with
    | none => simp [e8.2.1 rfl]
    | some a => have : z ≠ 0 := fun hz => by have := e8.2.2 hz; cases this
                simp [this]
  rw [hz] at h
  simp only [execOp, ho, Sem.run_bind, e3, k3] at h ⊢
  rw [h]
  rfl

theorem q_un {op : UnOp} {t : TypeId} {x : Operand} {x' : Opd} {v : AV} (hf : FR E fr a.tmps) (ho : o.op = .unOp op t x) (hx : resOpd x = some x') (h : evalUn op (get fr x') = some v) : Quiet P a o E v := by
  have hv := opd_sound hf hx
  generalize get fr x' = y at h hv
  cases y <;> cases op <;> simp only [evalUn] at h <;> cases h
  · simp only [VR] at hv
    refine ⟨_, ?_, VR_bool _⟩
    simp only [execOp, ho, hv, Op.unary, Sem.run_bind, Sem.run_pure, Result.andThen_ok]
  · simp only [VR] at hv
    refine ⟨_, ?_, VR_int _ _⟩
    simp only [execOp, ho, hv, Op.unary, Op.intArith, Sem.run_bind, Sem.run_pure, Result.andThen_ok]

theorem q_conv {s d : TypeId} {k k0 : IntKind} {x : Operand} {x' : Opd} {q : IntKind} {n : Int} (hf : FR E fr a.tmps) (ho : o.op = .convert s d x) (hs : P.underlying s = some (.int k0)) (hd : P.underlying d = some (.int k)) (hx : resOpd x = some x')
    (hg : get fr x' = .int q n) : Quiet P a o E (.int k (k.wrap n)) := by
  have hv := opd_sound hf hx
  rw [hg] at hv
  simp only [VR] at hv
  exact ⟨_, by simp [execOp, ho, convert, run_under hs, run_under hd, hv, Conv.intToInt], VR_int _ _⟩

theorem q_cstr {s d : TypeId} {x : Operand} {x' : Opd} {n : ByteArray} (hf : FR E fr a.tmps) (ho : o.op = .convert s d x) (hs : P.underlying s = some .string) (hd : P.underlying d = some .string) (hx : resOpd x = some x')
    (hg : get fr x' = .str n) : Quiet P a o E (.str n) := by
  have hv := opd_sound hf hx
  rw [hg] at hv
  simp only [VR] at hv
  exact ⟨_, by simp [execOp, ho, convert, run_under hs, run_under hd, hv], VR_str _⟩

theorem q_clos {f : FuncId} {first caps : Array Operand} {cs : List Opd} (hf : FR E fr a.tmps) (ho : o.op = .makeFunc (.func f) first caps) (h0 : first.size = 0) (hc : mapO resOpd caps.toList = some cs) :
    Quiet P a o E (.fn f (cs.map (get fr))) := by
  have : first = #[] := Array.size_eq_zero_iff.1 h0
  subst this
  refine ⟨.func (.func f) #[] (caps.map a.eval), by simp [execOp, ho, Instr.makeFunc], ?_⟩
  simp only [VR]
  exact ⟨_, rfl, opds_sound hf hc⟩

theorem q_faddr {s : TypeId} {x : Operand} {x' : Opd} {i n : Nat} {fs : Array Field} {f : Field} {v : AV} (hf : FR E fr a.tmps) (ho : o.op = .fieldAddr s x i) (hs : P.underlying s = some (.struct fs)) (hi : fs[i]? = some f)
    (hn : Program.size? P f.type = some n) (hpos : 0 < n) (hx : resOpd x = some x')
    (h : (match get fr x' with | .pv cs => some (AV.pv (cs.drop f.offset), E.h) | .ptr b o => some (.ptr b (o + f.offset), E.h) | .ep k n i q s => some (.ep k n i (q + f.offset) s, E.h) | _ => none) = some (v, E.h)) : Quiet P a o E v := by
  have hv := opd_sound hf hx
  have hp : ∀ b q, (fieldPlace ⟨b, q, none⟩ f).run P E.w = .ok ⟨b, q + f.offset, none⟩ E.w := by
    intro b q
    unfold fieldPlace
    simp [run_size hn, show ¬ n = 0 from by omega, add_addr]
  split at h
  · rename_i cs hg
    rw [hg] at hv
    simp only [VR, PV] at hv
    obtain ⟨b, q, e, hc⟩ := hv
    simp at h; subst h
    refine ⟨.pointer (some ⟨b, q + f.offset, none⟩), by simp [execOp, ho, Instr.fieldAt, run_under hs, hi, e, Instr.sureAddr, hp], ?_⟩
    simp only [VR, PV]
    refine ⟨b, q + f.offset, rfl, PCells_of fun j c hc' => ?_⟩
    rw [List.getElem?_drop] at hc'
    have := PCells_get hc hc'
    rwa [show q + (f.offset + j) = q + f.offset + j from by omega] at this
  · rename_i b q hg
    rw [hg] at hv
    simp only [VR] at hv
    obtain ⟨hb, e⟩ := hv
    simp at h; subst h
    exact ⟨.pointer (some ⟨E.nb b, q + f.offset, none⟩), by simp [execOp, ho, Instr.fieldAt, run_under hs, hi, e, Instr.sureAddr, hp], by simp only [VR]; exact ⟨hb, trivial⟩⟩
  · rename_i k m j q sz hg
    rw [hg] at hv
    simp only [VR] at hv
    obtain ⟨b, q', g, e, hg1, hg2, hg3⟩ := hv
    simp at h; subst h
    refine ⟨.pointer (some ⟨b, q' + f.offset, none⟩), by simp [execOp, ho, Instr.fieldAt, run_under hs, hi, e, Instr.sureAddr, hp], ?_⟩
    simp only [VR]
    refine ⟨b, _, g, rfl, hg1, hg2, fun hm => ?_⟩
    obtain ⟨h1, h2⟩ := hg3 hm
    simp only [Addr.mk.injEq] at h2 ⊢
    exact ⟨h1, h2.1, by omega, trivial⟩
  · cases h

theorem run_agg {t : TypeId} {b : Bool} (ha : Program.agg? P t = some b) (w : World) : (isAgg t).run P w = .ok b w := by
  unfold Program.agg? at ha
  unfold isAgg underlying
  split at ha <;> simp_all

theorem VR_take {cs : List AV} {us : Array Value} {off n : Nat} (h : VRs E cs us.toList) (h1 : ∀ u ∈ us.toList, u.oneCell' = true) {b : Bool} {v : AV} (hv : ofCells b n (cs.drop off) = some v) :
    (b = true → VR E v (.agg (us.extract off (off + n)))) ∧ (b = false → ∃ u, us[off]? = some u ∧ VR E v u) := by
  obtain ⟨hl, hg⟩ := VRs_get h
  cases b with
  | true =>
    refine ⟨fun _ => ?_, fun h => by cases h⟩
    simp only [ofCells] at hv
    split at hv
    · rename_i hle
      cases hv
      simp only [VR]
      have hlen : us.size = cs.length := by simpa using hl
      simp at hle
      refine ⟨_, rfl, fun u hu => h1 u ?_, VRs_of (by simp; omega) fun j c u hc hu => ?_⟩
      · rw [Array.toList_extract] at hu
        exact List.mem_of_mem_drop (List.mem_of_mem_take hu)
      · have hj : j < n := by have := (List.getElem?_eq_some_iff.1 hc).1; simp at this; omega
        rw [List.getElem?_take, if_pos hj, List.getElem?_drop] at hc
        obtain ⟨u', h2, h3⟩ := hg hc
        have : u = u' := by
          have h4 : us.toList[off + j]? = some u := by
            simp only [Array.toList_extract, List.extract_eq_take_drop, List.getElem?_take, List.getElem?_drop] at hu
            split at hu
            · exact hu
            · cases hu
          rw [h4] at h2; simpa using h2
        subst this
        exact h3
    · cases hv
  | false =>
    refine ⟨fun h => by (cases h), fun _ => ?_⟩
    simp only [ofCells] at hv
    have h0 : cs[off]? = some v := by rw [← hv, List.head?_drop]
    obtain ⟨u, h2, h3⟩ := hg h0
    exact ⟨u, by simpa using h2, h3⟩

theorem q_fld {s : TypeId} {x : Operand} {x' : Opd} {i n : Nat} {fs : Array Field} {f : Field} {b : Bool} {cs : List AV} {v : AV} (hf : FR E fr a.tmps) (ho : o.op = .field s x i) (hs : P.underlying s = some (.struct fs)) (hi : fs[i]? = some f)
    (hb : Program.agg? P f.type = some b) (hn : Program.size? P f.type = some n) (hx : resOpd x = some x') (hg : get fr x' = .agg cs) (h : ofCells b n (cs.drop f.offset) = some v) : Quiet P a o E v := by
  have hv := opd_sound hf hx
  rw [hg] at hv
  simp only [VR] at hv
  obtain ⟨us, e, h1, h2⟩ := hv
  obtain ⟨t1, t2⟩ := VR_take h2 h1 h
  cases b with
  | true => exact ⟨_, by simp [execOp, ho, Instr.field, run_under hs, hi, e, asAgg, part, run_agg hb, run_size hn], t1 rfl⟩
  | false =>
    obtain ⟨u, h3, h4⟩ := t2 rfl
    exact ⟨u, by simp [execOp, ho, Instr.field, run_under hs, hi, e, asAgg, part, run_agg hb, h3], h4⟩

theorem q_iaddr {t e : TypeId} {x i : Operand} {x' i' : Opd} {n : Nat} {v : AV} (hS : SR E) (hf : FR E fr a.tmps) (ho : o.op = .indexAddr t x i) (ht : P.underlying t = some (.slice e)) (hn : Program.size? P e = some n)
    (hx : resOpd x = some x') (hi : resOpd i = some i')
    (h : (match get fr x', get fr i' with
      | .vs _ z xs, .int _ j => if 0 ≤ j ∧ z = n then (match xs[j.toNat]? with | some e => some (AV.pv e.cells, E.h) | none => none) else none
      | .sl k m off len, .int _ j => if 0 ≤ j ∧ j < len then some (.ep k m (off + j.toNat) 0 n, E.h) else none
      | _, _ => none) = some (v, E.h)) : Quiet P a o E v := by
  have hv := opd_sound hf hx
  have hw := opd_sound hf hi
  split at h
  · rename_i full z xs q j hg hj
    rw [hg] at hv; rw [hj] at hw
    simp only [VR, PV] at hv hw
    split at h
    · rename_i hc
      split at h
      · rename_i el hel
        obtain ⟨ad, len, cap, e1, e2, e3, e4, e5, e6, e7⟩ := hv
        have hlt := (List.getElem?_eq_some_iff.1 hel).1
        obtain ⟨b, q', rfl, _, hels⟩ := e7 (by intro hn; subst hn; simp at hlt)
        have hp := PEls_get hels hel
        simp at h; subst h
        have hjl : j < (len : Int) := by omega
        refine ⟨.pointer (some ⟨b, q' + j.toNat * n, none⟩), ?_, ?_⟩
        · simp [execOp, ho, Instr.indexAt, hw, asIntOf, run_under ht, e1, hc.1, hjl, run_size hn, add_addr]
        · simp only [VR, PV]
          rw [hc.2] at hp
          exact ⟨b, _, rfl, hp.2⟩
      · cases h
    · cases h
  · rename_i k m off len q j hg hj
    rw [hg] at hv; rw [hj] at hw
    simp only [VR] at hv hw
    split at h
    · rename_i hc
      obtain ⟨hj0, hjl⟩ := hc
      obtain ⟨ad, cap, f', e1, e2, ⟨e3, e5⟩, e4⟩ := hv
      obtain ⟨b, q', rfl⟩ := e5 (by omega)
      simp at h; subst h
      refine ⟨.pointer (some ⟨b, q' + j.toNat * n, none⟩), ?_, ?_⟩
      · simp [execOp, ho, Instr.indexAt, hw, asIntOf, run_under ht, e1, hj0, hjl, run_size hn, add_addr]
      · simp only [VR]
        refine ⟨_, _, f', rfl, e2, e3, fun hm => ?_⟩
        obtain ⟨l1, l2, l3, l4, l5⟩ := e4 hm.1
        have hF := hS.fams k f' e2
        have hroom := hF.room
        have ead := l5 (by omega)
        simp only [Option.some.injEq, Addr.mk.injEq] at ead
        obtain ⟨rfl, rfl, _⟩ := ead
        refine ⟨by omega, ?_⟩
        rw [← hm.2, Nat.add_zero, show off + j.toNat - (E.im k).lo = (off - (E.im k).lo) + j.toNat from by omega, Nat.add_mul, ← Nat.add_assoc]
    · cases h
  · cases h

theorem q_idx {t : TypeId} {x i : Operand} {x' i' : Opd} {s : ByteArray} {q : IntKind} {j : Int} {b : UInt8} (hf : FR E fr a.tmps) (ho : o.op = .index t x i) (ht : P.underlying t = some .string) (hx : resOpd x = some x') (hi : resOpd i = some i')
    (hg : get fr x' = .str s) (hj : get fr i' = .int q j) (h0 : 0 ≤ j) (hb : s[j.toNat]? = some b) : Quiet P a o E (.int .u8 b.toNat) := by
  have hv := opd_sound hf hx
  have hw := opd_sound hf hi
  rw [hg] at hv; rw [hj] at hw
  simp only [VR] at hv hw
  exact ⟨_, by simp [execOp, ho, Instr.index, hw, hv, asIntOf, run_under ht, h0, hb], VR_int _ _⟩

theorem q_ext {x : Operand} {x' : Opd} {i : Nat} {vs : List AV} {v : AV} (hf : FR E fr a.tmps) (ho : o.op = .extract x i) (hx : resOpd x = some x') (hg : get fr x' = .tup vs) (h : vs[i]? = some v) : Quiet P a o E v := by
  have hv := opd_sound hf hx
  rw [hg] at hv
  simp only [VR] at hv
  obtain ⟨us, e, h2⟩ := hv
  obtain ⟨u, h3, h4⟩ := (VRs_get h2).2 h
  have h3' : us[i]? = some u := by simpa using h3
  exact ⟨u, by simp [execOp, ho, Instr.extract, e, h3'], h4⟩

end
end Go.Abs
