/- A whole state of the abstract machine and the model's memory: what each kind of step does to it. -/
import Derived.Test.YtpkegmgepnhfnaaA3
namespace Go.Abs
open Go.RowKit (Below)

/-- An element of a row as its cells hold it. -/
def FElem (E : Env) (cur : Array Value) (p sz : Nat) (x : AV) : Prop :=
  x.cells.length = sz ∧ ∀ (c : Nat) (y : AV), x.cells[c]? = some y → ∃ v, cur[p + c]? = some v ∧ v.oneCell' = true ∧ PV E.w E.ok y v

structure FamR (E : Env) (k : Nat) (f : Fam) : Prop where
  base : E.base ≤ (E.im k).b
  sz : 0 < f.sz
  lo : (E.im k).lo ≤ f.xs.length
  room : f.xs.length ≤ (E.im k).lo + (E.im k).cap
  cap : (E.im k).cap ≤ maxLen
  cells : ∃ cur t, E.w.heap[(E.im k).b]? = some (.cells cur t (0, 0)) ∧ (E.im k).o + (E.im k).cap * f.sz ≤ cur.size ∧
    ∀ (i : Nat) (x : AV), (E.im k).lo ≤ i → f.xs[i]? = some x → FElem E cur ((E.im k).o + (i - (E.im k).lo) * f.sz) f.sz x

def BoxR (E : Env) (i : Nat) (cs : List AV) : Prop :=
  E.base ≤ E.nb i ∧ ∃ cur t, E.w.heap[E.nb i]? = some (.cells cur t (0, 0)) ∧ VRs E cs cur.toList ∧ ∀ v ∈ cur.toList, v.oneCell' = true

structure SR (E : Env) : Prop where
  basele : E.base ≤ E.w.heap.size
  boxes : ∀ (i : Nat) (cs : List AV), E.h.boxes[i]? = some cs → BoxR E i cs
  fams : ∀ (k : Nat) (f : Fam), E.h.fams[k]? = some f → FamR E k f
  inj : ∀ i j, i < E.h.boxes.length → j < E.h.boxes.length → E.nb i = E.nb j → i = j
  injf : ∀ k j, k < E.h.fams.length → j < E.h.fams.length → (E.im k).b = (E.im j).b → k = j
  sep : ∀ i k, i < E.h.boxes.length → k < E.h.fams.length → E.nb i ≠ (E.im k).b

section
variable {E : Env}

theorem heap_lt {w : World} {b : Nat} {o : Obj} (h : w.heap[b]? = some o) : b < w.heap.size := (Array.getElem?_eq_some_iff.1 h).1

theorem SR.nb_lt (h : SR E) {i : Nat} (hi : i < E.h.boxes.length) : E.base ≤ E.nb i ∧ E.nb i < E.w.heap.size := by
  obtain ⟨h1, cur, t, h2, _⟩ := h.boxes i _ (List.getElem?_eq_getElem hi)
  exact ⟨h1, heap_lt h2⟩

theorem SR.im_lt (h : SR E) {k : Nat} (hk : k < E.h.fams.length) : E.base ≤ (E.im k).b ∧ (E.im k).b < E.w.heap.size := by
  have hf := h.fams k _ (List.getElem?_eq_getElem hk)
  obtain ⟨cur, t, h2, _⟩ := hf.cells
  exact ⟨hf.base, heap_lt h2⟩

theorem ok_lt (h : SR E) {b o : Nat} (hb : E.ok b o) : b < E.w.heap.size := by
  rcases hb with ⟨hb, _⟩ | ⟨_, hb, _⟩
  · exact Nat.lt_of_lt_of_le hb h.basele
  · exact hb

theorem cell_eq {w w' : World} {b o : Nat} (h : w'.heap[b]? = w.heap[b]?) : w'.cell? ⟨b, o, none⟩ = w.cell? ⟨b, o, none⟩ := World.cell?_of_block (a := ⟨b, o, none⟩) h

/-- What goes on when a state goes on: boxes and rows that are as they were. -/
theorem BoxR.ext {E' : Env} (h : Ext E E') {i : Nat} {cs : List AV} (hi : i < E.h.boxes.length) (hb : E'.w.heap[E.nb i]? = E.w.heap[E.nb i]?) (hx : BoxR E i cs) : BoxR E' i cs := by
  obtain ⟨h1, cur, t, h2, h3, h4⟩ := hx
  refine ⟨by rw [h.base, h.nb i hi]; exact h1, cur, t, by rw [h.nb i hi, hb]; exact h2, VRs_ext h _ _ h3, h4⟩

theorem FElem.ext {E' : Env} (h : Ext E E') {cur : Array Value} {p sz : Nat} {x : AV} (hx : FElem E cur p sz x) : FElem E' cur p sz x :=
  ⟨hx.1, fun c y hc => by obtain ⟨v, h1, h2, h3⟩ := hx.2 c y hc; exact ⟨v, h1, h2, PV_mono h.cells _ _ h3⟩⟩

theorem FamR.ext {E' : Env} (h : Ext E E') {k : Nat} {f : Fam} (him : E'.im k = E.im k) (hb : E'.w.heap[(E.im k).b]? = E.w.heap[(E.im k).b]?) (hx : FamR E k f) : FamR E' k f := by
  obtain ⟨cur, t, h1, h2, h3⟩ := hx.cells
  refine ⟨by rw [h.base, him]; exact hx.base, hx.sz, by rw [him]; exact hx.lo, by rw [him]; exact hx.room, by rw [him]; exact hx.cap, cur, t, by rw [him, hb]; exact h1, by rw [him]; exact h2, ?_⟩
  rw [him]
  exact fun i x hi hx' => (h3 i x hi hx').ext h

/-! ### The world alone goes on (draws; new blocks of others; calls of pure functions) -/

theorem grow_ext (h : SR E) {w' : World} (hb : Below E.w.heap.size E.w w') : Ext E { E with w := w' } := by
  refine ⟨fun b o ho => ?_, Nat.le_refl _, fun _ _ => rfl, Nat.le_refl _, fun k f f' hf hf' => ?_, rfl, rfl, hb.mono h.basele⟩
  · have hlt := ok_lt h ho
    refine ⟨?_, cell_eq (hb.block b hlt)⟩
    rcases ho with ho | ⟨h1, _, h3, h4⟩
    · exact .inl ho
    · exact .inr ⟨h1, Nat.lt_of_lt_of_le hlt hb.size, h3, h4⟩
  · have : f = f' := by have := hf.symm.trans hf'; simpa using this
    subst this
    exact ⟨rfl, Nat.le_refl _, fun _ => rfl⟩

theorem grow_SR (h : SR E) {w' : World} (hb : Below E.w.heap.size E.w w') : SR { E with w := w' } := by
  have hx := grow_ext h hb
  refine ⟨Nat.le_trans h.basele hb.size, fun i cs hi => ?_, fun k f hk => ?_, h.inj, h.injf, h.sep⟩
  · have hi' := (List.getElem?_eq_some_iff.1 hi).1
    exact (h.boxes i cs hi).ext hx hi' (hb.block _ (h.nb_lt hi').2)
  · have hk' := (List.getElem?_eq_some_iff.1 hk).1
    exact (h.fams k f hk).ext hx rfl (hb.block _ (h.im_lt hk').2)

/-! ### A new box -/

def upd {α : Type} (f : Nat → α) (n : Nat) (x : α) : Nat → α := fun i => if i = n then x else f i
theorem upd_same {α : Type} (f : Nat → α) (n : Nat) (x : α) : upd f n x n = x := by simp [upd]
theorem upd_other {α : Type} (f : Nat → α) {n i : Nat} (x : α) (h : i ≠ n) : upd f n x i = f i := by simp [upd, h]

def Env.newBox (E : Env) (us : Array Value) (t : TypeId) (cs : List AV) : Env :=
  { E with w := E.w.alloc (.cells us t), nb := upd E.nb E.h.boxes.length E.w.heap.size, h := { E.h with boxes := E.h.boxes ++ [cs] } }

theorem newBox_ext (h : SR E) (us : Array Value) (t : TypeId) (cs : List AV) : Ext E (E.newBox us t cs) := by
  refine ⟨fun b o ho => ?_, by simp [Env.newBox], fun i hi => upd_other _ _ (by omega), Nat.le_refl _, fun k f f' hf hf' => ?_, rfl, rfl, (Below.refl _ _).alloc h.basele _⟩
  · have hlt := ok_lt h ho
    refine ⟨?_, cell_eq (Below.heap_alloc _ _ _ hlt)⟩
    rcases ho with ho | ⟨h1, _, h3, h4⟩
    · exact .inl ho
    · refine .inr ⟨h1, by simp [Env.newBox]; omega, fun i hi => ?_, h4⟩
      by_cases hn : i = E.h.boxes.length
      · subst hn; simp only [Env.newBox, upd_same]; omega
      · simp only [Env.newBox, upd_other _ _ hn]
        exact h3 i (by simp [Env.newBox] at hi; omega)
  · have : f = f' := by have := hf.symm.trans hf'; simpa using this
    subst this
    exact ⟨rfl, Nat.le_refl _, fun _ => rfl⟩

theorem newBox_SR (h : SR E) {us : Array Value} {t : TypeId} {cs : List AV} (hv : VRs E cs us.toList) (h1 : ∀ v ∈ us.toList, v.oneCell' = true) : SR (E.newBox us t cs) := by
  have hx := newBox_ext h us t cs
  have hlen : (E.newBox us t cs).h.boxes.length = E.h.boxes.length + 1 := by simp [Env.newBox]
  have hnb : ∀ i, i < E.h.boxes.length → (E.newBox us t cs).nb i = E.nb i := fun i hi => upd_other _ _ (by omega)
  have hnew : (E.newBox us t cs).nb E.h.boxes.length = E.w.heap.size := upd_same _ _ _
  refine ⟨Nat.le_trans h.basele (by simp [Env.newBox]), fun i cs' hi => ?_, fun k f hk => ?_, fun i j hi hj he => ?_, h.injf, fun i k hi hk => ?_⟩
  · by_cases hn : i = E.h.boxes.length
    · subst hn
      have : cs' = cs := by simpa [Env.newBox] using hi.symm
      subst this
      exact ⟨by rw [hnew]; exact h.basele, us, t, by rw [hnew]; exact heap_alloc_new _ _, VRs_ext hx _ _ hv, h1⟩
    · have hi' : i < E.h.boxes.length := by have := (List.getElem?_eq_some_iff.1 hi).1; omega
      have hcs : E.h.boxes[i]? = some cs' := by
        simp only [Env.newBox] at hi
        rwa [List.getElem?_append_left hi'] at hi
      exact (h.boxes i cs' hcs).ext hx hi' (Below.heap_alloc _ _ _ (h.nb_lt hi').2)
  · have hk' : k < E.h.fams.length := (List.getElem?_eq_some_iff.1 hk).1
    exact (h.fams k f hk).ext hx rfl (Below.heap_alloc _ _ _ (h.im_lt hk').2)
  · rw [hlen] at hi hj
    by_cases hi' : i < E.h.boxes.length <;> by_cases hj' : j < E.h.boxes.length
    · rw [hnb i hi', hnb j hj'] at he; exact h.inj i j hi' hj' he
    · obtain rfl : j = E.h.boxes.length := by omega
      rw [hnb i hi', hnew] at he; have := (h.nb_lt hi').2; omega
    · obtain rfl : i = E.h.boxes.length := by omega
      rw [hnb j hj', hnew] at he; have := (h.nb_lt hj').2; omega
    · omega
  · rw [hlen] at hi
    have hk' : k < E.h.fams.length := hk
    by_cases hi' : i < E.h.boxes.length
    · rw [hnb i hi']; exact h.sep i k hi' hk'
    · obtain rfl : i = E.h.boxes.length := by omega
      rw [hnew]
      have := (h.im_lt hk').2
      simp only [Env.newBox]
      omega

/-! ### A store into a box -/

def Env.setBox (E : Env) (i : Nat) (us : Array Value) (cs : List AV) : Env :=
  { E with w := E.w.setRow (E.nb i) us, h := { E.h with boxes := E.h.boxes.set i cs } }

theorem setRow_below {w : World} {B g : Nat} (us : Array Value) (hg : B ≤ g) : Below B w (w.setRow g us) :=
  ⟨rfl, rfl, rfl, by simp, fun k hk => setRow_other w g k us (by omega)⟩

theorem setBox_ext (h : SR E) {i : Nat} (hi : i < E.h.boxes.length) (us : Array Value) (cs : List AV) : Ext E (E.setBox i us cs) := by
  have hb := h.nb_lt hi
  refine ⟨fun b o ho => ?_, by simp [Env.setBox], fun _ _ => rfl, Nat.le_refl _, fun k f f' hf hf' => ?_, rfl, rfl, setRow_below us hb.1⟩
  · have hne : b ≠ E.nb i := by
      rcases ho with ⟨ho, _⟩ | ⟨_, _, h3, _⟩
      · omega
      · exact fun e => h3 i hi e.symm
    refine ⟨?_, cell_eq (setRow_other _ _ _ _ hne)⟩
    rcases ho with ho | ⟨h1, h2, h3, h4⟩
    · exact .inl ho
    · exact .inr ⟨h1, by simpa [Env.setBox] using h2, fun j hj => h3 j (by simpa [Env.setBox] using hj), h4⟩
  · have : f = f' := by have := hf.symm.trans hf'; simpa using this
    subst this
    exact ⟨rfl, Nat.le_refl _, fun _ => rfl⟩

theorem setBox_SR (h : SR E) {i : Nat} {old : List AV} (hi : E.h.boxes[i]? = some old) {us : Array Value} {cs : List AV} (hv : VRs E cs us.toList) (h1 : ∀ v ∈ us.toList, v.oneCell' = true) :
    SR (E.setBox i us cs) := by
  have hi' := (List.getElem?_eq_some_iff.1 hi).1
  have hx := setBox_ext h hi' us cs
  have hlen : (E.setBox i us cs).h.boxes.length = E.h.boxes.length := by simp [Env.setBox]
  obtain ⟨hb1, cur, t, hb2, _⟩ := h.boxes i old hi
  refine ⟨by simpa [Env.setBox] using h.basele, fun j cs' hj => ?_, fun k f hk => ?_, fun a b ha hb => h.inj a b (by simpa [hlen] using ha) (by simpa [hlen] using hb), h.injf, fun a k ha => h.sep a k (by simpa [hlen] using ha)⟩
  · by_cases hn : i = j
    · subst hn
      have : cs' = cs := by simpa [Env.setBox, hi'] using hj.symm
      subst this
      exact ⟨hb1, us, t, setRow_heap _ _ _ _ _ _ hb2, VRs_ext hx _ _ hv, h1⟩
    · have hj' : j < E.h.boxes.length := by have := (List.getElem?_eq_some_iff.1 hj).1; omega
      have hcs : E.h.boxes[j]? = some cs' := by simpa [Env.setBox, List.getElem?_set_ne hn] using hj
      exact (h.boxes j cs' hcs).ext hx hj' (setRow_other _ _ _ _ (fun e => hn (h.inj _ _ hi' hj' e.symm)))
  · have hk' : k < E.h.fams.length := (List.getElem?_eq_some_iff.1 hk).1
    exact (h.fams k f hk).ext hx rfl (setRow_other _ _ _ _ (fun e => h.sep i k hi' hk' e.symm))

end
end Go.Abs
