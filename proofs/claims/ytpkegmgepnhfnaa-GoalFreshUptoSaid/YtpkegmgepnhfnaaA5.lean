/- Rows of the abstract heap: a new row, a row that is written or grows in its place, a row that moves. -/
import Derived.Test.YtpkegmgepnhfnaaA4
namespace Go.Abs
open Go.RowKit (Below)
section
variable {E : Env}

/-! ### A new row -/

def Env.newFam (E : Env) (us : Array Value) (t : TypeId) (cap : Nat) (f : Fam) : Env :=
  { E with w := E.w.alloc (.cells us t), im := upd E.im E.h.fams.length ⟨E.w.heap.size, 0, cap, 0⟩, h := { E.h with fams := E.h.fams ++ [f] } }

theorem newFam_ext (h : SR E) (us : Array Value) (t : TypeId) (cap : Nat) (f : Fam) : Ext E (E.newFam us t cap f) := by
  refine ⟨fun b o ho => ?_, Nat.le_refl _, fun _ _ => rfl, by simp [Env.newFam], fun k g g' hg hg' => ?_, rfl, rfl, (Below.refl _ _).alloc h.basele _⟩
  · have hlt := ok_lt h ho
    refine ⟨?_, cell_eq (Below.heap_alloc _ _ _ hlt)⟩
    rcases ho with ho | ⟨h1, _, h3, h4⟩
    · exact .inl ho
    · refine .inr ⟨h1, by simp [Env.newFam]; omega, h3, fun k g hk he => ?_⟩
      by_cases hn : k = E.h.fams.length
      · subst hn; simp only [Env.newFam, upd_same] at he; omega
      · have hk' : k < E.h.fams.length := by
          have := (List.getElem?_eq_some_iff.1 hk).1
          simp [Env.newFam] at this; omega
        simp only [Env.newFam, List.getElem?_append_left hk'] at hk
        simp only [Env.newFam, upd_other _ _ hn] at he ⊢
        exact h4 k g hk he
  · have hk' : k < E.h.fams.length := (List.getElem?_eq_some_iff.1 hg).1
    simp only [Env.newFam, List.getElem?_append_left hk'] at hg'
    have : g = g' := by have := hg.symm.trans hg'; simpa using this
    subst this
    exact ⟨rfl, Nat.le_refl _, fun _ => upd_other _ _ (by omega)⟩

theorem newFam_SR (h : SR E) {us : Array Value} {t : TypeId} {cap : Nat} {f : Fam} (hsz : 0 < f.sz) (hroom : f.xs.length ≤ cap) (hcap : cap ≤ maxLen) (hfit : cap * f.sz ≤ us.size)
    (hel : ∀ (i : Nat) (x : AV), f.xs[i]? = some x → FElem E us (i * f.sz) f.sz x) : SR (E.newFam us t cap f) := by
  have hx := newFam_ext h us t cap f
  have hlen : (E.newFam us t cap f).h.fams.length = E.h.fams.length + 1 := by simp [Env.newFam]
  have him : ∀ k, k < E.h.fams.length → (E.newFam us t cap f).im k = E.im k := fun k hk => upd_other _ _ (by omega)
  have hnew : (E.newFam us t cap f).im E.h.fams.length = ⟨E.w.heap.size, 0, cap, 0⟩ := upd_same _ _ _
  refine ⟨Nat.le_trans h.basele (by simp [Env.newFam]), fun i cs hi => ?_, fun k g hk => ?_, h.inj, fun k j hk hj he => ?_, fun i k hi hk => ?_⟩
  · have hi' := (List.getElem?_eq_some_iff.1 hi).1
    exact (h.boxes i cs hi).ext hx hi' (Below.heap_alloc _ _ _ (h.nb_lt hi').2)
  · by_cases hn : k = E.h.fams.length
    · subst hn
      have : g = f := by simpa [Env.newFam] using hk.symm
      subst this
      refine ⟨by rw [hnew]; exact h.basele, hsz, by rw [hnew]; simp, by rw [hnew]; simpa using hroom, by rw [hnew]; exact hcap, us, t, by rw [hnew]; exact heap_alloc_new _ _, by rw [hnew]; simpa using hfit, ?_⟩
      rw [hnew]
      intro i x _ hi
      have := (hel i x hi).ext hx
      simpa using this
    · have hk' : k < E.h.fams.length := by have := (List.getElem?_eq_some_iff.1 hk).1; omega
      simp only [Env.newFam, List.getElem?_append_left hk'] at hk
      exact (h.fams k g hk).ext hx (him k hk') (Below.heap_alloc _ _ _ (h.im_lt hk').2)
  · rw [hlen] at hk hj
    by_cases hk' : k < E.h.fams.length <;> by_cases hj' : j < E.h.fams.length
    · rw [him k hk', him j hj'] at he; exact h.injf k j hk' hj' he
    · obtain rfl : j = E.h.fams.length := by omega
      rw [him k hk', hnew] at he; have := (h.im_lt hk').2; simp at he; omega
    · obtain rfl : k = E.h.fams.length := by omega
      rw [him j hj', hnew] at he; have := (h.im_lt hj').2; simp at he; omega
    · omega
  · rw [hlen] at hk
    by_cases hk' : k < E.h.fams.length
    · rw [him k hk']; exact h.sep i k hi hk'
    · obtain rfl : k = E.h.fams.length := by omega
      rw [hnew]
      have := (h.nb_lt hi).2
      simp only [Env.newFam]
      omega

/-! ### A row that is written, or grows, in its place -/

def Env.setFam (E : Env) (k : Nat) (us : Array Value) (f : Fam) : Env :=
  { E with w := E.w.setRow (E.im k).b us, h := { E.h with fams := E.h.fams.set k f } }

theorem setFam_ext (h : SR E) {k : Nat} {f f' : Fam} (hk : E.h.fams[k]? = some f) {us cur : Array Value} {t : TypeId} (hc : E.w.heap[(E.im k).b]? = some (.cells cur t (0, 0)))
    (hsz : f'.sz = f.sz) (hwr : f'.wr = f.wr) (hlen : f.xs.length ≤ f'.xs.length)
    (hkeep : f.wr = false → ∀ j, j < (E.im k).o + (f.xs.length - (E.im k).lo) * f.sz → us[j]? = cur[j]?) : Ext E (E.setFam k us f') := by
  have hk' := (List.getElem?_eq_some_iff.1 hk).1
  have hb := h.im_lt hk'
  refine ⟨fun b o ho => ?_, Nat.le_refl _, fun _ _ => rfl, by simp [Env.setFam], fun j g g' hg hg' => ?_, rfl, rfl, setRow_below us hb.1⟩
  · rcases ho with ⟨ho1, ho2⟩ | ⟨h1, h2, h3, h4⟩
    · exact ⟨.inl ⟨ho1, ho2⟩, cell_eq (setRow_other _ _ _ _ (by omega))⟩
    · refine ⟨.inr ⟨h1, by simpa [Env.setFam] using h2, h3, fun j g hj he => ?_⟩, ?_⟩
      · by_cases hn : k = j
        · subst hn
          have : g = f' := by simpa [Env.setFam, hk'] using hj.symm
          subst this
          obtain ⟨a1, a2⟩ := h4 k f hk he
          refine ⟨by rw [hwr]; exact a1, ?_⟩
          rw [hsz]
          refine Nat.lt_of_lt_of_le a2 (Nat.add_le_add_left (Nat.mul_le_mul_right _ (by show f.xs.length - (E.im k).lo ≤ g.xs.length - (E.im k).lo; omega)) _)
        · exact h4 j g (by simpa [Env.setFam, List.getElem?_set_ne hn] using hj) he
      · by_cases hbk : b = (E.im k).b
        · obtain ⟨a1, a2⟩ := h4 k f hk hbk.symm
          subst hbk
          have e1 : (E.w.setRow (E.im k).b us).cell? ⟨(E.im k).b, o, none⟩ = us[o]? := cell_of_row _ _ _ _ _ _ (setRow_heap _ _ _ _ _ _ hc)
          have e2 : E.w.cell? ⟨(E.im k).b, o, none⟩ = cur[o]? := cell_of_row _ _ _ _ _ _ hc
          show (E.w.setRow (E.im k).b us).cell? _ = _
          rw [e1, e2]
          exact hkeep a1 o a2
        · exact cell_eq (setRow_other _ _ _ _ hbk)
  · by_cases hn : k = j
    · subst hn
      have e1 : g' = f' := by simpa [Env.setFam, hk'] using hg'.symm
      have e2 : g = f := by have := hg.symm.trans hk; simpa using this
      subst e1; subst e2
      exact ⟨hsz, hlen, fun _ => rfl⟩
    · have : g = g' := by
        have hg'' : E.h.fams[j]? = some g' := by simpa [Env.setFam, List.getElem?_set_ne hn] using hg'
        have := hg.symm.trans hg''; simpa using this
      subst this
      exact ⟨rfl, Nat.le_refl _, fun _ => rfl⟩

theorem setFam_SR (h : SR E) {k : Nat} {f f' : Fam} (hk : E.h.fams[k]? = some f) {us cur : Array Value} {t : TypeId} (hc : E.w.heap[(E.im k).b]? = some (.cells cur t (0, 0)))
    (hsz : f'.sz = f.sz) (hwr : f'.wr = f.wr) (hlen : f.xs.length ≤ f'.xs.length)
    (hkeep : f.wr = false → ∀ j, j < (E.im k).o + (f.xs.length - (E.im k).lo) * f.sz → us[j]? = cur[j]?)
    (hroom : f'.xs.length ≤ (E.im k).lo + (E.im k).cap) (hsize : us.size = cur.size)
    (hel : ∀ (i : Nat) (x : AV), (E.im k).lo ≤ i → f'.xs[i]? = some x → FElem E us ((E.im k).o + (i - (E.im k).lo) * f.sz) f.sz x) : SR (E.setFam k us f') := by
  have hk' := (List.getElem?_eq_some_iff.1 hk).1
  have hx := setFam_ext h hk hc hsz hwr hlen hkeep
  have hl : (E.setFam k us f').h.fams.length = E.h.fams.length := by simp [Env.setFam]
  refine ⟨by simpa [Env.setFam] using h.basele, fun i cs hi => ?_, fun j g hj => ?_, h.inj, fun a b ha hb => h.injf a b (by simpa [hl] using ha) (by simpa [hl] using hb), fun i a hi ha => h.sep i a hi (by simpa [hl] using ha)⟩
  · have hi' := (List.getElem?_eq_some_iff.1 hi).1
    exact (h.boxes i cs hi).ext hx hi' (setRow_other _ _ _ _ (h.sep i k hi' hk'))
  · by_cases hn : k = j
    · subst hn
      have : g = f' := by simpa [Env.setFam, hk'] using hj.symm
      subst this
      have hf := h.fams k f hk
      obtain ⟨cur', t', c1, c2, _⟩ := hf.cells
      have : cur' = cur := by have := c1.symm.trans hc; simp at this; exact this.1
      subst this
      refine ⟨hf.base, by rw [hsz]; exact hf.sz, Nat.le_trans hf.lo hlen, hroom, hf.cap, us, t, setRow_heap _ _ _ _ _ _ hc, ?_, ?_⟩
      · show (E.im k).o + (E.im k).cap * g.sz ≤ us.size
        rw [hsz, hsize]; exact c2
      · intro i x hi hxi
        have := (hel i x hi hxi).ext hx
        rw [hsz]
        exact this
    · have hj' : j < E.h.fams.length := by have := (List.getElem?_eq_some_iff.1 hj).1; omega
      have hg : E.h.fams[j]? = some g := by simpa [Env.setFam, List.getElem?_set_ne hn] using hj
      exact (h.fams j g hg).ext hx rfl (setRow_other _ _ _ _ (fun e => hn (h.injf _ _ hk' hj' e.symm)))

/-! ### A row that moves to a new block as it grows -/

def Env.moveFam (E : Env) (k : Nat) (us : Array Value) (t : TypeId) (lo cap : Nat) (f : Fam) : Env :=
  { E with w := E.w.alloc (.cells us t), im := upd E.im k ⟨E.w.heap.size, 0, cap, lo⟩, h := { E.h with fams := E.h.fams.set k f } }

theorem moveFam_ext (h : SR E) {k : Nat} {f f' : Fam} (hk : E.h.fams[k]? = some f) (us : Array Value) (t : TypeId) (lo cap : Nat)
    (hsz : f'.sz = f.sz) (hlen : f.xs.length < f'.xs.length) : Ext E (E.moveFam k us t lo cap f') := by
  have hk' := (List.getElem?_eq_some_iff.1 hk).1
  refine ⟨fun b o ho => ?_, Nat.le_refl _, fun _ _ => rfl, by simp [Env.moveFam], fun j g g' hg hg' => ?_, rfl, rfl, (Below.refl _ _).alloc h.basele _⟩
  · have hlt := ok_lt h ho
    refine ⟨?_, cell_eq (Below.heap_alloc _ _ _ hlt)⟩
    rcases ho with ho | ⟨h1, _, h3, h4⟩
    · exact .inl ho
    · refine .inr ⟨h1, by simp [Env.moveFam]; omega, h3, fun j g hj he => ?_⟩
      by_cases hn : j = k
      · subst hn; simp only [Env.moveFam, upd_same] at he; omega
      · simp only [Env.moveFam, upd_other _ _ hn] at he ⊢
        exact h4 j g (by simpa [Env.moveFam, List.getElem?_set_ne (Ne.symm hn)] using hj) he
  · by_cases hn : k = j
    · subst hn
      have e1 : g' = f' := by simpa [Env.moveFam, hk'] using hg'.symm
      have e2 : g = f := by have := hg.symm.trans hk; simpa using this
      subst e1; subst e2
      exact ⟨hsz, Nat.le_of_lt hlen, fun e => by omega⟩
    · have hg'' : E.h.fams[j]? = some g' := by simpa [Env.moveFam, List.getElem?_set_ne hn] using hg'
      have : g = g' := by have := hg.symm.trans hg''; simpa using this
      subst this
      exact ⟨rfl, Nat.le_refl _, fun _ => upd_other _ _ (Ne.symm hn)⟩

theorem moveFam_SR (h : SR E) {k : Nat} {f f' : Fam} (hk : E.h.fams[k]? = some f) {us : Array Value} {t : TypeId} {lo cap : Nat}
    (hsz : f'.sz = f.sz) (hlen : f.xs.length < f'.xs.length) (hlo : lo ≤ f'.xs.length) (hroom : f'.xs.length ≤ lo + cap) (hcap : cap ≤ maxLen) (hfit : cap * f.sz ≤ us.size)
    (hel : ∀ (i : Nat) (x : AV), lo ≤ i → f'.xs[i]? = some x → FElem E us ((i - lo) * f.sz) f.sz x) : SR (E.moveFam k us t lo cap f') := by
  have hk' := (List.getElem?_eq_some_iff.1 hk).1
  have hx := moveFam_ext h hk us t lo cap hsz hlen
  have hl : (E.moveFam k us t lo cap f').h.fams.length = E.h.fams.length := by simp [Env.moveFam]
  have him : ∀ j, j ≠ k → (E.moveFam k us t lo cap f').im j = E.im j := fun j hj => upd_other _ _ hj
  have hnew : (E.moveFam k us t lo cap f').im k = ⟨E.w.heap.size, 0, cap, lo⟩ := upd_same _ _ _
  refine ⟨Nat.le_trans h.basele (by simp [Env.moveFam]), fun i cs hi => ?_, fun j g hj => ?_, h.inj, fun a b ha hb he => ?_, fun i a hi ha => ?_⟩
  · have hi' := (List.getElem?_eq_some_iff.1 hi).1
    exact (h.boxes i cs hi).ext hx hi' (Below.heap_alloc _ _ _ (h.nb_lt hi').2)
  · by_cases hn : k = j
    · subst hn
      have : g = f' := by simpa [Env.moveFam, hk'] using hj.symm
      subst this
      have hf := h.fams k f hk
      refine ⟨by rw [hnew]; exact h.basele, by rw [hsz]; exact hf.sz, by rw [hnew]; exact hlo, by rw [hnew]; exact hroom, by rw [hnew]; exact hcap, us, t, by rw [hnew]; exact heap_alloc_new _ _, by rw [hnew, hsz]; simpa using hfit, ?_⟩
      rw [hnew]
      intro i x hi hxi
      have := (hel i x hi hxi).ext hx
      rw [hsz]
      simpa using this
    · have hj' : j < E.h.fams.length := by have := (List.getElem?_eq_some_iff.1 hj).1; omega
      have hg : E.h.fams[j]? = some g := by simpa [Env.moveFam, List.getElem?_set_ne hn] using hj
      exact (h.fams j g hg).ext hx (him j (Ne.symm hn)) (Below.heap_alloc _ _ _ (h.im_lt hj').2)
  · rw [hl] at ha hb
    by_cases e1 : a = k <;> by_cases e2 : b = k
    · omega
    · subst e1
      rw [hnew, him b e2] at he; have := (h.im_lt hb).2; simp at he; omega
    · subst e2
      rw [hnew, him a e1] at he; have := (h.im_lt ha).2; simp at he; omega
    · rw [him a e1, him b e2] at he; exact h.injf a b ha hb he
  · rw [hl] at ha
    by_cases e1 : a = k
    · subst e1
      rw [hnew]
      have := (h.nb_lt hi).2
      simp only [Env.moveFam]
      omega
    · rw [him a e1]; exact h.sep i a hi ha

end
end Go.Abs
