/- Operations that leave the model's world alone: what they yield stands to what the abstract operation yields. -/
import Derived.Test.YtpkegmgepnhfnaaA6
namespace Go.Abs
open Go.RowKit (Below)
section
variable {E : Env} {P : Program} {fr : Fr} {a : Act}

/-- The operation yields u and leaves the world alone. -/
def Quiet (P : Program) (a : Act) (o : Oper) (E : Env) (v : AV) : Prop := ∃ u, (execOp a.eval o).run P E.w = .ok (.value u) E.w ∧ VR E v u

theorem VR_int (k : IntKind) (n : Int) : VR E (.int k n) (.int k n) := by simp [VR]
theorem VR_bool (b : Bool) : VR E (.bool b) (.bool b) := by simp [VR]
theorem VR_str (b : ByteArray) : VR E (.str b) (.string b) := by simp [VR]

theorem eqGuard_int (op : BinOp) (t : TypeId) (x y : Operand) (k k' : IntKind) (i j : Int) (w : World) : (eqGuard op t x y (.int k i) (.int k' j)).run P w = .ok () w := by
  unfold eqGuard; cases op <;> simp
theorem eqGuard_str (op : BinOp) (t : TypeId) (x y : Operand) (i j : ByteArray) (w : World) : (eqGuard op t x y (.string i) (.string j)).run P w = .ok () w := by
  unfold eqGuard; cases op <;> simp
theorem eqGuard_bool (op : BinOp) (t : TypeId) (x y : Operand) (i j : Bool) (w : World) : (eqGuard op t x y (.bool i) (.bool j)).run P w = .ok () w := by
  unfold eqGuard; cases op <;> simp

theorem bin_int_sound {op : BinOp} {t : TypeId} {k k' : IntKind} {i j : Int} {v : AV} (w : World) (h : evalBin op (.int k i) (.int k' j) = some v) :
    ∃ u, (binOp op t (.int k i) (.int k' j)).run P w = .ok u w ∧ VR E v u := by
  cases op <;> simp only [evalBin] at h <;> try (cases h; done)
  case quo =>
    split at h
    · rename_i hk; cases h; obtain ⟨rfl, hj⟩ := hk; refine ⟨_, ?_, VR_int _ _⟩; simp [binOp, Op.intDiv, hj]
    · cases h
  case rem =>
    split at h
    · rename_i hk; cases h; obtain ⟨rfl, hj⟩ := hk; refine ⟨_, ?_, VR_int _ _⟩; simp [binOp, Op.intDiv, hj]
    · cases h
  case shl =>
    split at h
    · rename_i hk; cases h; refine ⟨_, ?_, VR_int _ _⟩; simp [binOp, Op.shift, show ¬ j < 0 from by omega]
    · cases h
  case shr =>
    split at h
    · rename_i hk; cases h; refine ⟨_, ?_, VR_int _ _⟩; simp [binOp, Op.shift, show ¬ j < 0 from by omega]
    · cases h
  all_goals
    split at h
    · rename_i hk; cases h; subst hk; first | (refine ⟨_, ?_, VR_int _ _⟩; simp [binOp, Op.intArith, Op.intBits]; done) | (refine ⟨_, ?_, VR_bool _⟩; simp [binOp, Op.intCmp]; done)
    · cases h

theorem bin_str_sound {op : BinOp} {t : TypeId} {i j : ByteArray} {v : AV} (w : World) (h : evalBin op (.str i) (.str j) = some v) :
    ∃ u, (binOp op t (.string i) (.string j)).run P w = .ok u w ∧ VR E v u := by
  cases op <;> simp only [evalBin] at h <;> try (cases h; done)
  case add =>
    split at h
    · cases h
    · rename_i hk; cases h; refine ⟨_, ?_, VR_str _⟩; simp only [binOp, Op.stringOp, hk, if_false, Sem.run_pure]
  all_goals (cases h; refine ⟨_, ?_, VR_bool _⟩; simp [binOp, Op.stringOp])

theorem bin_sound {op : BinOp} {t : TypeId} {x y : AV} {v : AV} {xv yv : Value} (hx : VR E x xv) (hy : VR E y yv) (px py : Operand) (w : World) (h : evalBin op x y = some v) :
    ∃ u, (do eqGuard op t px py xv yv; binOp op t xv yv : Sem Value).run P w = .ok u w ∧ VR E v u := by
  cases x <;> cases y <;> try (simp [evalBin] at h; done)
  · simp only [VR] at hx hy; subst hx; subst hy
    obtain ⟨u, h1, h2⟩ := bin_int_sound (E := E) (P := P) (t := t) w h
    exact ⟨u, by simp [eqGuard_int, h1], h2⟩
  · simp only [VR] at hx hy; subst hx; subst hy
    obtain ⟨u, h1, h2⟩ := bin_str_sound (E := E) (P := P) (t := t) w h
    exact ⟨u, by simp [eqGuard_str, h1], h2⟩

theorem run_under {t : TypeId} {d : TypeDesc} (h : P.underlying t = some d) (w : World) : (underlying t).run P w = .ok d w := by unfold underlying; simp [h]
theorem run_size {t : TypeId} {n : Nat} (h : Program.size? P t = some n) (w : World) : (sizeOf t).run P w = .ok n w := by
  unfold Program.size? at h
  simp only [Option.map_eq_some_iff] at h
  obtain ⟨i, hi, rfl⟩ := h
  unfold sizeOf typeInfo
  simp [hi]

theorem equalIn_bool {t : TypeId} (ht : P.underlying t = some .bool) (d : Nat) (i j : Bool) (w : World) : (Op.equalIn (d + 1) t (.bool i) (.bool j)).run P w = .ok (i == j) w := by
  simp [Op.equalIn, run_under ht]

theorem beq_sound {neg : Bool} {t : TypeId} {i j : Bool} (ht : P.underlying t = some .bool) (px py : Operand) (w : World) :
    (do eqGuard (if neg then .neq else .eql) t px py (.bool i) (.bool j); binOp (if neg then .neq else .eql) t (.bool i) (.bool j) : Sem Value).run P w = .ok (.bool (if neg then !(i == j) else i == j)) w := by
  have h : (Op.equal t (.bool i) (.bool j)).run P w = .ok (i == j) w := equalIn_bool ht 9999 i j w
  cases neg <;> simp only [if_true, if_false, Bool.false_eq_true, Sem.run_bind, eqGuard_bool, Result.andThen_ok, binOp, h, Sem.run_pure]

theorem equalIn_nil {t e : TypeId} {ad : Option Addr} {len cap : Nat} (ht : P.underlying t = some (.slice e)) (d : Nat) (w : World) : (Op.equalIn (d + 1) t (.slice ad len cap) (.slice none 0 0)).run P w = .ok ad.isNone w := by
  cases ad <;> simp [Op.equalIn, run_under ht]

theorem nileq_sound {neg : Bool} {t e : TypeId} {ad : Option Addr} {len cap : Nat} (ht : P.underlying t = some (.slice e)) (px py : Operand) (w : World) :
    (do eqGuard (if neg then .neq else .eql) t px py (.slice ad len cap) (.slice none 0 0); binOp (if neg then .neq else .eql) t (.slice ad len cap) (.slice none 0 0) : Sem Value).run P w = .ok (.bool (if neg then !ad.isNone else ad.isNone)) w := by
  have h : (Op.equal t (.slice ad len cap) (.slice none 0 0)).run P w = .ok ad.isNone w := equalIn_nil ht 9999 w
  have g : (eqGuard (if neg then .neq else .eql) t px py (.slice ad len cap) (.slice none 0 0)).run P w = .ok () w := by
    unfold eqGuard; cases neg <;> simp
  cases neg <;> simp only [if_true, if_false, Bool.false_eq_true, Sem.run_bind, Result.andThen_ok, binOp, h, Sem.run_pure] at g ⊢ <;> simp only [g, Result.andThen_ok, h, Sem.run_bind, Sem.run_pure]

theorem bound_sound (hf : FR E fr a.tmps) {x : Option Operand} {y : Option Opd} (hr : resOpt x = some y) {r : Option Int} (h : boundA fr y = some r) :
    (r = none ∧ x.map a.eval = none) ∨ ∃ k i, r = some i ∧ x.map a.eval = some (.int k i) := by
  cases x with
  | none => simp [resOpt] at hr; subst hr; simp [boundA] at h; subst h; exact .inl ⟨rfl, rfl⟩
  | some x =>
    simp only [resOpt, Option.map_eq_some_iff] at hr
    obtain ⟨z, hz, rfl⟩ := hr
    have hv := opd_sound hf hz
    simp only [boundA] at h
    split at h
    · rename_i k i hg
      cases h
      rw [hg] at hv
      simp only [VR] at hv
      exact .inr ⟨k, i, rfl, by simp [hv]⟩
    · cases h

theorem run_sliceBound {k : IntKind} {i : Int} {y : Nat} {code : Go.BoundsCode} (w : World) (h0 : 0 ≤ i) (h1 : i ≤ y) : (Instr.sliceBound (.int k i) y code).run P w = .ok i.toNat w := by
  unfold Instr.sliceBound; simp [asIntOf, h0, h1]

theorem sliceBounds_none {b : Bool} {len cap : Nat} {lo hi : Option Value} {l h : Option Int} (w : World) (hl : (l = none ∧ lo = none) ∨ ∃ k i, l = some i ∧ lo = some (.int k i)) (hh : (h = none ∧ hi = none) ∨ ∃ k i, h = some i ∧ hi = some (.int k i))
    (h0 : 0 ≤ l.getD 0) (h1 : l.getD 0 ≤ h.getD len) (h2 : h.getD len ≤ len) (hc : len ≤ cap) :
    (Instr.sliceBounds b len cap lo hi none).run P w = .ok ((l.getD 0).toNat, (h.getD len).toNat, cap) w := by
  unfold Instr.sliceBounds
  rcases hl with ⟨rfl, rfl⟩ | ⟨k, i, rfl, rfl⟩ <;> rcases hh with ⟨rfl, rfl⟩ | ⟨k', j, rfl, rfl⟩ <;> simp only [Option.getD_none, Option.getD_some] at h0 h1 h2 ⊢
  · simp
  · cases b <;> simp [run_sliceBound w (show (0 : Int) ≤ j by omega) (show j ≤ (cap : Int) by omega)]
  · simp [run_sliceBound w h0 (show i ≤ (len : Int) by omega)]
  · have e : i ≤ ((j.toNat : Nat) : Int) := by omega
    cases b <;> simp [run_sliceBound w (show (0 : Int) ≤ j by omega) (show j ≤ (cap : Int) by omega), run_sliceBound w h0 e]

theorem sliceBounds_some {b : Bool} {len cap : Nat} {lo hi mx : Option Value} {l h : Option Int} {m : Int} (w : World) (hl : (l = none ∧ lo = none) ∨ ∃ k i, l = some i ∧ lo = some (.int k i)) (hh : (h = none ∧ hi = none) ∨ ∃ k i, h = some i ∧ hi = some (.int k i))
    (hm : ∃ k, mx = some (.int k m)) (hs : h.isSome = true)
    (h0 : 0 ≤ l.getD 0) (h1 : l.getD 0 ≤ h.getD len) (h2 : h.getD len ≤ m) (hc : m ≤ cap) :
    (Instr.sliceBounds b len cap lo hi mx).run P w = .ok ((l.getD 0).toNat, (h.getD len).toNat, m.toNat) w := by
  unfold Instr.sliceBounds
  obtain ⟨km, rfl⟩ := hm
  rcases hh with ⟨rfl, rfl⟩ | ⟨k', j, rfl, rfl⟩
  · simp at hs
  simp only [Option.getD_some] at h1 h2 ⊢
  have em : j ≤ ((m.toNat : Nat) : Int) := by omega
  rcases hl with ⟨rfl, rfl⟩ | ⟨k, i, rfl, rfl⟩ <;> simp only [Option.getD_none, Option.getD_some] at h0 h1 ⊢
  · cases b <;> simp [run_sliceBound w (show (0 : Int) ≤ m by omega) hc, run_sliceBound w (show (0 : Int) ≤ j by omega) em]
  · have e : i ≤ ((j.toNat : Nat) : Int) := by omega
    cases b <;> simp [run_sliceBound w (show (0 : Int) ≤ m by omega) hc, run_sliceBound w (show (0 : Int) ≤ j by omega) em, run_sliceBound w h0 e]

end
end Go.Abs
