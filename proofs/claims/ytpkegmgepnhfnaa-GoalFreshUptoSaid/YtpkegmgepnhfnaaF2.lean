/- GoalFresh returns true, for every input of bulk at most 1048576; its arguments read afterwards as they read before. Conditions: none beyond the statement's own. -/
import Derived.Test.YtpkegmgepnhfnaaE0
import Derived.Test.YtpkegmgepnhfnaaF1
import Derived.Test.YtpkegmgepnhfnaaD11
import Derived.Test.YtpkegmgepnhfnaaRows
import Derived.WalkKit
import Derived.ProofKit
import Derived.OpenShut
import Derived.JoinedCond
namespace Go.Proofs.Ytpkegmgepnhfnaa.goalFresh
open Go.ChangeShapes Go.WideShapes Go.ChangeAt Go.RowKit Go.Abs Go.Abs.Q
set_option linter.unusedVariables false

theorem own : ownKnob Try.prog.godebug = none := by kernel_rfl
theorem laidOut : laidOutB Try.prog = true := by kernel_rfl

theorem contract (H : Type) (enc : TypeId × Value → H) (W : World) (base : Nat) (args : Array Value) (ds gs : List (DataW H)) (before : List MemPlace)
    (hval : ∀ (j : Nat) t v, Try.f7.params[j]? = some t → args[j]? = some v → Value.okWide Try.prog W .any base t v)
    (hW : DataW.Whole enc Try.prog Try.f7.params.toList Rows.goalFreshSpec.vars false W args.toList ds gs before) (hk : Rows.uptoSmall H (ds ++ gs) = true) :
    Calls Try.prog 7 args W fun e W' => ∃ v, e = .returned v ∧ Rows.goalFreshSpec.post enc Try.prog Try.f7 false true false false W args v W' := by
  have hW' := hW
  obtain ⟨p, q, hA0, hV, rfl, hfz, hnd⟩ := hW
  have hA : DataW.TrodAll enc Try.prog W 0 (fun _ => true) true Try.f7.params.toList args.toList ds p := hA0
  rw [Try.params7] at hA hval
  obtain ⟨v0, vs0, d0, ds0, p0, q0, hargs, rfl, rfl, h0, r0⟩ := trodAll_cons hA
  obtain ⟨v1, vs1, d1, ds1, p1, q1, rfl, rfl, rfl, h1, r1⟩ := trodAll_cons r0
  obtain ⟨rfl, rfl, rfl⟩ := trodAll_nil r1
  obtain rfl : args = #[v0, v1] := by cases args; simp_all
  obtain ⟨rfl, rfl⟩ := trodVars_none hV
  have hb : Rows.uptoBulkAll [d0, d1] ≤ 1048576 := by simpa [Rows.uptoSmall] using hk
  obtain ⟨a0, ln, cp, rfl⟩ := okWide_slice Try.underlying22 (hval 0 22 v0 rfl rfl)
  obtain ⟨a1, ln1, cp1, rfl⟩ := okWide_slice Try.underlying28 (hval 1 28 v1 rfl rfl)
  obtain ⟨f0, h0⟩ := h0
  obtain ⟨f1, h1⟩ := h1
  obtain ⟨⟨bl, l⟩, -, b0, cv0⟩ := opens_mos (w := W) f0 enc _ _ h0
  cases f1 with
  | zero => simp [DataW.trod] at h1
  | succ f1 =>
  obtain ⟨⟨bc, cs⟩, -, b1, cv1⟩ := opens_slice (w := W) (enc := AV.int .i64) Try.underlying28 c3 (by omega) (opens_int (w := W) Try.underlying3 f1) enc _ _ h1
  dsimp only at b0 b1
  simp only [Rows.uptoBulkAll] at hb
  have ht := totM_le l
  have hcs := sum_ge (f := fun _ : Int => 1) (fun _ => by omega) cs
  have hlen := sum_ge (f := moW) (fun x => by simp [moW]) l
  refine true_post QS laidOut Try.underlying4 rfl (fun t ht => ?_) rfl ⟨rfl, rfl, rfl⟩ hW' (CV_cons cv0 cv1).1 (pc_GoalFresh (false, bl) (false, bc) l (by omega) cs (by omega))
  rw [Try.params7] at ht
  rcases List.mem_cons.1 ht with rfl | ht
  · exact ⟨by kernel_rfl, of_decide_eq_true (by kernel_rfl)⟩
  · rcases List.mem_cons.1 ht with rfl | ht
    · exact ⟨by kernel_rfl, of_decide_eq_true (by kernel_rfl)⟩
    · cases ht

set_option maxRecDepth 100000 in
theorem lifted (os : Os) (started : os.Started) (H : Type) (enc : TypeId × Value → H) (F : Stop.Interp) :
    ReturnsInHanded {} Try.checked os 7 .any ((Rows.OpenSpec.upto Rows.goalFreshSpec).pre6 enc Try.prog Try.f7 Rows.goalFreshUptoRow.domain false) (((Rows.OpenSpec.upto Rows.goalFreshSpec).at F).post enc Try.prog Try.f7 false true false false) := by
  refine returnsInHanded_of_cond (C := Try.checked) (s := Rows.OpenSpec.upto Rows.goalFreshSpec) (k := Rows.uptoSmall) rfl own started (by kernel_rfl) Try.func7
    (OpenSpec.witness (enc := enc) (C := Try.checked) (s := Rows.OpenSpec.upto Rows.goalFreshSpec) (k := Rows.uptoSmall) rfl false ⟨#[], #[.slice none 0 0, .slice none 0 0], []⟩ 8 (by kernel_rfl) (by kernel_rfl) (by kernel_rfl)
      (x := ([.nil, .nil], [], [])) (by kernel_rfl) rfl (by kernel_rfl)) ?_
  intro W base args ds gs before hval hW _ hk _
  exact contract H enc W base args ds gs before hval hW hk

theorem over : Rows.goalFreshUptoRow.holds Try.pinned (Rows.OpenSpec.upto Rows.goalFreshSpec) :=
  OpenClaim.holds_of_cond 7 Try.f7 rfl rfl rfl rfl rfl rfl rfl ⟨rfl, rfl, rfl, rfl, rfl⟩ rfl rfl rfl rfl rfl (by kernel_rfl) Try.func7 (by kernel_rfl)
    (of_decide_eq_true (by kernel_rfl)) (by unfold Func.isWrapper; first | (rw [if_pos (by decide +kernel)]; kernel_rfl) | (rw [if_neg (by decide +kernel)]; exact ⟨rfl, rfl⟩))
    (fun os started H enc _ F => lifted os started H enc F)

theorem proved : Rows.GoalFreshUptoSaid :=
  over
#print axioms proved
end Go.Proofs.Ytpkegmgepnhfnaa.goalFresh
