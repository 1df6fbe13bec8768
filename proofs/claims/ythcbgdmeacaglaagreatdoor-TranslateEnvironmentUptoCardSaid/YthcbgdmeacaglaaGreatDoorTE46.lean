/- A part of the proof. -/
import Derived.Test.YthcbgdmeacaglaaGreatDoorTE45
import Derived.Deep.DeepWitnessRowRef
set_option linter.all false
namespace Go.Proofs.YthcbgdmeacaglaaGreatDoor.translateEnvironment
open Go.ChangeShapes Go.WideShapes Go.ChangeAt Go.RowKit Go.Abs Go.Abs.Q
set_option linter.unusedVariables false
set_option maxRecDepth 100000 in
theorem contract (H : Type) (enc : TypeId × Value → H) (W : World) (base : Nat) (args : Array Value) (ds gs : List (DataW H)) (before : List MemPlace)
    (hval : ∀ (j : Nat) t v, Tryz.f3.params[j]? = some t → args[j]? = some v → Value.okWide Tryz.prog W .any base t v)
    (hW : DataW.Whole enc Tryz.prog Tryz.f3.params.toList Rows.translateEnvironmentSpec.vars false W args.toList ds gs before) (hk : Rows.uptoSmall H (ds ++ gs) = true) (hL : laidMetH Tryz.prog Rows.translateEnvironmentUptoRow.laid W) :
    Calls Tryz.prog 3 args W fun e W' => ∃ v, e = .returned v ∧ Rows.translateEnvironmentSpec.post enc Tryz.prog Tryz.f3 false true false false W args v W' := by
  have hW' := hW
  obtain ⟨p, q, hA0, hV, rfl, hfz, hnd⟩ := hW
  have hA : DataW.TrodAll enc Tryz.prog W 0 (fun _ => true) true Tryz.f3.params.toList args.toList ds p := hA0
  rw [Tryz.params3] at hA hval
  obtain ⟨v0, vs0, d0, ds0, p0, q0, hargs, rfl, rfl, h0, r0⟩ := trodAll_cons hA
  obtain ⟨rfl, rfl, rfl⟩ := trodAll_nil r0
  obtain rfl : args = #[v0] := by cases args; simp_all
  obtain ⟨rfl, rfl⟩ := trodVars_none hV
  have hb : Rows.uptoBulkAll [d0] ≤ 1048576 := by simpa [Rows.uptoSmall] using hk
  obtain ⟨us0, rfl, -⟩ := okWide_struct Tryz.underlying24 (hval 0 24 v0 rfl rfl)
  obtain ⟨f0, h0⟩ := h0
  obtain ⟨c, -, b0, cv0⟩ := opens_cast (w := W) f0 enc _ _ h0
  dsimp only at b0
  simp only [Rows.uptoBulkAll] at hb
  have l1 := strsW_len c.ag
  have l2 := strsW_len c.bad
  have l3 : ∀ a ∈ c.ag, a.size ≤ 1099511627776 := fun a ha => by have := strsW_mem ha; omega
  refine true_post QrS laidOut Tryz.underlying4 rfl (fun t ht => ?_) rfl ⟨rfl, rfl, rfl⟩ hW' (glob_of_laid hL (by kernel_rfl) (by unfold Rows.translateEnvironmentUptoRow; simp)) (by simp only [PVs]; exact ⟨_, _, rfl, CV_agg cv0, rfl⟩) (pc_TranslateEnvironment told_37 (false, c.ma) (false, c.mb) c.ag c.bad (by omega) (by omega) l3)
  rw [Tryz.params3] at ht
  rcases List.mem_cons.1 ht with rfl | ht
  · exact ⟨by kernel_rfl, of_decide_eq_true (by kernel_rfl)⟩
  cases ht
def wArgs : Array Value := #[.agg #[.slice none 0 0, .slice none 0 0]]
theorem laid_met (os : Os) : laidMet Tryz.prog Rows.translateEnvironmentUptoRow.laid ((laidWorld os).forCall (fun _ _ => 0) ⟨#[], wArgs, []⟩).memory :=
  laidMet_of_run' 8 (by kernel_rfl) (by kernel_rfl)
theorem reads (os : Os) {H : Type} (enc : TypeId × Value → H) : ∃ places, DataW.whole enc Tryz.prog ((laidWorld os).forCall (fun _ _ => 0) ⟨#[], wArgs, []⟩).memory Tryz.f3.params.toList Rows.translateEnvironmentSpec.vars false wArgs.toList 8 = some ([.agg [.nil, .nil]], [], places) :=
  ⟨[], by kernel_rfl⟩
set_option maxRecDepth 100000 in
theorem lifted (os : Os) (started : os.Started) (H : Type) (enc : TypeId × Value → H) (F : Stop.Interp) :
    ReturnsInHanded {} Tryz.checked os 3 .any ((Rows.OpenSpec.upto Rows.translateEnvironmentSpec).preRow enc Tryz.prog Tryz.f3 Rows.translateEnvironmentUptoRow.domain false Rows.translateEnvironmentUptoRow.laid) (((Rows.OpenSpec.upto Rows.translateEnvironmentSpec).at F).post enc Tryz.prog Tryz.f3 false true false false) := by
  obtain ⟨places, hx⟩ := reads os enc
  refine returnsInHanded_of_row (C := Tryz.checked) (s := Rows.OpenSpec.upto Rows.translateEnvironmentSpec) own started (by kernel_rfl) Tryz.func3
    (witness_row_atRef (enc := enc) (C := Tryz.checked) false (laidWorld os) wArgs rfl (by kernel_rfl) (by kernel_rfl) (by kernel_rfl)
      (OpenSpec.preRow_of_cond 8 hx (by kernel_rfl) (fun k hk => by cases hk; kernel_rfl) (by kernel_rfl) (laid_met os))) ?_
  intro W base args ds gs before hval hW _ hcond _ hL _ _
  exact contract H enc W base args ds gs before hval hW (hcond _ rfl) hL
end Go.Proofs.YthcbgdmeacaglaaGreatDoor.translateEnvironment
