/- A part of the proof. -/
import Derived.Test.YthcbgdmeacaglaaGreatDoorTE19
set_option linter.all false
namespace Go.Proofs.YthcbgdmeacaglaaGreatDoor
set_option maxHeartbeats 100000000 in
theorem noGo : (Tryz.pinned.checked.prog.funcs.toList.all fun fn => !fn.goes) = true := by kernel_rfl
theorem goes_no (c : OpenClaim) (h : c.start = .entering) : false = c.goesBy Tryz.pinned.checked.prog := by
  have key : ∀ g : FuncId, (Tryz.pinned.checked.prog.funcs[g]?).any Func.goes = false := by
    intro g
    cases h : Tryz.pinned.checked.prog.funcs[g]? with
    | none => rfl
    | some fn =>
      have := List.all_eq_true.1 noGo fn (Array.mem_toList_iff.2 (Array.mem_of_getElem? h))
      simpa using this
  have any : Tryz.pinned.checked.prog.funcs.any Func.goes = false := by
    rw [← Array.any_toList, List.any_eq_false]
    intro fn hf
    have := List.all_eq_true.1 noGo fn hf
    simpa using this
  have hp : ∀ f, Tryz.pinned.checked.prog.goes f = false := by
    intro f
    unfold Program.goes
    rw [any, Bool.and_false, Bool.or_false]
    simp only [key]
    simp
  unfold OpenClaim.goesBy Program.goesAt Program.goesFrom
  rw [h]
  cases Tryz.pinned.checked.prog.funcNamed c.func with
  | none => rfl
  | some f => simp [hp]
end Go.Proofs.YthcbgdmeacaglaaGreatDoor
namespace Go.Proofs.YthcbgdmeacaglaaGreatDoor.translateEnvironment
open Go.ChangeShapes Go.WideShapes Go.ChangeAt Go.RowKit Go.Abs Go.Abs.Q
theorem plain (f : FuncId) (fn : Func) (hf : Tryz.pinned.checked.prog.funcNamed "sealring/sealringlaw47.TranslateEnvironment" = some f) (hfn : Tryz.pinned.checked.prog.funcs[f]? = some fn) :
    false = Tryz.pinned.checked.prog.looks [] ∧ ∀ (j : Nat) t, fn.params[j]? = some t → Tryz.pinned.checked.prog.wantsStandIn t = false := by
  obtain rfl : f = 3 := Option.some.inj ((show Tryz.prog.funcNamed "sealring/sealringlaw47.TranslateEnvironment" = some 3 by kernel_rfl).symm.trans hf) |>.symm
  obtain rfl : fn = Tryz.f3 := (Option.some.inj (Tryz.func3.symm.trans hfn)).symm
  refine ⟨by kernel_rfl, fun j t ht => ?_⟩
  rw [Tryz.params3] at ht
  have ht' := Array.mem_of_getElem? ht
  simp only [List.mem_toArray, List.mem_cons, List.mem_nil_iff, or_false] at ht'
  subst ht'
  exact (show Tryz.prog.wantsStandIn 24 = false by kernel_rfl)
theorem card (over : Rows.TranslateEnvironmentUptoSaid) : Rows.TranslateEnvironmentUptoCardSaid :=
  Claim7.holds_tied_plain_at .later [] _ _ _ _ over (fun _ h => by cases h) (by as_aux_lemma => kernel_rfl) (fun _ h => by cases h) translateEnvironmentUpto_row_tie rfl ⟨rfl, rfl⟩ (by as_aux_lemma => kernel_rfl) rfl plain (goes_no _ rfl)
end Go.Proofs.YthcbgdmeacaglaaGreatDoor.translateEnvironment
