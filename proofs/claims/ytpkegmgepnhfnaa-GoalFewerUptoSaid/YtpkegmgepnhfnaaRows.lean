/-
  NARROWER THAN 'FOR EVERY INPUT', by the rows' own cells (each row's printed sentence says how): GoalAgree: loops · GoalInject: loops · GoalAssigned: loops · GoalFewer: loops · GoalFresh: loops.
  DERIVED. THE GIVEN ROWS OF THIS SEAT. 6 by the template 'for every input the law returns true; each argument reads behind the call as it read before'; 0 by the template 'total and deterministic' (their statements: YtpkegmgepnhfnaaTotals.lean).
  GIVEN WITH THE SEED: the statements are not yours to turn. If you find one false, say at which input.
  Laid BY PROGRAM, IN A SANDBOX (cutbox-rows.mjs): the forced cells as the released guide's own fill.sh prints them over the translation 2d32bad6103421d7… (all of the seat's roots in one cut). By AI agents, Wed Nov 11 2026. No macro, syntax, notation, axiom, sorry.
-/
import Derived.Test.YtpkegmgepnhfnaaChecked
import GoSem.Claim
import GoSem.ClaimJoined
import GoSem.ClaimMapViews
import Derived.JoinedTies
import Derived.KernelRfl
namespace Go.Proofs.Ytpkegmgepnhfnaa
/- THE CELL 'sum', in the pinned program and in every row, IS THE sha256 OF THE DUMP (.gsa) THAT YtpkegmgepnhfnaaProg.lean LOADS. Nothing in Lean hashes anything: it is a label: what it is worth is what the hold of that sum in a sandbox is worth. -/
noncomputable def Try.pinned : Pinned := { name := "ytpkegmgepnhfnaa", sum := "2d32bad6103421d736411b7a1d500520f933fdb17e41ba2e0674a98904b16043", checked := Try.checked }
namespace Rows
def none {H : Type} : Left H := { results := [], args := [] }

/-- 'sealringlaw27.GoalAgree': WHATEVER THE INPUT: true; the input reads as it did. -/
def goalAgreeSpec : ChangeSpec := { name := "goalAgree", fn := fun _ => fun
  | [d1, d2] => { results := [.lit (.bool true)], args := [d1, d2] }
  | _ => none }
def goalAgreeRow : OpenClaim := { program := "ytpkegmgepnhfnaa", sum := "2d32bad6103421d736411b7a1d500520f933fdb17e41ba2e0674a98904b16043", func := "sealring/sealringlaw27.GoalAgree", spec := "goalAgree", inPlace := ["internal/bytealg.abigen_runtime_cmpstring"], unfollowed := true, recurses := true, loops := true, apart := false }
def GoalAgreeSaid : Prop := goalAgreeRow.holds Try.pinned (OpenSpec.ofChange goalAgreeSpec)

/-- ITS FALSE NEIGHBOUR: 'it returns false'. Refute it at one input. -/
def goalAgreeWrong : ChangeSpec := { name := "goalAgree", fn := fun _ => fun
  | [d1, d2] => { results := [.lit (.bool false)], args := [d1, d2] }
  | _ => none }
def GoalAgreeWrongFalsely : Prop := goalAgreeRow.holds Try.pinned (OpenSpec.ofChange goalAgreeWrong)

/-- 'sealringlaw27.GoalInject': WHATEVER THE INPUT: true; the input reads as it did. -/
def goalInjectSpec : ChangeSpec := { name := "goalInject", fn := fun _ => fun
  | [d1, d2] => { results := [.lit (.bool true)], args := [d1, d2] }
  | _ => none }
def goalInjectRow : OpenClaim := { program := "ytpkegmgepnhfnaa", sum := "2d32bad6103421d736411b7a1d500520f933fdb17e41ba2e0674a98904b16043", func := "sealring/sealringlaw27.GoalInject", spec := "goalInject", inPlace := ["internal/bytealg.abigen_runtime_cmpstring"], unfollowed := true, recurses := true, loops := true, apart := false }
def GoalInjectSaid : Prop := goalInjectRow.holds Try.pinned (OpenSpec.ofChange goalInjectSpec)

/-- ITS FALSE NEIGHBOUR: 'it returns false'. Refute it at one input. -/
def goalInjectWrong : ChangeSpec := { name := "goalInject", fn := fun _ => fun
  | [d1, d2] => { results := [.lit (.bool false)], args := [d1, d2] }
  | _ => none }
def GoalInjectWrongFalsely : Prop := goalInjectRow.holds Try.pinned (OpenSpec.ofChange goalInjectWrong)

/-- 'sealringlaw27.GoalAssigned': WHATEVER THE INPUT: true; the input reads as it did. -/
def goalAssignedSpec : ChangeSpec := { name := "goalAssigned", fn := fun _ => fun
  | [d1, d2] => { results := [.lit (.bool true)], args := [d1, d2] }
  | _ => none }
def goalAssignedRow : OpenClaim := { program := "ytpkegmgepnhfnaa", sum := "2d32bad6103421d736411b7a1d500520f933fdb17e41ba2e0674a98904b16043", func := "sealring/sealringlaw27.GoalAssigned", spec := "goalAssigned", inPlace := ["internal/bytealg.abigen_runtime_cmpstring"], unfollowed := true, recurses := true, loops := true, apart := false }
def GoalAssignedSaid : Prop := goalAssignedRow.holds Try.pinned (OpenSpec.ofChange goalAssignedSpec)

/-- ITS FALSE NEIGHBOUR: 'it returns false'. Refute it at one input. -/
def goalAssignedWrong : ChangeSpec := { name := "goalAssigned", fn := fun _ => fun
  | [d1, d2] => { results := [.lit (.bool false)], args := [d1, d2] }
  | _ => none }
def GoalAssignedWrongFalsely : Prop := goalAssignedRow.holds Try.pinned (OpenSpec.ofChange goalAssignedWrong)

/-- 'sealringlaw27.GoalFewer': WHATEVER THE INPUT: true; the input reads as it did. -/
def goalFewerSpec : ChangeSpec := { name := "goalFewer", fn := fun _ => fun
  | [d1, d2, d3] => { results := [.lit (.bool true)], args := [d1, d2, d3] }
  | _ => none }
def goalFewerRow : OpenClaim := { program := "ytpkegmgepnhfnaa", sum := "2d32bad6103421d736411b7a1d500520f933fdb17e41ba2e0674a98904b16043", func := "sealring/sealringlaw27.GoalFewer", spec := "goalFewer", inPlace := ["internal/bytealg.abigen_runtime_cmpstring"], unfollowed := true, recurses := true, loops := true, apart := false }
def GoalFewerSaid : Prop := goalFewerRow.holds Try.pinned (OpenSpec.ofChange goalFewerSpec)

/-- ITS FALSE NEIGHBOUR: 'it returns false'. Refute it at one input. -/
def goalFewerWrong : ChangeSpec := { name := "goalFewer", fn := fun _ => fun
  | [d1, d2, d3] => { results := [.lit (.bool false)], args := [d1, d2, d3] }
  | _ => none }
def GoalFewerWrongFalsely : Prop := goalFewerRow.holds Try.pinned (OpenSpec.ofChange goalFewerWrong)

/-- 'sealringlaw27.GoalFresh': WHATEVER THE INPUT: true; the input reads as it did. -/
def goalFreshSpec : ChangeSpec := { name := "goalFresh", fn := fun _ => fun
  | [d1, d2] => { results := [.lit (.bool true)], args := [d1, d2] }
  | _ => none }
def goalFreshRow : OpenClaim := { program := "ytpkegmgepnhfnaa", sum := "2d32bad6103421d736411b7a1d500520f933fdb17e41ba2e0674a98904b16043", func := "sealring/sealringlaw27.GoalFresh", spec := "goalFresh", inPlace := ["internal/bytealg.abigen_runtime_cmpstring"], unfollowed := true, recurses := true, loops := true, apart := false }
def GoalFreshSaid : Prop := goalFreshRow.holds Try.pinned (OpenSpec.ofChange goalFreshSpec)

/-- ITS FALSE NEIGHBOUR: 'it returns false'. Refute it at one input. -/
def goalFreshWrong : ChangeSpec := { name := "goalFresh", fn := fun _ => fun
  | [d1, d2] => { results := [.lit (.bool false)], args := [d1, d2] }
  | _ => none }
def GoalFreshWrongFalsely : Prop := goalFreshRow.holds Try.pinned (OpenSpec.ofChange goalFreshWrong)

/-- 'sealringlaw27.GoalHonest': WHATEVER THE INPUT: true; the input reads as it did. -/
def goalHonestSpec : ChangeSpec := { name := "goalHonest", fn := fun _ => fun
  | [d1, d2] => { results := [.lit (.bool true)], args := [d1, d2] }
  | _ => none }
def goalHonestRow : OpenClaim := { program := "ytpkegmgepnhfnaa", sum := "2d32bad6103421d736411b7a1d500520f933fdb17e41ba2e0674a98904b16043", func := "sealring/sealringlaw27.GoalHonest", spec := "goalHonest", inPlace := ["internal/bytealg.abigen_runtime_cmpstring", "internal/bytealg.IndexByteString", "internal/bytealg.IndexString"], unfollowed := true, recurses := true, named := ["internal/bytealg.MaxLen"], apart := false }
def GoalHonestSaid : Prop := goalHonestRow.holds Try.pinned (OpenSpec.ofChange goalHonestSpec)

/-- ITS FALSE NEIGHBOUR: 'it returns false'. Refute it at one input. -/
def goalHonestWrong : ChangeSpec := { name := "goalHonest", fn := fun _ => fun
  | [d1, d2] => { results := [.lit (.bool false)], args := [d1, d2] }
  | _ => none }
def GoalHonestWrongFalsely : Prop := goalHonestRow.holds Try.pinned (OpenSpec.ofChange goalHonestWrong)

/- THE SECOND FORM. 'bulk': how many values and letters a reading holds, each counted each time it is reached (what is shared counts as often as it is met; a slice's spare places count too). A statement '..UptoSaid' is the law's where the arguments, and the package variables that the reading takes, are together of bulk at most 1048576: NARROWER than '..Said'. Prove '..Said' where nothing that the law and all that it calls make is longer than what came in: it says more and counts as full. Else prove '..UptoSaid'. A law counts once. -/
mutual
def uptoBulk {H : Type} : DataW H → Nat
  | .lit (.string bytes) => bytes.length + 1
  | .lit _ => 1
  | .nil => 1
  | .ptr d => uptoBulk d + 1
  | .slice elems spare => uptoBulkAll elems + uptoBulkAll spare + 1
  | .agg parts => uptoBulkAll parts + 1
  | .iface _ d => uptoBulk d + 1
  | .map entries => uptoBulkEntries entries + 1
  | .held _ => 1
def uptoBulkAll {H : Type} : List (DataW H) → Nat
  | [] => 0
  | d :: r => uptoBulk d + uptoBulkAll r
def uptoBulkEntries {H : Type} : List (Lit × DataW H) → Nat
  | [] => 0
  | x :: r => uptoBulkEntry x + uptoBulkEntries r
def uptoBulkEntry {H : Type} : Lit × DataW H → Nat
  | (.string bytes, d) => bytes.length + uptoBulk d + 1
  | (_, d) => uptoBulk d + 1
 end
def uptoSmall : (H : Type) → List (DataW H) → Bool := fun _ ds => decide (uptoBulkAll ds ≤ 1048576)
def OpenSpec.upto (s : _root_.Go.ChangeSpec) : _root_.Go.OpenSpec := { _root_.Go.OpenSpec.ofChange s with cond := some uptoSmall }

/-- 'sealringlaw27.GoalAgree', WHERE WHAT IT READS IS OF BULK AT MOST 1048576: true; the input reads as it did. -/
def goalAgreeUptoRow : OpenClaim := { program := "ytpkegmgepnhfnaa", sum := "2d32bad6103421d736411b7a1d500520f933fdb17e41ba2e0674a98904b16043", func := "sealring/sealringlaw27.GoalAgree", spec := "goalAgree", inPlace := ["internal/bytealg.abigen_runtime_cmpstring"], unfollowed := true, recurses := true, loops := true, apart := false, narrowed := true }
def GoalAgreeUptoSaid : Prop := goalAgreeUptoRow.holds Try.pinned (OpenSpec.upto goalAgreeSpec)

/-- 'sealringlaw27.GoalInject', WHERE WHAT IT READS IS OF BULK AT MOST 1048576: true; the input reads as it did. -/
def goalInjectUptoRow : OpenClaim := { program := "ytpkegmgepnhfnaa", sum := "2d32bad6103421d736411b7a1d500520f933fdb17e41ba2e0674a98904b16043", func := "sealring/sealringlaw27.GoalInject", spec := "goalInject", inPlace := ["internal/bytealg.abigen_runtime_cmpstring"], unfollowed := true, recurses := true, loops := true, apart := false, narrowed := true }
def GoalInjectUptoSaid : Prop := goalInjectUptoRow.holds Try.pinned (OpenSpec.upto goalInjectSpec)

/-- 'sealringlaw27.GoalAssigned', WHERE WHAT IT READS IS OF BULK AT MOST 1048576: true; the input reads as it did. -/
def goalAssignedUptoRow : OpenClaim := { program := "ytpkegmgepnhfnaa", sum := "2d32bad6103421d736411b7a1d500520f933fdb17e41ba2e0674a98904b16043", func := "sealring/sealringlaw27.GoalAssigned", spec := "goalAssigned", inPlace := ["internal/bytealg.abigen_runtime_cmpstring"], unfollowed := true, recurses := true, loops := true, apart := false, narrowed := true }
def GoalAssignedUptoSaid : Prop := goalAssignedUptoRow.holds Try.pinned (OpenSpec.upto goalAssignedSpec)

/-- 'sealringlaw27.GoalFewer', WHERE WHAT IT READS IS OF BULK AT MOST 1048576: true; the input reads as it did. -/
def goalFewerUptoRow : OpenClaim := { program := "ytpkegmgepnhfnaa", sum := "2d32bad6103421d736411b7a1d500520f933fdb17e41ba2e0674a98904b16043", func := "sealring/sealringlaw27.GoalFewer", spec := "goalFewer", inPlace := ["internal/bytealg.abigen_runtime_cmpstring"], unfollowed := true, recurses := true, loops := true, apart := false, narrowed := true }
def GoalFewerUptoSaid : Prop := goalFewerUptoRow.holds Try.pinned (OpenSpec.upto goalFewerSpec)

/-- 'sealringlaw27.GoalFresh', WHERE WHAT IT READS IS OF BULK AT MOST 1048576: true; the input reads as it did. -/
def goalFreshUptoRow : OpenClaim := { program := "ytpkegmgepnhfnaa", sum := "2d32bad6103421d736411b7a1d500520f933fdb17e41ba2e0674a98904b16043", func := "sealring/sealringlaw27.GoalFresh", spec := "goalFresh", inPlace := ["internal/bytealg.abigen_runtime_cmpstring"], unfollowed := true, recurses := true, loops := true, apart := false, narrowed := true }
def GoalFreshUptoSaid : Prop := goalFreshUptoRow.holds Try.pinned (OpenSpec.upto goalFreshSpec)

/-- 'sealringlaw27.GoalHonest', WHERE WHAT IT READS IS OF BULK AT MOST 1048576: true; the input reads as it did. -/
def goalHonestUptoRow : OpenClaim := { program := "ytpkegmgepnhfnaa", sum := "2d32bad6103421d736411b7a1d500520f933fdb17e41ba2e0674a98904b16043", func := "sealring/sealringlaw27.GoalHonest", spec := "goalHonest", inPlace := ["internal/bytealg.abigen_runtime_cmpstring", "internal/bytealg.IndexByteString", "internal/bytealg.IndexString"], unfollowed := true, recurses := true, named := ["internal/bytealg.MaxLen"], apart := false, narrowed := true }
def GoalHonestUptoSaid : Prop := goalHonestUptoRow.holds Try.pinned (OpenSpec.upto goalHonestSpec)

end Rows
end Go.Proofs.Ytpkegmgepnhfnaa
