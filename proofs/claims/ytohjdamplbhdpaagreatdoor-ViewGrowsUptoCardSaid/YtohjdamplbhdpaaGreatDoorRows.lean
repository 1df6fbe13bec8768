/-
  NARROWER THAN 'FOR EVERY INPUT', by the rows' own cells (each row's printed sentence says how): ViewExecutable: loops, laid · ViewLearns: loops, laid · ViewBlind: loops, laid · ViewDrafts: laid · ViewGrows: laid · ViewOpened: loops, laid · ViewKnows: loops, laid.
  DERIVED. THE GIVEN ROWS OF THIS SEAT. 7 by the template 'for every input the law returns true; each argument reads behind the call as it read before'; 0 by the template 'total and deterministic' (their statements: YtohjdamplbhdpaaGreatDoorTotals.lean).
  GIVEN WITH THE SEED: the statements are not yours to turn. If you find one false, say at which input.
  Laid BY PROGRAM, IN A SANDBOX (cutbox-rows.mjs): the forced cells as the released guide's own fill.sh prints them over the translation 5844eb64c52ca625… (all of the seat's roots in one cut). By AI agents, Wed Nov 11 2026. No macro, syntax, notation, axiom, sorry.
-/
import Derived.Test.YtohjdamplbhdpaaGreatDoorChecked
import GoSem.PinnedTables
import GoSem.Claim
import GoSem.ClaimJoined
import GoSem.ClaimMapViews
import Derived.JoinedTies
import Derived.KernelRfl
namespace Go.Proofs.YtohjdamplbhdpaaGreatDoor
/- THE CELL 'sum', in the pinned program and in every row, IS THE sha256 OF THE DUMP (.gsa) THAT YtohjdamplbhdpaaGreatDoorProg.lean LOADS. Nothing in Lean hashes anything: it is a label: what it is worth is what the hold of that sum in a sandbox is worth. -/
noncomputable def Tryz.pinned : Pinned := { name := "ytohjdamplbhdpaagreatdoor", sum := "5844eb64c52ca62534e4ac536ccb57a4bce742eeb65bb18be8ffd15cfcc95c90", checked := Tryz.checked }
namespace Rows
def none {H : Type} : Left H := { results := [], args := [] }

/- WHAT THE LISTED PACKAGE-LEVEL VARIABLES READ AS WHEN THE CALL BEGINS. Each datum BY PROGRAM (the guide's laid-datum.mjs) off the statement by which the dump's own 'gosem.cut.vars' lays the variable. In a bare row this is a premise. The card (YtohjdamplbhdpaaGreatDoorCards.lean) ties it to the program's text. -/
def laid_unicode_utf8_acceptRanges {H : Type} : DataW H := .agg [.agg [.lit (.int .u8 128), .lit (.int .u8 191)], .agg [.lit (.int .u8 160), .lit (.int .u8 191)], .agg [.lit (.int .u8 128), .lit (.int .u8 159)], .agg [.lit (.int .u8 144), .lit (.int .u8 191)], .agg [.lit (.int .u8 128), .lit (.int .u8 143)], .agg [.lit (.int .u8 0), .lit (.int .u8 0)], .agg [.lit (.int .u8 0), .lit (.int .u8 0)], .agg [.lit (.int .u8 0), .lit (.int .u8 0)], .agg [.lit (.int .u8 0), .lit (.int .u8 0)], .agg [.lit (.int .u8 0), .lit (.int .u8 0)], .agg [.lit (.int .u8 0), .lit (.int .u8 0)], .agg [.lit (.int .u8 0), .lit (.int .u8 0)], .agg [.lit (.int .u8 0), .lit (.int .u8 0)], .agg [.lit (.int .u8 0), .lit (.int .u8 0)], .agg [.lit (.int .u8 0), .lit (.int .u8 0)], .agg [.lit (.int .u8 0), .lit (.int .u8 0)]]
/-- One of Go's own tables, pinned by name: the form's constant. -/
def laid_unicode_utf8_first : DataW Unit := Go.Pinned.utf8First

/-- 'sealringlaw24.ViewExecutable': WHATEVER THE INPUT: true; the input reads as it did. -/
def viewExecutableSpec : ChangeSpec := { name := "viewExecutable", fn := fun _ => fun
  | [d] => { results := [.lit (.bool true)], args := [d] }
  | _ => none }
def viewExecutableRow : OpenClaim := { program := "ytohjdamplbhdpaagreatdoor", sum := "5844eb64c52ca62534e4ac536ccb57a4bce742eeb65bb18be8ffd15cfcc95c90", func := "sealring/sealringlaw24.ViewExecutable", spec := "viewExecutable", inPlace := ["internal/bytealg.IndexByteString", "internal/bytealg.IndexString", "internal/bytealg.abigen_runtime_cmpstring", "slices.overlaps[sealring/api.Power]", "slices.overlaps[sealring/api.Term]"], unfollowed := true, recurses := true, named := ["internal/bytealg.MaxLen", "unicode/utf8.first", "unicode/utf8.acceptRanges"], loops := true, apart := false, laid := [("unicode/utf8.acceptRanges", laid_unicode_utf8_acceptRanges), ("unicode/utf8.first", laid_unicode_utf8_first)] }
def ViewExecutableSaid : Prop := viewExecutableRow.holds Tryz.pinned (OpenSpec.ofChange viewExecutableSpec)

/-- ITS FALSE NEIGHBOUR: 'it returns false'. Refute it at one input. -/
def viewExecutableWrong : ChangeSpec := { name := "viewExecutable", fn := fun _ => fun
  | [d] => { results := [.lit (.bool false)], args := [d] }
  | _ => none }
def ViewExecutableWrongFalsely : Prop := viewExecutableRow.holds Tryz.pinned (OpenSpec.ofChange viewExecutableWrong)

/-- 'sealringlaw24.ViewLearns': WHATEVER THE INPUT: true; the input reads as it did. -/
def viewLearnsSpec : ChangeSpec := { name := "viewLearns", fn := fun _ => fun
  | [d1, d2, d3] => { results := [.lit (.bool true)], args := [d1, d2, d3] }
  | _ => none }
def viewLearnsRow : OpenClaim := { program := "ytohjdamplbhdpaagreatdoor", sum := "5844eb64c52ca62534e4ac536ccb57a4bce742eeb65bb18be8ffd15cfcc95c90", func := "sealring/sealringlaw24.ViewLearns", spec := "viewLearns", inPlace := ["internal/bytealg.IndexByteString", "internal/bytealg.IndexString", "internal/bytealg.abigen_runtime_cmpstring", "slices.overlaps[sealring/api.Power]", "slices.overlaps[sealring/api.Term]"], unfollowed := true, recurses := true, named := ["internal/bytealg.MaxLen", "unicode/utf8.first", "unicode/utf8.acceptRanges"], loops := true, apart := false, laid := [("unicode/utf8.acceptRanges", laid_unicode_utf8_acceptRanges), ("unicode/utf8.first", laid_unicode_utf8_first)] }
def ViewLearnsSaid : Prop := viewLearnsRow.holds Tryz.pinned (OpenSpec.ofChange viewLearnsSpec)

/-- ITS FALSE NEIGHBOUR: 'it returns false'. Refute it at one input. -/
def viewLearnsWrong : ChangeSpec := { name := "viewLearns", fn := fun _ => fun
  | [d1, d2, d3] => { results := [.lit (.bool false)], args := [d1, d2, d3] }
  | _ => none }
def ViewLearnsWrongFalsely : Prop := viewLearnsRow.holds Tryz.pinned (OpenSpec.ofChange viewLearnsWrong)

/-- 'sealringlaw24.ViewBlind': WHATEVER THE INPUT: true; the input reads as it did. -/
def viewBlindSpec : ChangeSpec := { name := "viewBlind", fn := fun _ => fun
  | [d1, d2] => { results := [.lit (.bool true)], args := [d1, d2] }
  | _ => none }
def viewBlindRow : OpenClaim := { program := "ytohjdamplbhdpaagreatdoor", sum := "5844eb64c52ca62534e4ac536ccb57a4bce742eeb65bb18be8ffd15cfcc95c90", func := "sealring/sealringlaw24.ViewBlind", spec := "viewBlind", inPlace := ["internal/bytealg.IndexByteString", "internal/bytealg.IndexString", "internal/bytealg.abigen_runtime_cmpstring", "slices.overlaps[sealring/api.Power]", "slices.overlaps[sealring/api.Term]"], unfollowed := true, recurses := true, named := ["internal/bytealg.MaxLen", "unicode/utf8.first", "unicode/utf8.acceptRanges"], loops := true, apart := false, laid := [("unicode/utf8.acceptRanges", laid_unicode_utf8_acceptRanges), ("unicode/utf8.first", laid_unicode_utf8_first)] }
def ViewBlindSaid : Prop := viewBlindRow.holds Tryz.pinned (OpenSpec.ofChange viewBlindSpec)

/-- ITS FALSE NEIGHBOUR: 'it returns false'. Refute it at one input. -/
def viewBlindWrong : ChangeSpec := { name := "viewBlind", fn := fun _ => fun
  | [d1, d2] => { results := [.lit (.bool false)], args := [d1, d2] }
  | _ => none }
def ViewBlindWrongFalsely : Prop := viewBlindRow.holds Tryz.pinned (OpenSpec.ofChange viewBlindWrong)

/-- 'sealringlaw24.ViewDrafts': WHATEVER THE INPUT: true; the input reads as it did. -/
def viewDraftsSpec : ChangeSpec := { name := "viewDrafts", fn := fun _ => fun
  | [d] => { results := [.lit (.bool true)], args := [d] }
  | _ => none }
def viewDraftsRow : OpenClaim := { program := "ytohjdamplbhdpaagreatdoor", sum := "5844eb64c52ca62534e4ac536ccb57a4bce742eeb65bb18be8ffd15cfcc95c90", func := "sealring/sealringlaw24.ViewDrafts", spec := "viewDrafts", inPlace := ["internal/bytealg.IndexByteString", "internal/bytealg.IndexString", "internal/bytealg.abigen_runtime_cmpstring", "slices.overlaps[sealring/api.Power]", "slices.overlaps[sealring/api.Term]"], unfollowed := true, recurses := true, named := ["internal/bytealg.MaxLen", "unicode/utf8.first", "unicode/utf8.acceptRanges"], apart := false, laid := [("unicode/utf8.acceptRanges", laid_unicode_utf8_acceptRanges), ("unicode/utf8.first", laid_unicode_utf8_first)] }
def ViewDraftsSaid : Prop := viewDraftsRow.holds Tryz.pinned (OpenSpec.ofChange viewDraftsSpec)

/-- ITS FALSE NEIGHBOUR: 'it returns false'. Refute it at one input. -/
def viewDraftsWrong : ChangeSpec := { name := "viewDrafts", fn := fun _ => fun
  | [d] => { results := [.lit (.bool false)], args := [d] }
  | _ => none }
def ViewDraftsWrongFalsely : Prop := viewDraftsRow.holds Tryz.pinned (OpenSpec.ofChange viewDraftsWrong)

/-- 'sealringlaw24.ViewGrows': WHATEVER THE INPUT: true; the input reads as it did. -/
def viewGrowsSpec : ChangeSpec := { name := "viewGrows", fn := fun _ => fun
  | [d1, d2] => { results := [.lit (.bool true)], args := [d1, d2] }
  | _ => none }
def viewGrowsRow : OpenClaim := { program := "ytohjdamplbhdpaagreatdoor", sum := "5844eb64c52ca62534e4ac536ccb57a4bce742eeb65bb18be8ffd15cfcc95c90", func := "sealring/sealringlaw24.ViewGrows", spec := "viewGrows", inPlace := ["internal/bytealg.IndexByteString", "internal/bytealg.IndexString", "internal/bytealg.abigen_runtime_cmpstring", "slices.overlaps[sealring/api.Power]", "slices.overlaps[sealring/api.Term]"], unfollowed := true, recurses := true, named := ["internal/bytealg.MaxLen", "unicode/utf8.first", "unicode/utf8.acceptRanges"], apart := false, laid := [("unicode/utf8.acceptRanges", laid_unicode_utf8_acceptRanges), ("unicode/utf8.first", laid_unicode_utf8_first)] }
def ViewGrowsSaid : Prop := viewGrowsRow.holds Tryz.pinned (OpenSpec.ofChange viewGrowsSpec)

/-- ITS FALSE NEIGHBOUR: 'it returns false'. Refute it at one input. -/
def viewGrowsWrong : ChangeSpec := { name := "viewGrows", fn := fun _ => fun
  | [d1, d2] => { results := [.lit (.bool false)], args := [d1, d2] }
  | _ => none }
def ViewGrowsWrongFalsely : Prop := viewGrowsRow.holds Tryz.pinned (OpenSpec.ofChange viewGrowsWrong)

/-- 'sealringlaw24.ViewOpened': WHATEVER THE INPUT: true; the input reads as it did. -/
def viewOpenedSpec : ChangeSpec := { name := "viewOpened", fn := fun _ => fun
  | [d1, d2, d3] => { results := [.lit (.bool true)], args := [d1, d2, d3] }
  | _ => none }
def viewOpenedRow : OpenClaim := { program := "ytohjdamplbhdpaagreatdoor", sum := "5844eb64c52ca62534e4ac536ccb57a4bce742eeb65bb18be8ffd15cfcc95c90", func := "sealring/sealringlaw24.ViewOpened", spec := "viewOpened", inPlace := ["internal/bytealg.IndexByteString", "internal/bytealg.IndexString", "internal/bytealg.abigen_runtime_cmpstring", "slices.overlaps[sealring/api.Power]", "slices.overlaps[sealring/api.Term]"], unfollowed := true, recurses := true, named := ["internal/bytealg.MaxLen", "unicode/utf8.first", "unicode/utf8.acceptRanges"], loops := true, apart := false, laid := [("unicode/utf8.acceptRanges", laid_unicode_utf8_acceptRanges), ("unicode/utf8.first", laid_unicode_utf8_first)] }
def ViewOpenedSaid : Prop := viewOpenedRow.holds Tryz.pinned (OpenSpec.ofChange viewOpenedSpec)

/-- ITS FALSE NEIGHBOUR: 'it returns false'. Refute it at one input. -/
def viewOpenedWrong : ChangeSpec := { name := "viewOpened", fn := fun _ => fun
  | [d1, d2, d3] => { results := [.lit (.bool false)], args := [d1, d2, d3] }
  | _ => none }
def ViewOpenedWrongFalsely : Prop := viewOpenedRow.holds Tryz.pinned (OpenSpec.ofChange viewOpenedWrong)

/-- 'sealringlaw24.ViewKnows': WHATEVER THE INPUT: true; the input reads as it did. -/
def viewKnowsSpec : ChangeSpec := { name := "viewKnows", fn := fun _ => fun
  | [d1, d2] => { results := [.lit (.bool true)], args := [d1, d2] }
  | _ => none }
def viewKnowsRow : OpenClaim := { program := "ytohjdamplbhdpaagreatdoor", sum := "5844eb64c52ca62534e4ac536ccb57a4bce742eeb65bb18be8ffd15cfcc95c90", func := "sealring/sealringlaw24.ViewKnows", spec := "viewKnows", inPlace := ["internal/bytealg.IndexByteString", "internal/bytealg.IndexString", "internal/bytealg.abigen_runtime_cmpstring", "slices.overlaps[sealring/api.Power]", "slices.overlaps[sealring/api.Term]"], unfollowed := true, recurses := true, named := ["internal/bytealg.MaxLen", "unicode/utf8.first", "unicode/utf8.acceptRanges"], loops := true, apart := false, laid := [("unicode/utf8.acceptRanges", laid_unicode_utf8_acceptRanges), ("unicode/utf8.first", laid_unicode_utf8_first)] }
def ViewKnowsSaid : Prop := viewKnowsRow.holds Tryz.pinned (OpenSpec.ofChange viewKnowsSpec)

/-- ITS FALSE NEIGHBOUR: 'it returns false'. Refute it at one input. -/
def viewKnowsWrong : ChangeSpec := { name := "viewKnows", fn := fun _ => fun
  | [d1, d2] => { results := [.lit (.bool false)], args := [d1, d2] }
  | _ => none }
def ViewKnowsWrongFalsely : Prop := viewKnowsRow.holds Tryz.pinned (OpenSpec.ofChange viewKnowsWrong)

/- THE SECOND FORM. 'bulk': how many values and letters a reading holds, each counted each time it is reached (what is shared counts as often as it is met; a slice's spare places count too). A statement '..UptoSaid' is the law's where the arguments, and the package variables that the reading takes, are together of bulk at most 1048576: NARROWER than '..Said'. Prove '..Said' where nothing that the law and all that it calls make is longer than what came in: it says more and counts as full. Else prove '..UptoSaid'. A law counts once. -/
mutual
def uptoBulk {H : Type} : DataW H → Nat
  | .lit (.string bytes) => bytes.length + 1
  | .lit _ => 1
  | .nil => 1
  | .ptr d => uptoBulk d + 1
  | .slice elems spare => uptoBulkAll elems + uptoBulkAll spare + 1
  | .agg parts => uptoBulkAll parts + 1
  | .iface _ d => uptoBulk d + 1
  | .map entries => uptoBulkEntries entries + 1
  | .held _ => 1
def uptoBulkAll {H : Type} : List (DataW H) → Nat
  | [] => 0
  | d :: r => uptoBulk d + uptoBulkAll r
def uptoBulkEntries {H : Type} : List (Lit × DataW H) → Nat
  | [] => 0
  | x :: r => uptoBulkEntry x + uptoBulkEntries r
def uptoBulkEntry {H : Type} : Lit × DataW H → Nat
  | (.string bytes, d) => bytes.length + uptoBulk d + 1
  | (_, d) => uptoBulk d + 1
 end
def uptoSmall : (H : Type) → List (DataW H) → Bool := fun _ ds => decide (uptoBulkAll ds ≤ 1048576)
def OpenSpec.upto (s : _root_.Go.ChangeSpec) : _root_.Go.OpenSpec := { _root_.Go.OpenSpec.ofChange s with cond := some uptoSmall }

/-- 'sealringlaw24.ViewExecutable', WHERE WHAT IT READS IS OF BULK AT MOST 1048576: true; the input reads as it did. -/
def viewExecutableUptoRow : OpenClaim := { program := "ytohjdamplbhdpaagreatdoor", sum := "5844eb64c52ca62534e4ac536ccb57a4bce742eeb65bb18be8ffd15cfcc95c90", func := "sealring/sealringlaw24.ViewExecutable", spec := "viewExecutable", inPlace := ["internal/bytealg.IndexByteString", "internal/bytealg.IndexString", "internal/bytealg.abigen_runtime_cmpstring", "slices.overlaps[sealring/api.Power]", "slices.overlaps[sealring/api.Term]"], unfollowed := true, recurses := true, named := ["internal/bytealg.MaxLen", "unicode/utf8.first", "unicode/utf8.acceptRanges"], loops := true, apart := false, laid := [("unicode/utf8.acceptRanges", laid_unicode_utf8_acceptRanges), ("unicode/utf8.first", laid_unicode_utf8_first)], narrowed := true }
def ViewExecutableUptoSaid : Prop := viewExecutableUptoRow.holds Tryz.pinned (OpenSpec.upto viewExecutableSpec)

/-- 'sealringlaw24.ViewLearns', WHERE WHAT IT READS IS OF BULK AT MOST 1048576: true; the input reads as it did. -/
def viewLearnsUptoRow : OpenClaim := { program := "ytohjdamplbhdpaagreatdoor", sum := "5844eb64c52ca62534e4ac536ccb57a4bce742eeb65bb18be8ffd15cfcc95c90", func := "sealring/sealringlaw24.ViewLearns", spec := "viewLearns", inPlace := ["internal/bytealg.IndexByteString", "internal/bytealg.IndexString", "internal/bytealg.abigen_runtime_cmpstring", "slices.overlaps[sealring/api.Power]", "slices.overlaps[sealring/api.Term]"], unfollowed := true, recurses := true, named := ["internal/bytealg.MaxLen", "unicode/utf8.first", "unicode/utf8.acceptRanges"], loops := true, apart := false, laid := [("unicode/utf8.acceptRanges", laid_unicode_utf8_acceptRanges), ("unicode/utf8.first", laid_unicode_utf8_first)], narrowed := true }
def ViewLearnsUptoSaid : Prop := viewLearnsUptoRow.holds Tryz.pinned (OpenSpec.upto viewLearnsSpec)

/-- 'sealringlaw24.ViewBlind', WHERE WHAT IT READS IS OF BULK AT MOST 1048576: true; the input reads as it did. -/
def viewBlindUptoRow : OpenClaim := { program := "ytohjdamplbhdpaagreatdoor", sum := "5844eb64c52ca62534e4ac536ccb57a4bce742eeb65bb18be8ffd15cfcc95c90", func := "sealring/sealringlaw24.ViewBlind", spec := "viewBlind", inPlace := ["internal/bytealg.IndexByteString", "internal/bytealg.IndexString", "internal/bytealg.abigen_runtime_cmpstring", "slices.overlaps[sealring/api.Power]", "slices.overlaps[sealring/api.Term]"], unfollowed := true, recurses := true, named := ["internal/bytealg.MaxLen", "unicode/utf8.first", "unicode/utf8.acceptRanges"], loops := true, apart := false, laid := [("unicode/utf8.acceptRanges", laid_unicode_utf8_acceptRanges), ("unicode/utf8.first", laid_unicode_utf8_first)], narrowed := true }
def ViewBlindUptoSaid : Prop := viewBlindUptoRow.holds Tryz.pinned (OpenSpec.upto viewBlindSpec)

/-- 'sealringlaw24.ViewDrafts', WHERE WHAT IT READS IS OF BULK AT MOST 1048576: true; the input reads as it did. -/
def viewDraftsUptoRow : OpenClaim := { program := "ytohjdamplbhdpaagreatdoor", sum := "5844eb64c52ca62534e4ac536ccb57a4bce742eeb65bb18be8ffd15cfcc95c90", func := "sealring/sealringlaw24.ViewDrafts", spec := "viewDrafts", inPlace := ["internal/bytealg.IndexByteString", "internal/bytealg.IndexString", "internal/bytealg.abigen_runtime_cmpstring", "slices.overlaps[sealring/api.Power]", "slices.overlaps[sealring/api.Term]"], unfollowed := true, recurses := true, named := ["internal/bytealg.MaxLen", "unicode/utf8.first", "unicode/utf8.acceptRanges"], apart := false, laid := [("unicode/utf8.acceptRanges", laid_unicode_utf8_acceptRanges), ("unicode/utf8.first", laid_unicode_utf8_first)], narrowed := true }
def ViewDraftsUptoSaid : Prop := viewDraftsUptoRow.holds Tryz.pinned (OpenSpec.upto viewDraftsSpec)

/-- 'sealringlaw24.ViewGrows', WHERE WHAT IT READS IS OF BULK AT MOST 1048576: true; the input reads as it did. -/
def viewGrowsUptoRow : OpenClaim := { program := "ytohjdamplbhdpaagreatdoor", sum := "5844eb64c52ca62534e4ac536ccb57a4bce742eeb65bb18be8ffd15cfcc95c90", func := "sealring/sealringlaw24.ViewGrows", spec := "viewGrows", inPlace := ["internal/bytealg.IndexByteString", "internal/bytealg.IndexString", "internal/bytealg.abigen_runtime_cmpstring", "slices.overlaps[sealring/api.Power]", "slices.overlaps[sealring/api.Term]"], unfollowed := true, recurses := true, named := ["internal/bytealg.MaxLen", "unicode/utf8.first", "unicode/utf8.acceptRanges"], apart := false, laid := [("unicode/utf8.acceptRanges", laid_unicode_utf8_acceptRanges), ("unicode/utf8.first", laid_unicode_utf8_first)], narrowed := true }
def ViewGrowsUptoSaid : Prop := viewGrowsUptoRow.holds Tryz.pinned (OpenSpec.upto viewGrowsSpec)

/-- 'sealringlaw24.ViewOpened', WHERE WHAT IT READS IS OF BULK AT MOST 1048576: true; the input reads as it did. -/
def viewOpenedUptoRow : OpenClaim := { program := "ytohjdamplbhdpaagreatdoor", sum := "5844eb64c52ca62534e4ac536ccb57a4bce742eeb65bb18be8ffd15cfcc95c90", func := "sealring/sealringlaw24.ViewOpened", spec := "viewOpened", inPlace := ["internal/bytealg.IndexByteString", "internal/bytealg.IndexString", "internal/bytealg.abigen_runtime_cmpstring", "slices.overlaps[sealring/api.Power]", "slices.overlaps[sealring/api.Term]"], unfollowed := true, recurses := true, named := ["internal/bytealg.MaxLen", "unicode/utf8.first", "unicode/utf8.acceptRanges"], loops := true, apart := false, laid := [("unicode/utf8.acceptRanges", laid_unicode_utf8_acceptRanges), ("unicode/utf8.first", laid_unicode_utf8_first)], narrowed := true }
def ViewOpenedUptoSaid : Prop := viewOpenedUptoRow.holds Tryz.pinned (OpenSpec.upto viewOpenedSpec)

/-- 'sealringlaw24.ViewKnows', WHERE WHAT IT READS IS OF BULK AT MOST 1048576: true; the input reads as it did. -/
def viewKnowsUptoRow : OpenClaim := { program := "ytohjdamplbhdpaagreatdoor", sum := "5844eb64c52ca62534e4ac536ccb57a4bce742eeb65bb18be8ffd15cfcc95c90", func := "sealring/sealringlaw24.ViewKnows", spec := "viewKnows", inPlace := ["internal/bytealg.IndexByteString", "internal/bytealg.IndexString", "internal/bytealg.abigen_runtime_cmpstring", "slices.overlaps[sealring/api.Power]", "slices.overlaps[sealring/api.Term]"], unfollowed := true, recurses := true, named := ["internal/bytealg.MaxLen", "unicode/utf8.first", "unicode/utf8.acceptRanges"], loops := true, apart := false, laid := [("unicode/utf8.acceptRanges", laid_unicode_utf8_acceptRanges), ("unicode/utf8.first", laid_unicode_utf8_first)], narrowed := true }
def ViewKnowsUptoSaid : Prop := viewKnowsUptoRow.holds Tryz.pinned (OpenSpec.upto viewKnowsSpec)

end Rows
end Go.Proofs.YtohjdamplbhdpaaGreatDoor
