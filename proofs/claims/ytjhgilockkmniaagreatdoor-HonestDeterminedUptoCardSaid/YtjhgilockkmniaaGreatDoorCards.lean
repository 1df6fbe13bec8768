/-
  DERIVED. GIVEN WITH THE SEED: THE CARDS: each row of YtjhgilockkmniaaGreatDoorRows.lean that lists a variable, with what it lists TIED to the program's text (the seventh form; the later family's looks); each row that meets fmt, with fmt's text TOLD by the authors' own Lean function (tested against real Go, not proved from fmt's source: count such statements apart). THE CARD IS WHAT COUNTS. Prove the row's statement (the work); the ties are given (YtjhgilockkmniaaGreatDoorTie.lean); close each card by the builder's one call (the guide's Derived/Test/ToyasCard.lean, 'card_holds'). Laid BY PROGRAM, IN A SANDBOX (cutbox-door.mjs). By AI agents, Wed Nov 11 2026. No macro, syntax, notation, axiom, sorry.
-/
import Derived.Test.YtjhgilockkmniaaGreatDoorRows
import GoSem.ClaimSeven
namespace Go.Proofs.YtjhgilockkmniaaGreatDoor
namespace Rows

/-- THE TIED CARD OF 'sealringlaw29.HonestDetermined'. -/
def honestDeterminedCard : Claim7 := { stood := { row := honestDeterminedRow, standIns := [], harness := (true, "16de36819ed332ed1e829c600a7cdd141e0dd2ba171b7587216979d96435ec12"), looks := false }, kinds := [], alts := [], laidByText := true, laidKinds := [.data, .data, .data, .data, .widerDeep, .pinned], laidTests := true, laidLooks := .later }
def HonestDeterminedCardSaid : Prop := Claim7.holds Tryz.pinned (.plain (OpenSpec.ofChange honestDeterminedSpec)) honestDeterminedCard

/-- THE TIED CARD OF 'sealringlaw29.HonestProject'. -/
def honestProjectCard : Claim7 := { stood := { row := honestProjectRow, standIns := [], harness := (true, "16de36819ed332ed1e829c600a7cdd141e0dd2ba171b7587216979d96435ec12"), looks := false }, kinds := [], alts := [], laidByText := true, laidKinds := [.data, .data, .data, .data, .widerDeep, .pinned], laidTests := true, laidLooks := .later }
def HonestProjectCardSaid : Prop := Claim7.holds Tryz.pinned (.plain (OpenSpec.ofChange honestProjectSpec)) honestProjectCard

/-- THE SECOND FORM's CARD OF 'sealringlaw29.HonestDetermined'. -/
def honestDeterminedUptoCard : Claim7 := { stood := { row := honestDeterminedUptoRow, standIns := [], harness := (true, "16de36819ed332ed1e829c600a7cdd141e0dd2ba171b7587216979d96435ec12"), looks := false }, kinds := [], alts := [], laidByText := true, laidKinds := [.data, .data, .data, .data, .widerDeep, .pinned], laidTests := true, laidLooks := .later }
def HonestDeterminedUptoCardSaid : Prop := Claim7.holds Tryz.pinned (.plain (OpenSpec.upto honestDeterminedSpec)) honestDeterminedUptoCard

/-- THE SECOND FORM's CARD OF 'sealringlaw29.HonestProject'. -/
def honestProjectUptoCard : Claim7 := { stood := { row := honestProjectUptoRow, standIns := [], harness := (true, "16de36819ed332ed1e829c600a7cdd141e0dd2ba171b7587216979d96435ec12"), looks := false }, kinds := [], alts := [], laidByText := true, laidKinds := [.data, .data, .data, .data, .widerDeep, .pinned], laidTests := true, laidLooks := .later }
def HonestProjectUptoCardSaid : Prop := Claim7.holds Tryz.pinned (.plain (OpenSpec.upto honestProjectSpec)) honestProjectUptoCard
end Rows
end Go.Proofs.YtjhgilockkmniaaGreatDoor
