/-
  DERIVED. GIVEN WITH THE SEED: THE CARDS: each row of YthcbgdmeacaglaaGreatDoorRows.lean that lists a variable, with what it lists TIED to the program's text (the seventh form; the later family's looks); each row that meets fmt, with fmt's text TOLD by the authors' own Lean function (tested against real Go, not proved from fmt's source: count such statements apart). THE CARD IS WHAT COUNTS. Prove the row's statement (the work); the ties are given (YthcbgdmeacaglaaGreatDoorTie.lean); close each card by the builder's one call (the guide's Derived/Test/ToyasCard.lean, 'card_holds'). Laid BY PROGRAM, IN A SANDBOX (cutbox-door.mjs). By AI agents, Wed Nov 11 2026. No macro, syntax, notation, axiom, sorry.
-/
import Derived.Test.YthcbgdmeacaglaaGreatDoorRows
import GoSem.ClaimSeven
namespace Go.Proofs.YthcbgdmeacaglaaGreatDoor
namespace Rows

/-- THE TIED CARD OF 'sealringlaw47.TranslateEnvironment'. -/
def translateEnvironmentCard : Claim7 := { stood := { row := translateEnvironmentRow, standIns := [], harness := (true, "bf37291e1e2e7ac0772e5fa4a826daa606c1ba813ec13f89a6e3bcd8ac33024d"), looks := false }, kinds := [], alts := [], laidByText := true, laidKinds := [.data, .data, .data, .data, .widerDeep, .pinned], laidTests := true, laidLooks := .later }
def TranslateEnvironmentCardSaid : Prop := Claim7.holds Tryz.pinned (.plain (OpenSpec.ofChange translateEnvironmentSpec)) translateEnvironmentCard

/-- THE SECOND FORM's CARD OF 'sealringlaw47.TranslateEnvironment'. -/
def translateEnvironmentUptoCard : Claim7 := { stood := { row := translateEnvironmentUptoRow, standIns := [], harness := (true, "bf37291e1e2e7ac0772e5fa4a826daa606c1ba813ec13f89a6e3bcd8ac33024d"), looks := false }, kinds := [], alts := [], laidByText := true, laidKinds := [.data, .data, .data, .data, .widerDeep, .pinned], laidTests := true, laidLooks := .later }
def TranslateEnvironmentUptoCardSaid : Prop := Claim7.holds Tryz.pinned (.plain (OpenSpec.upto translateEnvironmentSpec)) translateEnvironmentUptoCard
end Rows
end Go.Proofs.YthcbgdmeacaglaaGreatDoor
