/-
  DERIVED. GIVEN WITH THE SEED: THE CARDS: each row of YtnnjamknplefbaaGreatDoorRows.lean that lists a variable, with what it lists TIED to the program's text (the seventh form; the later family's looks); each row that meets fmt, with fmt's text TOLD by the authors' own Lean function (tested against real Go, not proved from fmt's source: count such statements apart). THE CARD IS WHAT COUNTS. Prove the row's statement (the work); the ties are given (YtnnjamknplefbaaGreatDoorTie.lean); close each card by the builder's one call (the guide's Derived/Test/ToyasCard.lean, 'card_holds'). Laid BY PROGRAM, IN A SANDBOX (cutbox-door.mjs). By AI agents, Wed Nov 11 2026. No macro, syntax, notation, axiom, sorry.
-/
import Derived.Test.YtnnjamknplefbaaGreatDoorRows
import GoSem.ClaimSeven
namespace Go.Proofs.YtnnjamknplefbaaGreatDoor
namespace Rows

/-- THE TIED CARD OF 'sealringlaw50.TypingTerm'. -/
def typingTermCard : Claim7 := { stood := { row := typingTermRow, standIns := [], harness := (true, "cdd3400c7e16a2d889dd192a616085b6f162eaa708392a2b5648703b9cc7c78e"), looks := false }, kinds := [], alts := [], laidByText := true, laidKinds := [.data, .data, .data, .data, .widerDeep, .pinned], laidTests := true, laidLooks := .later }
def TypingTermCardSaid : Prop := Claim7.holds Tryz.pinned (.plain (OpenSpec.ofChange typingTermSpec)) typingTermCard

/-- THE TIED CARD OF 'sealringlaw50.TypingEffects'. -/
def typingEffectsCard : Claim7 := { stood := { row := typingEffectsRow, standIns := [], harness := (true, "cdd3400c7e16a2d889dd192a616085b6f162eaa708392a2b5648703b9cc7c78e"), looks := false }, kinds := [], alts := [], laidByText := true, laidKinds := [.data, .data, .data, .data, .widerDeep, .pinned], laidTests := true, laidLooks := .later }
def TypingEffectsCardSaid : Prop := Claim7.holds Tryz.pinned (.plain (OpenSpec.ofChange typingEffectsSpec)) typingEffectsCard

/-- THE SECOND FORM's CARD OF 'sealringlaw50.TypingTerm'. -/
def typingTermUptoCard : Claim7 := { stood := { row := typingTermUptoRow, standIns := [], harness := (true, "cdd3400c7e16a2d889dd192a616085b6f162eaa708392a2b5648703b9cc7c78e"), looks := false }, kinds := [], alts := [], laidByText := true, laidKinds := [.data, .data, .data, .data, .widerDeep, .pinned], laidTests := true, laidLooks := .later }
def TypingTermUptoCardSaid : Prop := Claim7.holds Tryz.pinned (.plain (OpenSpec.upto typingTermSpec)) typingTermUptoCard

/-- THE SECOND FORM's CARD OF 'sealringlaw50.TypingEffects'. -/
def typingEffectsUptoCard : Claim7 := { stood := { row := typingEffectsUptoRow, standIns := [], harness := (true, "cdd3400c7e16a2d889dd192a616085b6f162eaa708392a2b5648703b9cc7c78e"), looks := false }, kinds := [], alts := [], laidByText := true, laidKinds := [.data, .data, .data, .data, .widerDeep, .pinned], laidTests := true, laidLooks := .later }
def TypingEffectsUptoCardSaid : Prop := Claim7.holds Tryz.pinned (.plain (OpenSpec.upto typingEffectsSpec)) typingEffectsUptoCard
end Rows
end Go.Proofs.YtnnjamknplefbaaGreatDoor
