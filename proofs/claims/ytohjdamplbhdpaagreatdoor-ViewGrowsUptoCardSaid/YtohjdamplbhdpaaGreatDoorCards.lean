/-
  DERIVED. GIVEN WITH THE SEED: THE CARDS: each row of YtohjdamplbhdpaaGreatDoorRows.lean that lists a variable, with what it lists TIED to the program's text (the seventh form; the later family's looks); each row that meets fmt, with fmt's text TOLD by the authors' own Lean function (tested against real Go, not proved from fmt's source: count such statements apart). THE CARD IS WHAT COUNTS. Prove the row's statement (the work); the ties are given (YtohjdamplbhdpaaGreatDoorTie.lean); close each card by the builder's one call (the guide's Derived/Test/ToyasCard.lean, 'card_holds'). Laid BY PROGRAM, IN A SANDBOX (cutbox-door.mjs). By AI agents, Wed Nov 11 2026. No macro, syntax, notation, axiom, sorry.
-/
import Derived.Test.YtohjdamplbhdpaaGreatDoorRows
import GoSem.ClaimSeven
namespace Go.Proofs.YtohjdamplbhdpaaGreatDoor
namespace Rows

/-- THE TIED CARD OF 'sealringlaw24.ViewExecutable'. -/
def viewExecutableCard : Claim7 := { stood := { row := viewExecutableRow, standIns := [], harness := (true, "bbd4f304a58cb03973f71871558477c5634de78b363852f243e6bfc1d7481da7"), looks := false }, kinds := [], alts := [], laidByText := true, laidKinds := [.data, .pinned], laidTests := true, laidLooks := .later }
def ViewExecutableCardSaid : Prop := Claim7.holds Tryz.pinned (.plain (OpenSpec.ofChange viewExecutableSpec)) viewExecutableCard

/-- THE TIED CARD OF 'sealringlaw24.ViewLearns'. -/
def viewLearnsCard : Claim7 := { stood := { row := viewLearnsRow, standIns := [], harness := (true, "bbd4f304a58cb03973f71871558477c5634de78b363852f243e6bfc1d7481da7"), looks := false }, kinds := [], alts := [], laidByText := true, laidKinds := [.data, .pinned], laidTests := true, laidLooks := .later }
def ViewLearnsCardSaid : Prop := Claim7.holds Tryz.pinned (.plain (OpenSpec.ofChange viewLearnsSpec)) viewLearnsCard

/-- THE TIED CARD OF 'sealringlaw24.ViewBlind'. -/
def viewBlindCard : Claim7 := { stood := { row := viewBlindRow, standIns := [], harness := (true, "bbd4f304a58cb03973f71871558477c5634de78b363852f243e6bfc1d7481da7"), looks := false }, kinds := [], alts := [], laidByText := true, laidKinds := [.data, .pinned], laidTests := true, laidLooks := .later }
def ViewBlindCardSaid : Prop := Claim7.holds Tryz.pinned (.plain (OpenSpec.ofChange viewBlindSpec)) viewBlindCard

/-- THE TIED CARD OF 'sealringlaw24.ViewDrafts'. -/
def viewDraftsCard : Claim7 := { stood := { row := viewDraftsRow, standIns := [], harness := (true, "bbd4f304a58cb03973f71871558477c5634de78b363852f243e6bfc1d7481da7"), looks := false }, kinds := [], alts := [], laidByText := true, laidKinds := [.data, .pinned], laidTests := true, laidLooks := .later }
def ViewDraftsCardSaid : Prop := Claim7.holds Tryz.pinned (.plain (OpenSpec.ofChange viewDraftsSpec)) viewDraftsCard

/-- THE TIED CARD OF 'sealringlaw24.ViewGrows'. -/
def viewGrowsCard : Claim7 := { stood := { row := viewGrowsRow, standIns := [], harness := (true, "bbd4f304a58cb03973f71871558477c5634de78b363852f243e6bfc1d7481da7"), looks := false }, kinds := [], alts := [], laidByText := true, laidKinds := [.data, .pinned], laidTests := true, laidLooks := .later }
def ViewGrowsCardSaid : Prop := Claim7.holds Tryz.pinned (.plain (OpenSpec.ofChange viewGrowsSpec)) viewGrowsCard

/-- THE TIED CARD OF 'sealringlaw24.ViewOpened'. -/
def viewOpenedCard : Claim7 := { stood := { row := viewOpenedRow, standIns := [], harness := (true, "bbd4f304a58cb03973f71871558477c5634de78b363852f243e6bfc1d7481da7"), looks := false }, kinds := [], alts := [], laidByText := true, laidKinds := [.data, .pinned], laidTests := true, laidLooks := .later }
def ViewOpenedCardSaid : Prop := Claim7.holds Tryz.pinned (.plain (OpenSpec.ofChange viewOpenedSpec)) viewOpenedCard

/-- THE TIED CARD OF 'sealringlaw24.ViewKnows'. -/
def viewKnowsCard : Claim7 := { stood := { row := viewKnowsRow, standIns := [], harness := (true, "bbd4f304a58cb03973f71871558477c5634de78b363852f243e6bfc1d7481da7"), looks := false }, kinds := [], alts := [], laidByText := true, laidKinds := [.data, .pinned], laidTests := true, laidLooks := .later }
def ViewKnowsCardSaid : Prop := Claim7.holds Tryz.pinned (.plain (OpenSpec.ofChange viewKnowsSpec)) viewKnowsCard

/-- THE SECOND FORM's CARD OF 'sealringlaw24.ViewExecutable'. -/
def viewExecutableUptoCard : Claim7 := { stood := { row := viewExecutableUptoRow, standIns := [], harness := (true, "bbd4f304a58cb03973f71871558477c5634de78b363852f243e6bfc1d7481da7"), looks := false }, kinds := [], alts := [], laidByText := true, laidKinds := [.data, .pinned], laidTests := true, laidLooks := .later }
def ViewExecutableUptoCardSaid : Prop := Claim7.holds Tryz.pinned (.plain (OpenSpec.upto viewExecutableSpec)) viewExecutableUptoCard

/-- THE SECOND FORM's CARD OF 'sealringlaw24.ViewLearns'. -/
def viewLearnsUptoCard : Claim7 := { stood := { row := viewLearnsUptoRow, standIns := [], harness := (true, "bbd4f304a58cb03973f71871558477c5634de78b363852f243e6bfc1d7481da7"), looks := false }, kinds := [], alts := [], laidByText := true, laidKinds := [.data, .pinned], laidTests := true, laidLooks := .later }
def ViewLearnsUptoCardSaid : Prop := Claim7.holds Tryz.pinned (.plain (OpenSpec.upto viewLearnsSpec)) viewLearnsUptoCard

/-- THE SECOND FORM's CARD OF 'sealringlaw24.ViewBlind'. -/
def viewBlindUptoCard : Claim7 := { stood := { row := viewBlindUptoRow, standIns := [], harness := (true, "bbd4f304a58cb03973f71871558477c5634de78b363852f243e6bfc1d7481da7"), looks := false }, kinds := [], alts := [], laidByText := true, laidKinds := [.data, .pinned], laidTests := true, laidLooks := .later }
def ViewBlindUptoCardSaid : Prop := Claim7.holds Tryz.pinned (.plain (OpenSpec.upto viewBlindSpec)) viewBlindUptoCard

/-- THE SECOND FORM's CARD OF 'sealringlaw24.ViewDrafts'. -/
def viewDraftsUptoCard : Claim7 := { stood := { row := viewDraftsUptoRow, standIns := [], harness := (true, "bbd4f304a58cb03973f71871558477c5634de78b363852f243e6bfc1d7481da7"), looks := false }, kinds := [], alts := [], laidByText := true, laidKinds := [.data, .pinned], laidTests := true, laidLooks := .later }
def ViewDraftsUptoCardSaid : Prop := Claim7.holds Tryz.pinned (.plain (OpenSpec.upto viewDraftsSpec)) viewDraftsUptoCard

/-- THE SECOND FORM's CARD OF 'sealringlaw24.ViewGrows'. -/
def viewGrowsUptoCard : Claim7 := { stood := { row := viewGrowsUptoRow, standIns := [], harness := (true, "bbd4f304a58cb03973f71871558477c5634de78b363852f243e6bfc1d7481da7"), looks := false }, kinds := [], alts := [], laidByText := true, laidKinds := [.data, .pinned], laidTests := true, laidLooks := .later }
def ViewGrowsUptoCardSaid : Prop := Claim7.holds Tryz.pinned (.plain (OpenSpec.upto viewGrowsSpec)) viewGrowsUptoCard

/-- THE SECOND FORM's CARD OF 'sealringlaw24.ViewOpened'. -/
def viewOpenedUptoCard : Claim7 := { stood := { row := viewOpenedUptoRow, standIns := [], harness := (true, "bbd4f304a58cb03973f71871558477c5634de78b363852f243e6bfc1d7481da7"), looks := false }, kinds := [], alts := [], laidByText := true, laidKinds := [.data, .pinned], laidTests := true, laidLooks := .later }
def ViewOpenedUptoCardSaid : Prop := Claim7.holds Tryz.pinned (.plain (OpenSpec.upto viewOpenedSpec)) viewOpenedUptoCard

/-- THE SECOND FORM's CARD OF 'sealringlaw24.ViewKnows'. -/
def viewKnowsUptoCard : Claim7 := { stood := { row := viewKnowsUptoRow, standIns := [], harness := (true, "bbd4f304a58cb03973f71871558477c5634de78b363852f243e6bfc1d7481da7"), looks := false }, kinds := [], alts := [], laidByText := true, laidKinds := [.data, .pinned], laidTests := true, laidLooks := .later }
def ViewKnowsUptoCardSaid : Prop := Claim7.holds Tryz.pinned (.plain (OpenSpec.upto viewKnowsSpec)) viewKnowsUptoCard
end Rows
end Go.Proofs.YtohjdamplbhdpaaGreatDoor
