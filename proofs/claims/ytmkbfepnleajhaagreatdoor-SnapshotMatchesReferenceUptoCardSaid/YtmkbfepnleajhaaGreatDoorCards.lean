/-
  DERIVED. GIVEN WITH THE SEED: THE CARDS: each row of YtmkbfepnleajhaaGreatDoorRows.lean that lists a variable, with what it lists TIED to the program's text (the seventh form; the later family's looks); each row that meets fmt, with fmt's text TOLD by the authors' own Lean function (tested against real Go, not proved from fmt's source: count such statements apart). THE CARD IS WHAT COUNTS. Prove the row's statement (the work); the ties are given (YtmkbfepnleajhaaGreatDoorTie.lean); close each card by the builder's one call (the guide's Derived/Test/ToyasCard.lean, 'card_holds'). Laid BY PROGRAM, IN A SANDBOX (cutbox-door.mjs). By AI agents, Wed Nov 11 2026. No macro, syntax, notation, axiom, sorry.
-/
import Derived.Test.YtmkbfepnleajhaaGreatDoorRows
import GoSem.ClaimSeven
namespace Go.Proofs.YtmkbfepnleajhaaGreatDoor
namespace Rows

/-- THE TIED CARD OF 'porismlaw13.SnapshotMatchesReference'. -/
def snapshotMatchesReferenceCard : Claim7 := { stood := { row := snapshotMatchesReferenceRow, standIns := [], harness := (true, "2d2ec39e57c8fb797666fb7a0987c0d2c4fcd952b5bbd849cdc90b0f8fddd653"), looks := true }, kinds := [], alts := [], laidByText := true, laidKinds := [.widerDeep, .data, .widerDeep], laidTests := true, laidLooks := .later }
def SnapshotMatchesReferenceCardSaid : Prop := Claim7.holds Tryz.pinned (.plain (OpenSpec.ofChange snapshotMatchesReferenceSpec)) snapshotMatchesReferenceCard

/-- THE TIED CARD OF 'porismlaw13.SnapshotModelMatchesReference'. -/
def snapshotModelMatchesReferenceCard : Claim7 := { stood := { row := snapshotModelMatchesReferenceRow, standIns := [], harness := (true, "2d2ec39e57c8fb797666fb7a0987c0d2c4fcd952b5bbd849cdc90b0f8fddd653"), looks := true }, kinds := [], alts := [], laidByText := true, laidKinds := [.widerDeep, .data, .widerDeep], laidTests := true, laidLooks := .later }
def SnapshotModelMatchesReferenceCardSaid : Prop := Claim7.holds Tryz.pinned (.plain (OpenSpec.ofChange snapshotModelMatchesReferenceSpec)) snapshotModelMatchesReferenceCard

/-- THE TIED CARD OF 'porismlaw13.SnapshotSolutions'. -/
def snapshotSolutionsCard : Claim7 := { stood := { row := snapshotSolutionsRow, standIns := [], harness := (true, "2d2ec39e57c8fb797666fb7a0987c0d2c4fcd952b5bbd849cdc90b0f8fddd653"), looks := true }, kinds := [], alts := [], laidByText := true, laidKinds := [.widerDeep, .data, .widerDeep], laidTests := true, laidLooks := .later }
def SnapshotSolutionsCardSaid : Prop := Claim7.holds Tryz.pinned (.plain (OpenSpec.ofChange snapshotSolutionsSpec)) snapshotSolutionsCard

/-- THE TIED CARD OF 'porismlaw13.SnapshotFixed'. -/
def snapshotFixedCard : Claim7 := { stood := { row := snapshotFixedRow, standIns := [], harness := (true, "2d2ec39e57c8fb797666fb7a0987c0d2c4fcd952b5bbd849cdc90b0f8fddd653"), looks := true }, kinds := [], alts := [], laidByText := true, laidKinds := [.widerDeep, .data, .widerDeep], laidTests := true, laidLooks := .later }
def SnapshotFixedCardSaid : Prop := Claim7.holds Tryz.pinned (.plain (OpenSpec.ofChange snapshotFixedSpec)) snapshotFixedCard

/-- THE TIED CARD OF 'porismlaw13.SnapshotLeast'. -/
def snapshotLeastCard : Claim7 := { stood := { row := snapshotLeastRow, standIns := [], harness := (true, "2d2ec39e57c8fb797666fb7a0987c0d2c4fcd952b5bbd849cdc90b0f8fddd653"), looks := true }, kinds := [], alts := [], laidByText := true, laidKinds := [.widerDeep, .data, .widerDeep], laidTests := true, laidLooks := .later }
def SnapshotLeastCardSaid : Prop := Claim7.holds Tryz.pinned (.plain (OpenSpec.ofChange snapshotLeastSpec)) snapshotLeastCard

/-- THE TIED CARD OF 'porismlaw13.SnapshotMonotone'. -/
def snapshotMonotoneCard : Claim7 := { stood := { row := snapshotMonotoneRow, standIns := [], harness := (true, "2d2ec39e57c8fb797666fb7a0987c0d2c4fcd952b5bbd849cdc90b0f8fddd653"), looks := true }, kinds := [], alts := [], laidByText := true, laidKinds := [.widerDeep, .data, .widerDeep], laidTests := true, laidLooks := .later }
def SnapshotMonotoneCardSaid : Prop := Claim7.holds Tryz.pinned (.plain (OpenSpec.ofChange snapshotMonotoneSpec)) snapshotMonotoneCard

/-- THE TIED CARD OF 'porismlaw13.SnapshotOrder'. -/
def snapshotOrderCard : Claim7 := { stood := { row := snapshotOrderRow, standIns := [], harness := (true, "2d2ec39e57c8fb797666fb7a0987c0d2c4fcd952b5bbd849cdc90b0f8fddd653"), looks := true }, kinds := [], alts := [], laidByText := true, laidKinds := [.widerDeep, .data, .widerDeep], laidTests := true, laidLooks := .later }
def SnapshotOrderCardSaid : Prop := Claim7.holds Tryz.pinned (.plain (OpenSpec.ofChange snapshotOrderSpec)) snapshotOrderCard

/-- THE TIED CARD OF 'porismlaw13.SnapshotParts'. -/
def snapshotPartsCard : Claim7 := { stood := { row := snapshotPartsRow, standIns := [], harness := (true, "2d2ec39e57c8fb797666fb7a0987c0d2c4fcd952b5bbd849cdc90b0f8fddd653"), looks := true }, kinds := [], alts := [], laidByText := true, laidKinds := [.widerDeep, .data, .widerDeep], laidTests := true, laidLooks := .later }
def SnapshotPartsCardSaid : Prop := Claim7.holds Tryz.pinned (.plain (OpenSpec.ofChange snapshotPartsSpec)) snapshotPartsCard

/-- THE TIED CARD OF 'porismlaw13.SnapshotNames'. -/
def snapshotNamesCard : Claim7 := { stood := { row := snapshotNamesRow, standIns := [], harness := (true, "2d2ec39e57c8fb797666fb7a0987c0d2c4fcd952b5bbd849cdc90b0f8fddd653"), looks := true }, kinds := [], alts := [], laidByText := true, laidKinds := [.widerDeep, .data, .widerDeep], laidTests := true, laidLooks := .later }
def SnapshotNamesCardSaid : Prop := Claim7.holds Tryz.pinned (.plain (OpenSpec.ofChange snapshotNamesSpec)) snapshotNamesCard

/-- THE SECOND FORM's CARD OF 'porismlaw13.SnapshotMatchesReference'. -/
def snapshotMatchesReferenceUptoCard : Claim7 := { stood := { row := snapshotMatchesReferenceUptoRow, standIns := [], harness := (true, "2d2ec39e57c8fb797666fb7a0987c0d2c4fcd952b5bbd849cdc90b0f8fddd653"), looks := true }, kinds := [], alts := [], laidByText := true, laidKinds := [.widerDeep, .data, .widerDeep], laidTests := true, laidLooks := .later }
def SnapshotMatchesReferenceUptoCardSaid : Prop := Claim7.holds Tryz.pinned (.plain (OpenSpec.upto snapshotMatchesReferenceSpec)) snapshotMatchesReferenceUptoCard

/-- THE SECOND FORM's CARD OF 'porismlaw13.SnapshotModelMatchesReference'. -/
def snapshotModelMatchesReferenceUptoCard : Claim7 := { stood := { row := snapshotModelMatchesReferenceUptoRow, standIns := [], harness := (true, "2d2ec39e57c8fb797666fb7a0987c0d2c4fcd952b5bbd849cdc90b0f8fddd653"), looks := true }, kinds := [], alts := [], laidByText := true, laidKinds := [.widerDeep, .data, .widerDeep], laidTests := true, laidLooks := .later }
def SnapshotModelMatchesReferenceUptoCardSaid : Prop := Claim7.holds Tryz.pinned (.plain (OpenSpec.upto snapshotModelMatchesReferenceSpec)) snapshotModelMatchesReferenceUptoCard

/-- THE SECOND FORM's CARD OF 'porismlaw13.SnapshotSolutions'. -/
def snapshotSolutionsUptoCard : Claim7 := { stood := { row := snapshotSolutionsUptoRow, standIns := [], harness := (true, "2d2ec39e57c8fb797666fb7a0987c0d2c4fcd952b5bbd849cdc90b0f8fddd653"), looks := true }, kinds := [], alts := [], laidByText := true, laidKinds := [.widerDeep, .data, .widerDeep], laidTests := true, laidLooks := .later }
def SnapshotSolutionsUptoCardSaid : Prop := Claim7.holds Tryz.pinned (.plain (OpenSpec.upto snapshotSolutionsSpec)) snapshotSolutionsUptoCard

/-- THE SECOND FORM's CARD OF 'porismlaw13.SnapshotFixed'. -/
def snapshotFixedUptoCard : Claim7 := { stood := { row := snapshotFixedUptoRow, standIns := [], harness := (true, "2d2ec39e57c8fb797666fb7a0987c0d2c4fcd952b5bbd849cdc90b0f8fddd653"), looks := true }, kinds := [], alts := [], laidByText := true, laidKinds := [.widerDeep, .data, .widerDeep], laidTests := true, laidLooks := .later }
def SnapshotFixedUptoCardSaid : Prop := Claim7.holds Tryz.pinned (.plain (OpenSpec.upto snapshotFixedSpec)) snapshotFixedUptoCard

/-- THE SECOND FORM's CARD OF 'porismlaw13.SnapshotLeast'. -/
def snapshotLeastUptoCard : Claim7 := { stood := { row := snapshotLeastUptoRow, standIns := [], harness := (true, "2d2ec39e57c8fb797666fb7a0987c0d2c4fcd952b5bbd849cdc90b0f8fddd653"), looks := true }, kinds := [], alts := [], laidByText := true, laidKinds := [.widerDeep, .data, .widerDeep], laidTests := true, laidLooks := .later }
def SnapshotLeastUptoCardSaid : Prop := Claim7.holds Tryz.pinned (.plain (OpenSpec.upto snapshotLeastSpec)) snapshotLeastUptoCard

/-- THE SECOND FORM's CARD OF 'porismlaw13.SnapshotMonotone'. -/
def snapshotMonotoneUptoCard : Claim7 := { stood := { row := snapshotMonotoneUptoRow, standIns := [], harness := (true, "2d2ec39e57c8fb797666fb7a0987c0d2c4fcd952b5bbd849cdc90b0f8fddd653"), looks := true }, kinds := [], alts := [], laidByText := true, laidKinds := [.widerDeep, .data, .widerDeep], laidTests := true, laidLooks := .later }
def SnapshotMonotoneUptoCardSaid : Prop := Claim7.holds Tryz.pinned (.plain (OpenSpec.upto snapshotMonotoneSpec)) snapshotMonotoneUptoCard

/-- THE SECOND FORM's CARD OF 'porismlaw13.SnapshotOrder'. -/
def snapshotOrderUptoCard : Claim7 := { stood := { row := snapshotOrderUptoRow, standIns := [], harness := (true, "2d2ec39e57c8fb797666fb7a0987c0d2c4fcd952b5bbd849cdc90b0f8fddd653"), looks := true }, kinds := [], alts := [], laidByText := true, laidKinds := [.widerDeep, .data, .widerDeep], laidTests := true, laidLooks := .later }
def SnapshotOrderUptoCardSaid : Prop := Claim7.holds Tryz.pinned (.plain (OpenSpec.upto snapshotOrderSpec)) snapshotOrderUptoCard

/-- THE SECOND FORM's CARD OF 'porismlaw13.SnapshotParts'. -/
def snapshotPartsUptoCard : Claim7 := { stood := { row := snapshotPartsUptoRow, standIns := [], harness := (true, "2d2ec39e57c8fb797666fb7a0987c0d2c4fcd952b5bbd849cdc90b0f8fddd653"), looks := true }, kinds := [], alts := [], laidByText := true, laidKinds := [.widerDeep, .data, .widerDeep], laidTests := true, laidLooks := .later }
def SnapshotPartsUptoCardSaid : Prop := Claim7.holds Tryz.pinned (.plain (OpenSpec.upto snapshotPartsSpec)) snapshotPartsUptoCard

/-- THE SECOND FORM's CARD OF 'porismlaw13.SnapshotNames'. -/
def snapshotNamesUptoCard : Claim7 := { stood := { row := snapshotNamesUptoRow, standIns := [], harness := (true, "2d2ec39e57c8fb797666fb7a0987c0d2c4fcd952b5bbd849cdc90b0f8fddd653"), looks := true }, kinds := [], alts := [], laidByText := true, laidKinds := [.widerDeep, .data, .widerDeep], laidTests := true, laidLooks := .later }
def SnapshotNamesUptoCardSaid : Prop := Claim7.holds Tryz.pinned (.plain (OpenSpec.upto snapshotNamesSpec)) snapshotNamesUptoCard
end Rows
end Go.Proofs.YtmkbfepnleajhaaGreatDoor
