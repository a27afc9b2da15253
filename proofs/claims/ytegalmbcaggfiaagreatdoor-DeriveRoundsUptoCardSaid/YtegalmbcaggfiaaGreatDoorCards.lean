/-
  DERIVED. GIVEN WITH THE SEED: THE CARDS: each row of YtegalmbcaggfiaaGreatDoorRows.lean that lists a variable, with what it lists TIED to the program's text (the seventh form; the later family's looks); each row that meets fmt, with fmt's text TOLD by the authors' own Lean function (tested against real Go, not proved from fmt's source: count such statements apart). THE CARD IS WHAT COUNTS. Prove the row's statement (the work); the ties are given (YtegalmbcaggfiaaGreatDoorTie.lean); close each card by the builder's one call (the guide's Derived/Test/ToyasCard.lean, 'card_holds'). Laid BY PROGRAM, IN A SANDBOX (cutbox-door.mjs). By AI agents, Wed Nov 11 2026. No macro, syntax, notation, axiom, sorry.
-/
import Derived.Test.YtegalmbcaggfiaaGreatDoorRows
import GoSem.ClaimSeven
namespace Go.Proofs.YtegalmbcaggfiaaGreatDoor
namespace Rows

/-- THE TIED CARD OF 'porismlaw28.DeriveRounds'. -/
def deriveRoundsCard : Claim7 := { stood := { row := deriveRoundsRow, standIns := [], harness := (true, "835030653011d47d82d5f441d4469c870359bfbf743f5972ad791c336f19d122"), looks := true }, kinds := [], alts := [], laidByText := true, laidKinds := [.widerDeep, .data, .widerDeep], laidTests := true, laidLooks := .later }
def DeriveRoundsCardSaid : Prop := Claim7.holds Tryz.pinned (.plain (OpenSpec.ofChange deriveRoundsSpec)) deriveRoundsCard

/-- THE TIED CARD OF 'porismlaw28.DeriveSequences'. -/
def deriveSequencesCard : Claim7 := { stood := { row := deriveSequencesRow, standIns := [], harness := (true, "835030653011d47d82d5f441d4469c870359bfbf743f5972ad791c336f19d122"), looks := true }, kinds := [], alts := [], laidByText := true, laidKinds := [.widerDeep, .data, .widerDeep], laidTests := true, laidLooks := .later }
def DeriveSequencesCardSaid : Prop := Claim7.holds Tryz.pinned (.plain (OpenSpec.ofChange deriveSequencesSpec)) deriveSequencesCard

/-- THE SECOND FORM's CARD OF 'porismlaw28.DeriveRounds'. -/
def deriveRoundsUptoCard : Claim7 := { stood := { row := deriveRoundsUptoRow, standIns := [], harness := (true, "835030653011d47d82d5f441d4469c870359bfbf743f5972ad791c336f19d122"), looks := true }, kinds := [], alts := [], laidByText := true, laidKinds := [.widerDeep, .data, .widerDeep], laidTests := true, laidLooks := .later }
def DeriveRoundsUptoCardSaid : Prop := Claim7.holds Tryz.pinned (.plain (OpenSpec.upto deriveRoundsSpec)) deriveRoundsUptoCard

/-- THE SECOND FORM's CARD OF 'porismlaw28.DeriveSequences'. -/
def deriveSequencesUptoCard : Claim7 := { stood := { row := deriveSequencesUptoRow, standIns := [], harness := (true, "835030653011d47d82d5f441d4469c870359bfbf743f5972ad791c336f19d122"), looks := true }, kinds := [], alts := [], laidByText := true, laidKinds := [.widerDeep, .data, .widerDeep], laidTests := true, laidLooks := .later }
def DeriveSequencesUptoCardSaid : Prop := Claim7.holds Tryz.pinned (.plain (OpenSpec.upto deriveSequencesSpec)) deriveSequencesUptoCard
end Rows
end Go.Proofs.YtegalmbcaggfiaaGreatDoor
