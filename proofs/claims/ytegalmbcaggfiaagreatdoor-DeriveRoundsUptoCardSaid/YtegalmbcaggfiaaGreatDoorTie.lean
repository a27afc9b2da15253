/-
  DERIVED. GIVEN WITH THE SEED: THE PROGRAM's TIES (one call each: nine closed facts by the kernel) AND EACH ROW's TIE, after the 31st guide's Derived/Test/Toyas{Tie, Card}.lean. No idea stands in it: it is a product of the set-up. Laid BY PROGRAM, IN A SANDBOX (cutbox-door.mjs). By AI agents, Wed Nov 11 2026. No macro, syntax, notation, axiom, sorry.
-/
import Derived.Test.YtegalmbcaggfiaaGreatDoorRows
import Derived.LaidByTextLater
import Derived.SevenTiedAt
import Derived.LaidSub
import Derived.LaidOnce
namespace Go.Proofs.YtegalmbcaggfiaaGreatDoor
open Go
set_option maxRecDepth 100000
theorem seatTie1 : Tryz.prog.laidByTextLater [("porism/lattice.keys", Rows.laid_porism_lattice_keys), ("porism/porismref03.Keys", Rows.laid_porism_porismref03_Keys), ("porism/value.words", Rows.laid_porism_value_words)] [.widerDeep, .data, .widerDeep] true :=
  Program.laidByTextLater_by_one 24 8 11 (by kernel_rfl) (by kernel_rfl) (by kernel_rfl) (by kernel_rfl) (by kernel_rfl) (by kernel_rfl) (fun _ _ => by kernel_rfl)
theorem noOwnUnsafe : Tryz.pinned.checked.prog.headLifts.contains "ownunsafe" = false := by kernel_rfl
theorem tie : Tryz.prog.laidByTextLater [("porism/lattice.keys", Rows.laid_porism_lattice_keys), ("porism/porismref03.Keys", Rows.laid_porism_porismref03_Keys), ("porism/value.words", Rows.laid_porism_value_words)] [.widerDeep, .data, .widerDeep] true :=
  Program.laidByTextLater.sub seatTie1 ["porism/lattice.keys", "porism/porismref03.Keys", "porism/value.words"] (by kernel_rfl) (by kernel_rfl)
theorem deriveRounds_row_tie : Rows.deriveRoundsRow.laidByTextAt .later Tryz.pinned [.widerDeep, .data, .widerDeep] true :=
  OpenClaim.laidByTextAt_later rfl rfl tie noOwnUnsafe
theorem deriveSequences_row_tie : Rows.deriveSequencesRow.laidByTextAt .later Tryz.pinned [.widerDeep, .data, .widerDeep] true :=
  OpenClaim.laidByTextAt_later rfl rfl tie noOwnUnsafe
theorem deriveRoundsUpto_row_tie : Rows.deriveRoundsUptoRow.laidByTextAt .later Tryz.pinned [.widerDeep, .data, .widerDeep] true :=
  OpenClaim.laidByTextAt_later rfl rfl tie noOwnUnsafe
theorem deriveSequencesUpto_row_tie : Rows.deriveSequencesUptoRow.laidByTextAt .later Tryz.pinned [.widerDeep, .data, .widerDeep] true :=
  OpenClaim.laidByTextAt_later rfl rfl tie noOwnUnsafe
end Go.Proofs.YtegalmbcaggfiaaGreatDoor
