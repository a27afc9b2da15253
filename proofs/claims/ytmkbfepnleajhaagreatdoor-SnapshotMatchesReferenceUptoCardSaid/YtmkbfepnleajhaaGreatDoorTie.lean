/-
  DERIVED. GIVEN WITH THE SEED: THE PROGRAM's TIES (one call each: nine closed facts by the kernel) AND EACH ROW's TIE, after the 31st guide's Derived/Test/Toyas{Tie, Card}.lean. No idea stands in it: it is a product of the set-up. Laid BY PROGRAM, IN A SANDBOX (cutbox-door.mjs). By AI agents, Wed Nov 11 2026. No macro, syntax, notation, axiom, sorry.
-/
import Derived.Test.YtmkbfepnleajhaaGreatDoorRows
import Derived.LaidByTextLater
import Derived.SevenTiedAt
import Derived.LaidSub
import Derived.LaidOnce
namespace Go.Proofs.YtmkbfepnleajhaaGreatDoor
open Go
set_option maxRecDepth 100000
theorem seatTie1 : Tryz.prog.laidByTextLater [("porism/lattice.keys", Rows.laid_porism_lattice_keys), ("porism/porismref03.Keys", Rows.laid_porism_porismref03_Keys), ("porism/value.words", Rows.laid_porism_value_words)] [.widerDeep, .data, .widerDeep] true :=
  Program.laidByTextLater_by_one 24 8 11 (by kernel_rfl) (by kernel_rfl) (by kernel_rfl) (by kernel_rfl) (by kernel_rfl) (by kernel_rfl) (fun _ _ => by kernel_rfl)
theorem noOwnUnsafe : Tryz.pinned.checked.prog.headLifts.contains "ownunsafe" = false := by kernel_rfl
theorem tie : Tryz.prog.laidByTextLater [("porism/lattice.keys", Rows.laid_porism_lattice_keys), ("porism/porismref03.Keys", Rows.laid_porism_porismref03_Keys), ("porism/value.words", Rows.laid_porism_value_words)] [.widerDeep, .data, .widerDeep] true :=
  Program.laidByTextLater.sub seatTie1 ["porism/lattice.keys", "porism/porismref03.Keys", "porism/value.words"] (by kernel_rfl) (by kernel_rfl)
theorem snapshotMatchesReference_row_tie : Rows.snapshotMatchesReferenceRow.laidByTextAt .later Tryz.pinned [.widerDeep, .data, .widerDeep] true :=
  OpenClaim.laidByTextAt_later rfl rfl tie noOwnUnsafe
theorem snapshotModelMatchesReference_row_tie : Rows.snapshotModelMatchesReferenceRow.laidByTextAt .later Tryz.pinned [.widerDeep, .data, .widerDeep] true :=
  OpenClaim.laidByTextAt_later rfl rfl tie noOwnUnsafe
theorem snapshotSolutions_row_tie : Rows.snapshotSolutionsRow.laidByTextAt .later Tryz.pinned [.widerDeep, .data, .widerDeep] true :=
  OpenClaim.laidByTextAt_later rfl rfl tie noOwnUnsafe
theorem snapshotFixed_row_tie : Rows.snapshotFixedRow.laidByTextAt .later Tryz.pinned [.widerDeep, .data, .widerDeep] true :=
  OpenClaim.laidByTextAt_later rfl rfl tie noOwnUnsafe
theorem snapshotLeast_row_tie : Rows.snapshotLeastRow.laidByTextAt .later Tryz.pinned [.widerDeep, .data, .widerDeep] true :=
  OpenClaim.laidByTextAt_later rfl rfl tie noOwnUnsafe
theorem snapshotMonotone_row_tie : Rows.snapshotMonotoneRow.laidByTextAt .later Tryz.pinned [.widerDeep, .data, .widerDeep] true :=
  OpenClaim.laidByTextAt_later rfl rfl tie noOwnUnsafe
theorem snapshotOrder_row_tie : Rows.snapshotOrderRow.laidByTextAt .later Tryz.pinned [.widerDeep, .data, .widerDeep] true :=
  OpenClaim.laidByTextAt_later rfl rfl tie noOwnUnsafe
theorem snapshotParts_row_tie : Rows.snapshotPartsRow.laidByTextAt .later Tryz.pinned [.widerDeep, .data, .widerDeep] true :=
  OpenClaim.laidByTextAt_later rfl rfl tie noOwnUnsafe
theorem snapshotNames_row_tie : Rows.snapshotNamesRow.laidByTextAt .later Tryz.pinned [.widerDeep, .data, .widerDeep] true :=
  OpenClaim.laidByTextAt_later rfl rfl tie noOwnUnsafe
theorem snapshotMatchesReferenceUpto_row_tie : Rows.snapshotMatchesReferenceUptoRow.laidByTextAt .later Tryz.pinned [.widerDeep, .data, .widerDeep] true :=
  OpenClaim.laidByTextAt_later rfl rfl tie noOwnUnsafe
theorem snapshotModelMatchesReferenceUpto_row_tie : Rows.snapshotModelMatchesReferenceUptoRow.laidByTextAt .later Tryz.pinned [.widerDeep, .data, .widerDeep] true :=
  OpenClaim.laidByTextAt_later rfl rfl tie noOwnUnsafe
theorem snapshotSolutionsUpto_row_tie : Rows.snapshotSolutionsUptoRow.laidByTextAt .later Tryz.pinned [.widerDeep, .data, .widerDeep] true :=
  OpenClaim.laidByTextAt_later rfl rfl tie noOwnUnsafe
theorem snapshotFixedUpto_row_tie : Rows.snapshotFixedUptoRow.laidByTextAt .later Tryz.pinned [.widerDeep, .data, .widerDeep] true :=
  OpenClaim.laidByTextAt_later rfl rfl tie noOwnUnsafe
theorem snapshotLeastUpto_row_tie : Rows.snapshotLeastUptoRow.laidByTextAt .later Tryz.pinned [.widerDeep, .data, .widerDeep] true :=
  OpenClaim.laidByTextAt_later rfl rfl tie noOwnUnsafe
theorem snapshotMonotoneUpto_row_tie : Rows.snapshotMonotoneUptoRow.laidByTextAt .later Tryz.pinned [.widerDeep, .data, .widerDeep] true :=
  OpenClaim.laidByTextAt_later rfl rfl tie noOwnUnsafe
theorem snapshotOrderUpto_row_tie : Rows.snapshotOrderUptoRow.laidByTextAt .later Tryz.pinned [.widerDeep, .data, .widerDeep] true :=
  OpenClaim.laidByTextAt_later rfl rfl tie noOwnUnsafe
theorem snapshotPartsUpto_row_tie : Rows.snapshotPartsUptoRow.laidByTextAt .later Tryz.pinned [.widerDeep, .data, .widerDeep] true :=
  OpenClaim.laidByTextAt_later rfl rfl tie noOwnUnsafe
theorem snapshotNamesUpto_row_tie : Rows.snapshotNamesUptoRow.laidByTextAt .later Tryz.pinned [.widerDeep, .data, .widerDeep] true :=
  OpenClaim.laidByTextAt_later rfl rfl tie noOwnUnsafe
end Go.Proofs.YtmkbfepnleajhaaGreatDoor
