/-
  DERIVED. GIVEN WITH THE SEED: THE PROGRAM's TIES (one call each: nine closed facts by the kernel) AND EACH ROW's TIE, after the 31st guide's Derived/Test/Toyas{Tie, Card}.lean. No idea stands in it: it is a product of the set-up. Laid BY PROGRAM, IN A SANDBOX (cutbox-door.mjs). By AI agents, Wed Nov 11 2026. No macro, syntax, notation, axiom, sorry.
-/
import Derived.Test.YtfcpigjmagbnkaaGreatDoorRows
import Derived.LaidByTextLater
import Derived.SevenTiedAt
import Derived.LaidSub
import Derived.LaidOnce
namespace Go.Proofs.YtfcpigjmagbnkaaGreatDoor
open Go
set_option maxRecDepth 100000
theorem seatTie1 : Tryz.prog.laidByTextLater [("math/bits.deBruijn64tab", Rows.laid_math_bits_deBruijn64tab), ("surd/radix.signs", Rows.laid_surd_radix_signs)] [.data, .widerDeep] true :=
  Program.laidByTextLater_by_one 19 8 65 (by kernel_rfl) (by kernel_rfl) (by kernel_rfl) (by kernel_rfl) (by kernel_rfl) (by kernel_rfl) (fun _ _ => by kernel_rfl)
theorem noOwnUnsafe : Tryz.pinned.checked.prog.headLifts.contains "ownunsafe" = false := by kernel_rfl
theorem tie : Tryz.prog.laidByTextLater [("surd/radix.signs", Rows.laid_surd_radix_signs)] [.widerDeep] true :=
  Program.laidByTextLater.sub seatTie1 ["surd/radix.signs"] (by kernel_rfl) (by kernel_rfl)
theorem cellsWidth_row_tie : Rows.cellsWidthRow.laidByTextAt .later Tryz.pinned [.widerDeep] true :=
  OpenClaim.laidByTextAt_later rfl rfl tie noOwnUnsafe
theorem tie2 : Tryz.prog.laidByTextLater [("math/bits.deBruijn64tab", Rows.laid_math_bits_deBruijn64tab), ("surd/radix.signs", Rows.laid_surd_radix_signs)] [.data, .widerDeep] true :=
  Program.laidByTextLater.sub seatTie1 ["math/bits.deBruijn64tab", "surd/radix.signs"] (by kernel_rfl) (by kernel_rfl)
theorem cellsGrid_row_tie : Rows.cellsGridRow.laidByTextAt .later Tryz.pinned [.data, .widerDeep] true :=
  OpenClaim.laidByTextAt_later rfl rfl tie2 noOwnUnsafe
theorem cellsNumbers_row_tie : Rows.cellsNumbersRow.laidByTextAt .later Tryz.pinned [.data, .widerDeep] true :=
  OpenClaim.laidByTextAt_later rfl rfl tie2 noOwnUnsafe
theorem cellsHalves_row_tie : Rows.cellsHalvesRow.laidByTextAt .later Tryz.pinned [.data, .widerDeep] true :=
  OpenClaim.laidByTextAt_later rfl rfl tie2 noOwnUnsafe
theorem cellsWidthUpto_row_tie : Rows.cellsWidthUptoRow.laidByTextAt .later Tryz.pinned [.widerDeep] true :=
  OpenClaim.laidByTextAt_later rfl rfl tie noOwnUnsafe
theorem cellsGridUpto_row_tie : Rows.cellsGridUptoRow.laidByTextAt .later Tryz.pinned [.data, .widerDeep] true :=
  OpenClaim.laidByTextAt_later rfl rfl tie2 noOwnUnsafe
theorem cellsNumbersUpto_row_tie : Rows.cellsNumbersUptoRow.laidByTextAt .later Tryz.pinned [.data, .widerDeep] true :=
  OpenClaim.laidByTextAt_later rfl rfl tie2 noOwnUnsafe
theorem cellsHalvesUpto_row_tie : Rows.cellsHalvesUptoRow.laidByTextAt .later Tryz.pinned [.data, .widerDeep] true :=
  OpenClaim.laidByTextAt_later rfl rfl tie2 noOwnUnsafe
end Go.Proofs.YtfcpigjmagbnkaaGreatDoor
