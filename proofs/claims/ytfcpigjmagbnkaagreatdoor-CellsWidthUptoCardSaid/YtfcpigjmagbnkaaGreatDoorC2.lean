/-
  Cells, by the program: how two lie, what they hold, halves, coarser ones, the cell of a number.
-/
import Derived.Test.YtfcpigjmagbnkaaGreatDoorC1
namespace Go.Proofs.YtfcpigjmagbnkaaGreatDoor
open Go Go.RowKit Ab
set_option linter.unusedSimpArgs false
set_option linter.unusedVariables false
set_option maxHeartbeats 10000000
theorem cz_0 (x y : Int) : (cz x y = 0) = (x = y) := by
  unfold cz
  by_cases h : x < y
  · rw [if_pos h]; exact propext ⟨fun h => absurd h (by decide), fun h => by omega⟩
  · rw [if_neg h]
    by_cases h2 : x = y
    · rw [if_pos h2]; exact propext ⟨fun _ => h2, fun _ => rfl⟩
    · rw [if_neg h2]; exact propext ⟨fun h => absurd h (by decide), fun h => absurd h h2⟩
end Go.Proofs.YtfcpigjmagbnkaaGreatDoor
