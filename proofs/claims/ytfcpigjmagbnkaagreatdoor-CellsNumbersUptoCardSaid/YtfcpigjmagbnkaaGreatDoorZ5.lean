/-
  zz, surdref07: quotients.
-/
import Derived.Test.YtfcpigjmagbnkaaGreatDoorZ2
import Derived.Test.YtfcpigjmagbnkaaGreatDoorGG
import Derived.Test.YtfcpigjmagbnkaaGreatDoorGE
import Derived.Test.YtfcpigjmagbnkaaGreatDoorGC
import Derived.Test.YtfcpigjmagbnkaaGreatDoorNM8
namespace Go.Proofs.YtfcpigjmagbnkaaGreatDoor
open Go Go.RowKit Ab
set_option linter.unusedSimpArgs false
set_option linter.unusedVariables false
set_option maxHeartbeats 10000000
theorem sgz_neg {z : Int} : (sgz z < 0) = (z < 0) := by
  unfold sgz; split
  · rename_i h; exact propext ⟨fun _ => h, fun _ => by decide⟩
  · rename_i h; split <;> exact propext ⟨fun h' => absurd h' (by decide), fun h' => absurd h' h⟩
end Go.Proofs.YtfcpigjmagbnkaaGreatDoor
