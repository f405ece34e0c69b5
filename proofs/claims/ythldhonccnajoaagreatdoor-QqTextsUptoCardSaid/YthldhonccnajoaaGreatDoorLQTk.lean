/-
  surdlaw08: the first twelve words.
-/
import Derived.Test.YthldhonccnajoaaGreatDoorQD
namespace Go.Proofs.YthldhonccnajoaaGreatDoor
open Go Go.RowKit Ab
set_option linter.unusedSimpArgs false
set_option linter.unusedVariables false
set_option maxHeartbeats 10000000
theorem take12 {x : List Nat} (h : Wd x) : ∃ y, x.take 12 = y ∧ Wd y ∧ y.length ≤ 12 := ⟨_, rfl, Wd_take h 12, by rw [List.length_take]; omega⟩
end Go.Proofs.YthldhonccnajoaaGreatDoor
