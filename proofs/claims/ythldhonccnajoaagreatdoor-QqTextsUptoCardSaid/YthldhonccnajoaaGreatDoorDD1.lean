/-
  surdref04: Digits, Undigits.
-/
import Derived.Test.YthldhonccnajoaaGreatDoorDD0
import Derived.Test.YthldhonccnajoaaGreatDoorGG
import Derived.Test.YthldhonccnajoaaGreatDoorGE
import Derived.Test.YthldhonccnajoaaGreatDoorGC
import Derived.Test.YthldhonccnajoaaGreatDoorNM8
import Derived.Test.YthldhonccnajoaaGreatDoorDG
namespace Go.Proofs.YthldhonccnajoaaGreatDoor
open Go Go.RowKit Ab
set_option linter.unusedSimpArgs false
set_option linter.unusedVariables false
set_option maxHeartbeats 10000000
theorem unD_pos {l : List Nat} {b : Nat} (hb : 2 ≤ b) (h : Lt b l) : unD l b = dg B (nv b l) ∧ unE l b = 0 := by
  have h2 : 2 ≤ b ∧ l.all (· < b) = true := ⟨hb, List.all_eq_true.2 fun x hx => by simpa using h x hx⟩
  exact ⟨if_pos h2, if_pos h2⟩
end Go.Proofs.YthldhonccnajoaaGreatDoor
