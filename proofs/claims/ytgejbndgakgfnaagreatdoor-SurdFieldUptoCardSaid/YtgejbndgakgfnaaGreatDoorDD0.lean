/-
  Plain: a number's digits, doubled digit by digit.
-/
import Derived.Test.YtgejbndgakgfnaaGreatDoorGD
namespace Go.Proofs.YtgejbndgakgfnaaGreatDoor
set_option linter.unusedSimpArgs false
set_option linter.unusedVariables false
set_option maxHeartbeats 10000000
def unD (l : List Nat) (b : Nat) : List Nat := if 2 ≤ b ∧ l.all (· < b) then dg 18446744073709551616 (nv b l) else []
def unE (l : List Nat) (b : Nat) : Int := if 2 ≤ b ∧ l.all (· < b) then 0 else 3
end Go.Proofs.YtgejbndgakgfnaaGreatDoor
