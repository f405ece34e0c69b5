/-
  Plain: texts of numbers in base ten, and back.
-/
import Derived.Test.YthldhonccnajoaaGreatDoorRT
namespace Go.Proofs.YthldhonccnajoaaGreatDoor
set_option linter.unusedSimpArgs false
set_option linter.unusedVariables false
set_option maxHeartbeats 10000000
def dvl (c : UInt8) : Nat := c.toNat - 48
def isDg (c : UInt8) : Bool := decide (48 ≤ c.toNat ∧ c.toNat ≤ 57)
theorem dvl_lt {c : UInt8} (h : isDg c = true) : dvl c < 10 := by unfold isDg at h; rw [decide_eq_true_eq] at h; unfold dvl; omega
def dgsT (t : List UInt8) : List Nat := t.reverse.map dvl
def numT (t : List UInt8) : Nat := nv 10 (dgsT t)
def okN (t : List UInt8) : Bool := decide (t ≠ [] ∧ ¬ (1 < t.length ∧ t.getD 0 0 = 48)) && t.all isDg
theorem okN_iff {t : List UInt8} : okN t = true ↔ t ≠ [] ∧ ¬ (1 < t.length ∧ t.getD 0 0 = 48) ∧ ∀ c, c ∈ t → isDg c = true := by
  unfold okN
  rw [Bool.and_eq_true, decide_eq_true_eq, List.all_eq_true, and_assoc]
theorem dgsT_lt {t : List UInt8} (h : ∀ c, c ∈ t → isDg c = true) : Lt 10 (dgsT t) := fun x hx => by
  obtain ⟨c, hc, rfl⟩ := List.mem_map.1 hx
  exact dvl_lt (h c (List.mem_reverse.1 hc))
def ngT (s : List UInt8) : Bool := s.head? == some 45
def bdT (s : List UInt8) : List UInt8 := if ngT s then s.drop 1 else s
end Go.Proofs.YthldhonccnajoaaGreatDoor
