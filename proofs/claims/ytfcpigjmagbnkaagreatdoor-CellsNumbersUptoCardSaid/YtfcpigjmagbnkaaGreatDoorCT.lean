/-
  Plain numbers: how often 2 divides one.
-/
import Derived.Test.YtfcpigjmagbnkaaGreatDoorGD
namespace Go.Proofs.YtfcpigjmagbnkaaGreatDoor
open Go
set_option linter.unusedSimpArgs false
set_option linter.unusedVariables false
set_option maxHeartbeats 10000000
def ct (v : Nat) : Nat := if h : v = 0 then 0 else if v % 2 = 1 then 0 else ct (v / 2) + 1
termination_by v
decreasing_by omega
theorem ct_0 : ct 0 = 0 := by unfold ct; rfl
theorem ct_mk (k m : Nat) : ct (2 ^ k * (2 * m + 1)) = k := by
  induction k with
  | zero => unfold ct; rw [dif_neg (by simp), if_pos (by simp)]
  | succ k ih =>
    have h0 : 2 ^ (k + 1) * (2 * m + 1) = 2 * (2 ^ k * (2 * m + 1)) := by rw [Nat.pow_succ, Nat.mul_comm (2 ^ k) 2, Nat.mul_assoc]
    have hp : 0 < 2 ^ k * (2 * m + 1) := Nat.mul_pos (Nat.pow_pos (by decide)) (by omega)
    unfold ct
    rw [h0, dif_neg (by omega), if_neg (by omega), Nat.mul_div_cancel_left _ (by decide), ih]
theorem ct_ex {v : Nat} (h : v ≠ 0) : ∃ m, v = 2 ^ ct v * (2 * m + 1) := by
  induction v using Nat.strongRecOn with
  | _ v ih =>
    by_cases h1 : v % 2 = 1
    · refine ⟨v / 2, ?_⟩
      have : ct v = 0 := by unfold ct; rw [dif_neg h, if_pos h1]
      rw [this, Nat.pow_zero, Nat.one_mul]; omega
    · obtain ⟨m, hm⟩ := ih (v / 2) (by omega) (by omega)
      refine ⟨m, ?_⟩
      have : ct v = ct (v / 2) + 1 := by rw [ct]; rw [dif_neg h, if_neg h1]
      rw [this, Nat.pow_succ, Nat.mul_comm (2 ^ ct (v / 2)) 2, Nat.mul_assoc, ← hm]; omega
theorem ct_lt {v n : Nat} (h : v < 2 ^ n) (h0 : v ≠ 0) : ct v < n := by
  obtain ⟨m, hm⟩ := ct_ex h0
  rcases Nat.lt_or_ge (ct v) n with h1 | h1
  · exact h1
  · have h2 := Nat.pow_le_pow_right (show 0 < 2 by decide) h1
    have h3 : 2 ^ ct v * 1 ≤ 2 ^ ct v * (2 * m + 1) := Nat.mul_le_mul_left _ (by omega)
    omega
theorem ct_add {w u n : Nat} (h0 : w ≠ 0) (hw : w < 2 ^ n) : ct (w + 2 ^ n * u) = ct w := by
  obtain ⟨m, hm⟩ := ct_ex h0
  have hl := ct_lt hw h0
  generalize ct w = k at *
  have : w + 2 ^ n * u = 2 ^ k * (2 * (m + 2 ^ (n - k - 1) * u) + 1) := by
    have e : 2 ^ n = 2 ^ k * (2 * 2 ^ (n - k - 1)) := by rw [← Nat.pow_succ', ← Nat.pow_add]; congr 1; omega
    rw [hm, e, Nat.mul_assoc, ← Nat.mul_add]; congr 1
    rw [Nat.mul_add, Nat.mul_assoc]; omega
  rw [this, ct_mk]
theorem ct_shift {v n : Nat} (h0 : v ≠ 0) : ct (2 ^ n * v) = n + ct v := by
  obtain ⟨m, hm⟩ := ct_ex h0
  generalize ct v = k at *
  rw [hm, ← Nat.mul_assoc, ← Nat.pow_add, ct_mk]
theorem low_bit {x : Nat} (h0 : x ≠ 0) (h : x < 18446744073709551616) : x &&& (18446744073709551616 - x) = 2 ^ ct x := by
  obtain ⟨m, hm⟩ := ct_ex h0
  have hl := ct_lt (n := 64) h h0
  generalize ct x = k at *
  have hp : 0 < 2 ^ k := Nat.pow_pos (by decide)
  have e : 18446744073709551616 = 2 ^ k * (2 * 2 ^ (63 - k)) := by rw [← Nat.pow_succ', ← Nat.pow_add, show k + (63 - k).succ = 64 from by omega]
  have hmlt : m < 2 ^ (63 - k) := by
    rw [hm, e] at h
    have := Nat.lt_of_mul_lt_mul_left h
    omega
  have e2 : 18446744073709551616 - x = 2 ^ k * (2 * (2 ^ (63 - k) - (m + 1)) + 1) := by
    rw [e, hm, ← Nat.mul_sub]; congr 1; omega
  rw [e2, hm, Nat.mul_comm (2 ^ k) (2 * m + 1), Nat.mul_comm (2 ^ k) (2 * (2 ^ (63 - k) - (m + 1)) + 1), ← Nat.shiftLeft_eq, ← Nat.shiftLeft_eq, ← Nat.shiftLeft_and_distrib]
  have : (2 * m + 1) &&& (2 * (2 ^ (63 - k) - (m + 1)) + 1) = 1 := by
    apply Nat.eq_of_testBit_eq
    intro i
    rw [Nat.testBit_and]
    cases i with
    | zero => simp
    | succ i =>
      rw [Nat.testBit_succ, Nat.testBit_succ, Nat.testBit_succ, show (2 * m + 1) / 2 = m from by omega, show (2 * (2 ^ (63 - k) - (m + 1)) + 1) / 2 = 2 ^ (63 - k) - (m + 1) from by omega, Nat.testBit_two_pow_sub_succ hmlt]
      cases m.testBit i <;> simp
  rw [this, Nat.one_shiftLeft]
end Go.Proofs.YtfcpigjmagbnkaaGreatDoor
