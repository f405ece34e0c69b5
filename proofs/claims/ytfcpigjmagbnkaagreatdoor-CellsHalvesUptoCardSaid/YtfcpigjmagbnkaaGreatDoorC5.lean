/-
  Cells, by the document: halves, coarser ones, the cell of a number, numbers that it holds.
-/
import Derived.Test.YtfcpigjmagbnkaaGreatDoorC4
namespace Go.Proofs.YtfcpigjmagbnkaaGreatDoor
open Go Go.RowKit Ab
set_option linter.unusedSimpArgs false
set_option linter.unusedVariables false
set_option maxHeartbeats 10000000
theorem mid_eq (z : Int) (p : Bool) (k : Nat) : (loQ z k + loQ (hiN z p) k) / 2 = mkRat (z + hiN z p) (2 ^ (k + 1)) := by
  rw [← mk_mid z (hiN z p) (two_ne k) (two_ne k), Rat.mkRat_eq_iff (by have := two_ne k; have := Nat.mul_ne_zero this this; omega) (two_ne (k + 1))]
  rw [Nat.pow_succ, ← Int.add_mul, Int.natCast_mul, Int.natCast_mul, Int.natCast_mul]
  simp only [Int.mul_assoc]
theorem mid_R (z : Int) (p : Bool) (k m : Nat) (hz : z.natAbs < B ^ m) (hk : k ≤ 1048576) (hm : 20000 ≤ m) : Rr (rN ((loQ z k + loQ (hiN z p) k) / 2).num ((loQ z k + loQ (hiN z p) k) / 2).den) ((loQ z k + loQ (hiN z p) k) / 2) (m + 2) := by
  rw [mid_eq]
  obtain ⟨_, _, e3⟩ := rv_q (z := z + hiN z p) (d := 2 ^ (k + 1)) (m := m + 2) (two_ne (k + 1)) rfl (Nat.lt_of_le_of_lt (Int.natAbs_add_le _ _) (padd (pup hz (Nat.le_succ m)) (hiN_abs hz))) (pow2_B (k + 1) (by omega))
  exact e3
end Go.Proofs.YtfcpigjmagbnkaaGreatDoor
