/-
  The texts Q14, Q15.
-/
import Derived.Test.YtbkpaeejjepnpaaGreatQC
namespace Go.Proofs.YtbkpaeejjepnpaaGreat
open Go Go.RowKit Ab
set_option linter.unusedSimpArgs false
set_option linter.unusedVariables false
set_option maxHeartbeats 10000000
structure Ends (a d b e : Nat) : Prop where
  a0 : 0 < a
  d0 : 0 < d
  e0 : 0 < e
  ca : Nat.gcd a d = 1
  cb : Nat.gcd b e = 1
  le : a * e ≤ b * d
end Go.Proofs.YtbkpaeejjepnpaaGreat
namespace Go.Proofs.YtbkpaeejjepnpaaGreat
open Go Go.RowKit Ab
set_option linter.unusedSimpArgs false
set_option linter.unusedVariables false
set_option maxHeartbeats 10000000
theorem r_le {z w : Int} {d e : Nat} (hd : d ≠ 0) (he : e ≠ 0) : (rz z d * (rden w e : Int) ≤ rz w e * (rden z d : Int)) ↔ z * (e : Int) ≤ w * (d : Int) := by
  have h1 := rz_back (z := z) (d := d)
  have h2 := rden_back (z := z) (d := d)
  have h3 := rz_back (z := w) (d := e)
  have h4 := rden_back (z := w) (d := e)
  have p1 := rG_pos (z := z) hd
  have p2 := rG_pos (z := w) he
  generalize rz z d = x at *
  generalize rden z d = y at *
  generalize rz w e = u at *
  generalize rden w e = v at *
  generalize rG z d = g at *
  generalize rG w e = f at *
  subst h1 h2 h3 h4
  have e1 : x * (g : Int) * ((v * f : Nat) : Int) = x * (v : Int) * ((g * f : Nat) : Int) := by
    rw [Int.natCast_mul, Int.natCast_mul, Int.mul_assoc, Int.mul_assoc, Int.mul_left_comm (g : Int)]
  have e2 : u * (f : Int) * ((y * g : Nat) : Int) = u * (y : Int) * ((g * f : Nat) : Int) := by
    rw [Int.natCast_mul, Int.natCast_mul, Int.mul_assoc, Int.mul_assoc, Int.mul_left_comm (f : Int), Int.mul_comm (f : Int)]
  rw [e1, e2]
  have p3 : (0 : Int) < ((g * f : Nat) : Int) := by have := Nat.mul_pos p1 p2; omega
  exact ⟨fun h => Int.mul_le_mul_of_nonneg_right h (by omega), fun h => Int.le_of_mul_le_mul_right h p3⟩
end Go.Proofs.YtbkpaeejjepnpaaGreat
