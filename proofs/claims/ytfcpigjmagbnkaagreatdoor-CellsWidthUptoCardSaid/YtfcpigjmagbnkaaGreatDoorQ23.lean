/-
  Rational numbers: middles, floors, signs, powers of two, as rational numbers.
-/
import Derived.Test.YtfcpigjmagbnkaaGreatDoorQO
import Derived.Test.YtfcpigjmagbnkaaGreatDoorQ21
namespace Go.Proofs.YtfcpigjmagbnkaaGreatDoor
open Go Go.RowKit Ab
set_option linter.unusedSimpArgs false
set_option linter.unusedVariables false
set_option maxHeartbeats 10000000
def twq (t : Int) : Rat := if t < 0 then mkRat 1 (2 ^ (-t).toNat) else mkRat (2 ^ t.toNat) 1
theorem fin_below {s : Bool} {a d : List Nat} {k : Nat} (h0 : nv B d ≠ 0) (hs : 0 < zv s a) (hk : FinP (nv B a) (nv B d) k) : cq (twq (-(k : Int))) (mkRat (zv s a) (nv B d)) < 0 := by
  have hz : zv s a = ((nv B a : Nat) : Int) := by have := zv_abs s a; omega
  have hlt : twq (-(k : Int)) < mkRat (zv s a) (nv B d) := by
    unfold twq
    rw [hz]
    by_cases hk0 : k = 0
    · subst hk0
      rw [if_neg (by decide)]
      rw [lt_q (by decide) h0]
      have := hk.1
      rw [Nat.pow_zero, Nat.mul_one] at this
      show (1 : Int) * _ < _ * 1
      omega
    · rw [if_pos (by omega), lt_q (Nat.pos_iff_ne_zero.1 (Nat.two_pow_pos _)) h0, show (-(-(k : Int))).toNat = k from by omega, ← Int.natCast_mul]
      have := hk.1
      omega
  unfold cq; rw [if_pos hlt]; decide
theorem fin_ahead {s : Bool} {a d : List Nat} {k : Nat} (h0 : nv B d ≠ 0) (hs : 0 < zv s a) (hk : FinP (nv B a) (nv B d) k) (hk0 : k ≠ 0) : 0 ≤ cq (twq (1 - (k : Int))) (mkRat (zv s a) (nv B d)) := by
  have hz : zv s a = ((nv B a : Nat) : Int) := by have := zv_abs s a; omega
  have hlt : ¬ twq (1 - (k : Int)) < mkRat (zv s a) (nv B d) := by
    unfold twq
    rw [hz]
    have h2 := hk.2 (k - 1) (by omega)
    by_cases hk1 : k = 1
    · subst hk1
      rw [if_neg (by decide), lt_q (by decide) h0]
      rw [Nat.sub_self, Nat.pow_zero, Nat.mul_one] at h2
      show ¬ (1 : Int) * _ < _ * 1
      omega
    · rw [if_pos (by omega), lt_q (Nat.pos_iff_ne_zero.1 (Nat.two_pow_pos _)) h0, show (-(1 - (k : Int))).toNat = k - 1 from by omega, ← Int.natCast_mul]
      omega
  unfold cq; rw [if_neg hlt]; split <;> decide
end Go.Proofs.YtfcpigjmagbnkaaGreatDoor
