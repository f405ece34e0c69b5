/-
  zz.Pow.
-/
import Derived.Test.YtfcpigjmagbnkaaGreatDoorZ4
namespace Go.Proofs.YtfcpigjmagbnkaaGreatDoor
open Go Go.RowKit Ab
set_option linter.unusedSimpArgs false
set_option linter.unusedVariables false
set_option maxHeartbeats 10000000
theorem bz_Z9 : type_of% (And.intro @Bool.false_and (And.intro @wi (And.intro @tn_nat (And.intro @Nat.div_one (And.intro @Nat.mul_one (And.intro @W_len (And.intro @W_nf (And.intro @W_cell (And.intro @W_nil (And.intro @W_get (@nf_g))))))))))) := And.intro @Bool.false_and (And.intro @wi (And.intro @tn_nat (And.intro @Nat.div_one (And.intro @Nat.mul_one (And.intro @W_len (And.intro @W_nf (And.intro @W_cell (And.intro @W_nil (And.intro @W_get (@nf_g))))))))))
theorem pow_B {u m e : Nat} (h : u < B ^ m) (h1 : 1 ≤ m) : u ^ e < B ^ (m * e + 1) := by
  have h2 : u ^ e ≤ (B ^ m) ^ e := Nat.pow_le_pow_left (Nat.le_of_lt h) e
  rw [← Nat.pow_mul] at h2
  exact Nat.lt_of_le_of_lt h2 (Nat.pow_lt_pow_right (by decide) (Nat.lt_succ_self _))
theorem band1 (k : Nat) (h : k < 9223372036854775808) : bits .and .i64 (k : Int) 1 = ((k % 2 : Nat) : Int) := by
  have e : (BitVec.ofNat 64 k &&& BitVec.ofNat 64 1).toNat = k % 2 := by
    rw [BitVec.toNat_and, BitVec.toNat_ofNat, BitVec.toNat_ofNat, Nat.mod_eq_of_lt (by omega : k < 2 ^ 64)]
    exact Nat.and_one_is_mod k
  have q : bits .and .i64 (k : Int) 1 = IntKind.i64.wrap (((BitVec.ofInt 64 (k : Int) &&& BitVec.ofInt 64 ((1 : Nat) : Int)).toNat : Nat) : Int) := rfl
  rw [q, BitVec.ofInt_natCast, BitVec.ofInt_natCast, e]
  exact wi (by omega)
theorem shr1 (k : Nat) : (k : Int).fdiv (2 ^ (min (1 : Int).toNat IntKind.i64.bits)) = ((k / 2 : Nat) : Int) := by
  rw [show min (1 : Int).toNat IntKind.i64.bits = 1 from rfl, Int.fdiv_eq_ediv_of_nonneg _ (by decide)]; rfl
theorem zI_pow (s : Bool) (u n : Nat) : zI (s && decide (n % 2 = 1)) (u ^ n) = (zI s u) ^ n := by
  induction n with
  | zero => simp [zI]
  | succ n ih =>
    rw [Int.pow_succ, ← ih]
    unfold zI
    rw [Nat.pow_succ]
    rcases Nat.mod_two_eq_zero_or_one n with h | h
    · have h2 : (n + 1) % 2 = 1 := by omega
      cases s <;> simp [h, h2, Int.natCast_mul, Int.mul_neg, Int.neg_mul, Int.neg_neg]
    · have h2 : (n + 1) % 2 = 0 := by omega
      cases s <;> simp [h, h2, Int.natCast_mul, Int.mul_neg, Int.neg_mul, Int.neg_neg]
end Go.Proofs.YtfcpigjmagbnkaaGreatDoor
