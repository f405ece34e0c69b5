/-
  ZzPowers: the law's walk.
-/
import Derived.Test.YtnjjeephbeoakaaDoorLZKn
import Derived.Test.YtnjjeephbeoakaaDoorZ10
namespace Go.Proofs.YtnjjeephbeoakaaDoor
open Go Go.RowKit Ab
set_option linter.unusedSimpArgs false
set_option linter.unusedVariables false
set_option maxHeartbeats 10000000
theorem bz_LZPowers : type_of% (And.intro @Bool.false_and (And.intro @wi (And.intro @tn_nat (And.intro @Nat.div_one (And.intro @Nat.mul_one (And.intro @W_len (And.intro @W_nf (And.intro @W_cell (And.intro @W_nil (And.intro @W_get (@nf_g))))))))))) := And.intro @Bool.false_and (And.intro @wi (And.intro @tn_nat (And.intro @Nat.div_one (And.intro @Nat.mul_one (And.intro @W_len (And.intro @W_nf (And.intro @W_cell (And.intro @W_nil (And.intro @W_get (@nf_g))))))))))

theorem fdivA (x y : Int) : (x.fdiv y).natAbs ≤ x.natAbs + 1 := by
  by_cases h : y = 0
  · subst h; rw [Int.fdiv_zero]; simp
  · rw [fdiv_eq' x y h]
    have := Int.natAbs_tdiv_le_natAbs x y
    split <;> omega
theorem zlV_lt {x : Int} {m : Nat} {n : Int} (h : x.natAbs < B ^ m) : (zlV x n).natAbs < B ^ (m + 16384) := by
  unfold zlV
  split
  · exact Nat.pow_pos (by decide)
  · rename_i h1
    rw [Int.natAbs_mul, Int.natAbs_pow]
    exact shl_len h (by omega)
theorem zrV_lt {x : Int} {m : Nat} {n : Int} (h : x.natAbs < B ^ m) : (zrV x n).natAbs < B ^ (m + 1) := by
  have h2 : B ^ m * 2 ≤ B ^ (m + 1) := Nat.mul_le_mul_left _ (by decide)
  unfold zrV
  split
  · exact Nat.pow_pos (by decide)
  · have := fdivA x (2 ^ n.toNat)
    omega
end Go.Proofs.YtnjjeephbeoakaaDoor
