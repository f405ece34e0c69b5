/-
  gauss: powers; zpoly.Norm; values.
-/
import Derived.Test.YtfkldohgiifgbaaG2
namespace Go.Proofs.Ytfkldohgiifgbaa
open Go Go.RowKit Ab
set_option linter.unusedSimpArgs false
set_option linter.unusedVariables false
set_option maxHeartbeats 10000000
theorem bz_G3 : type_of% (And.intro @W_len (And.intro @D_len (And.intro @Nat.div_one (And.intro @Nat.mul_one (And.intro @tn_nat (And.intro @W_nf (And.intro @D_nf (And.intro @W_nil (And.intro @D_nil (And.intro @wi (And.intro @nf_g (And.intro @Bool.false_and (And.intro @W_cell (And.intro @ZC_cell (@ZC_nil))))))))))))))) := And.intro @W_len (And.intro @D_len (And.intro @Nat.div_one (And.intro @Nat.mul_one (And.intro @tn_nat (And.intro @W_nf (And.intro @D_nf (And.intro @W_nil (And.intro @D_nil (And.intro @wi (And.intro @nf_g (And.intro @Bool.false_and (And.intro @W_cell (And.intro @ZC_cell (@ZC_nil))))))))))))))

def pE (x : GZ) (n : Int) : Int := if n < 0 then 3 else if gsz x < SM then (if gsz x ^ n.toNat < SM then 0 else 13) else 13
def pF (x : GZ) (n : Int) : GZ := if pE x n = 0 then gpow x n.toNat else (0, 0)
theorem pow_small {s k m : Nat} (hs : 1 ≤ s) (h : k ≤ m) (hm : s ^ m < SM) : s ^ k < SM := Nat.lt_of_le_of_lt (Nat.pow_le_pow_right hs h) hm
theorem pow_big {s m : Nat} (hs : 2 ≤ s) (hm : 50 < m) : ¬ s ^ m < SM := fun h => by
  have h1 : 2 ^ m ≤ s ^ m := Nat.pow_le_pow_left hs m
  have h2 : 2 ^ 51 ≤ 2 ^ m := Nat.pow_le_pow_right (by decide) hm
  simp only [SM] at h; omega
theorem tmod_4 (a : Nat) : (a : Int).tmod 4 = ((a % 4 : Nat) : Int) := rfl
end Go.Proofs.Ytfkldohgiifgbaa
