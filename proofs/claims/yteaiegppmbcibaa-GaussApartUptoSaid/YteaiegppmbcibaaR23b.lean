/-
  surdref23: sizes, sums, products, norms, powers, eighths.
-/
import Derived.Test.YteaiegppmbcibaaR23a
namespace Go.Proofs.Yteaiegppmbcibaa
open Go Go.RowKit Ab
set_option linter.unusedSimpArgs false
set_option linter.unusedVariables false
set_option maxHeartbeats 10000000
def Pz (z : GZ) : Prop := Pi z.1 ∧ Pi z.2
theorem gsz_B2 {z : GZ} (h : Pz z) : gsz z < B ^ 2 := by
  unfold Pz Pi at h; unfold gsz
  have : B ^ 2 = 340282366920938463463374607431768211456 := rfl
  omega
theorem SM_B1 {u : Nat} (h : u < SM) : u < B ^ 1 := BW1 (by simp only [SM] at h; omega)
theorem gsz_parts {z : GZ} (h : gsz z < SM) : z.1.natAbs < 9223372036854775808 ∧ z.2.natAbs < 9223372036854775808 := by
  unfold gsz at h; simp only [SM] at h; omega
end Go.Proofs.Yteaiegppmbcibaa
