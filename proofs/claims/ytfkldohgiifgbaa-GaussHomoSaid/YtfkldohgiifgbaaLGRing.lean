/-
  GaussRing: the law's walk.
-/
import Derived.Test.YtfkldohgiifgbaaLGKn
namespace Go.Proofs.Ytfkldohgiifgbaa
open Go Go.RowKit Ab
set_option linter.unusedSimpArgs false
set_option linter.unusedVariables false
set_option maxHeartbeats 10000000
theorem bz_LGRing : type_of% (And.intro @W_len (And.intro @D_len (And.intro @Nat.div_one (And.intro @Nat.mul_one (And.intro @tn_nat (And.intro @W_nf (And.intro @D_nf (And.intro @W_nil (And.intro @D_nil (And.intro @wi (And.intro @nf_g (And.intro @Bool.false_and (And.intro @W_cell (And.intro @ZC_cell (And.intro @ZC_nil (@eq_self)))))))))))))))) := And.intro @W_len (And.intro @D_len (And.intro @Nat.div_one (And.intro @Nat.mul_one (And.intro @tn_nat (And.intro @W_nf (And.intro @D_nf (And.intro @W_nil (And.intro @D_nil (And.intro @wi (And.intro @nf_g (And.intro @Bool.false_and (And.intro @W_cell (And.intro @ZC_cell (And.intro @ZC_nil (@eq_self)))))))))))))))

theorem gaddO {x y z : GZ} (h : gsz x + gsz y < SM) (e : gadd x y = z) : AFun Try.prog J0 37 [.g [.i .i64 x.1, .i .i64 x.2], .g [.i .i64 y.1, .i .i64 y.2]] (.t [.g [.i .i64 z.1, .i .i64 z.2], .i .i64 0]) := by
  have := gaddS x y
  rwa [show aF x y = z from (if_pos h).trans e, show aE x y = 0 from if_pos h] at this
theorem gmulO {x y z : GZ} {a b : Nat} (hx : gsz x ≤ a) (hy : gsz y ≤ b) (ha : a < SM) (hb : b < SM) (h : a * b < SM) (e : gmul x y = z) : AFun Try.prog J0 39 [.g [.i .i64 x.1, .i .i64 x.2], .g [.i .i64 y.1, .i .i64 y.2]] (.t [.g [.i .i64 z.1, .i .i64 z.2], .i .i64 0]) := by
  have ok : mOk x y := ⟨by omega, by omega, Nat.lt_of_le_of_lt (Nat.mul_le_mul hx hy) h⟩
  have := gmulS x y
  rwa [show mF x y = z from (if_pos ok).trans e, show mE x y = 0 from if_pos ok] at this
theorem gconjO {x z : GZ} (h : gsz x < SM) (e : gconj x = z) : AFun Try.prog J0 41 [.g [.i .i64 x.1, .i .i64 x.2]] (.t [.g [.i .i64 z.1, .i .i64 z.2], .i .i64 0]) := by
  have := gconjS x
  rwa [show cF x = z from (if_pos h).trans e, show szE x = 0 from if_pos h] at this
theorem tmod_lt (a : Int) (k : Nat) (hk : 0 < k) : (a.tmod k).natAbs < k := by
  rw [Int.natAbs_tmod, Int.natAbs_natCast]; exact Nat.mod_lt _ hk
theorem few_sz (z : GZ) (k : Nat) (hk : 0 < k) : gsz (z.1.tmod k, z.2.tmod k) ≤ 2 * (k - 1) := by
  have h1 := tmod_lt z.1 k hk
  have h2 := tmod_lt z.2 k hk
  unfold gsz; simp only []; omega
theorem norm_mul (a b c d : Int) : (a * c - b * d) * (a * c - b * d) + (a * d + b * c) * (a * d + b * c) = (a * a + b * b) * (c * c + d * d) := by
  simp only [Int.sub_mul, Int.mul_sub, Int.add_mul, Int.mul_add]
  have e1 : a * c * (a * c) = a * a * (c * c) := by simp only [Int.mul_assoc, Int.mul_left_comm, Int.mul_comm]
  have e2 : b * d * (b * d) = b * b * (d * d) := by simp only [Int.mul_assoc, Int.mul_left_comm, Int.mul_comm]
  have e3 : a * d * (a * d) = a * a * (d * d) := by simp only [Int.mul_assoc, Int.mul_left_comm, Int.mul_comm]
  have e4 : b * c * (b * c) = b * b * (c * c) := by simp only [Int.mul_assoc, Int.mul_left_comm, Int.mul_comm]
  have e5 : a * c * (b * d) = a * d * (b * c) := by simp only [Int.mul_assoc, Int.mul_left_comm, Int.mul_comm]
  have e6 : b * d * (a * c) = a * d * (b * c) := by simp only [Int.mul_assoc, Int.mul_left_comm, Int.mul_comm]
  have e7 : b * c * (a * d) = a * d * (b * c) := by simp only [Int.mul_assoc, Int.mul_left_comm, Int.mul_comm]
  rw [e1, e2, e3, e4, e5, e6, e7]; omega
theorem norm_le (x : GZ) : (x.1 * x.1 + x.2 * x.2).natAbs ≤ gsz x * gsz x := by
  have h := gsz_prod x.1 x.2 x.1 x.2
  unfold gsz; rw [← h]; omega
theorem gconj_add (x y : GZ) : gadd (gconj x) (gconj y) = gconj (gadd x y) := by unfold gadd gconj; simp only [Prod.mk.injEq, true_and]; omega
theorem gconj_mul (x y : GZ) : gmul (gconj x) (gconj y) = gconj (gmul x y) := by unfold gmul gconj; simp only [Prod.mk.injEq, Int.neg_mul, Int.mul_neg]; omega
theorem gmul_conj (x : GZ) : gmul x (gconj x) = (x.1 * x.1 + x.2 * x.2, 0) := by
  unfold gmul gconj
  simp only [Prod.mk.injEq, Int.mul_neg]
  rw [Int.mul_comm x.2 x.1]
  constructor <;> omega
theorem gconj_sz (x : GZ) : gsz (gconj x) = gsz x := by unfold gsz gconj; simp
end Go.Proofs.Ytfkldohgiifgbaa
