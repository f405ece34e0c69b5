/-
  qpoly: out of the integers, derivatives, integrals.
-/
import Derived.Test.YtbkpaeejjepnpaaGreatQP4
namespace Go.Proofs.YtbkpaeejjepnpaaGreat
open Go Go.RowKit Ab
set_option linter.unusedSimpArgs false
set_option linter.unusedVariables false
set_option maxHeartbeats 10000000
theorem pqof (n : Int) (k m : Nat) (h1 : -9223372036854775808 ≤ n) (h2 : n < 9223372036854775808) (k1 : 0 < k) (k2 : k < 9223372036854775808) : AFun Tryz.prog J0 23 [.i .i64 n, .i .i64 (k : Int)] (.t [rN (mkRat n k).num (mkRat n k).den, .i .i64 0]) ∧ Rr (rN (mkRat n k).num (mkRat n k).den) (mkRat n k) (m + 1) := by
  have h := qof_spec n (k : Int) h1 h2 (by omega) (by omega)
  have hn : n.natAbs < B ^ 1 := by rw [Nat.pow_one]; show n.natAbs < 18446744073709551616; omega
  have hk : k < B ^ 1 := by rw [Nat.pow_one]; show k < 18446744073709551616; omega
  obtain ⟨e1, e2, e3⟩ := rv_q (m := m + 1) (show k ≠ 0 by omega) rfl (pup hn (by omega)) (pup hk (by omega)) (p := mkRat n k) (z := n)
  rw [show ((k : Int)).natAbs = k from rfl, show mz n (k : Int) = n from if_neg (by omega), e1, e2] at h
  exact ⟨h, e3⟩
end Go.Proofs.YtbkpaeejjepnpaaGreat
