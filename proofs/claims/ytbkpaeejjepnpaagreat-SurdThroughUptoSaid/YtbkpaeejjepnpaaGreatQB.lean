/-
  The texts Q5, Q6, Q7, Q8.
-/
import Derived.Test.YtbkpaeejjepnpaaGreatQA
import Derived.Test.YtbkpaeejjepnpaaGreatZ2
import Derived.Test.YtbkpaeejjepnpaaGreatGG
import Derived.Test.YtbkpaeejjepnpaaGreatGE
import Derived.Test.YtbkpaeejjepnpaaGreatGC
import Derived.Test.YtbkpaeejjepnpaaGreatNM8
import Derived.Test.YtbkpaeejjepnpaaGreatGD
import Derived.Test.YtbkpaeejjepnpaaGreatZb
namespace Go.Proofs.YtbkpaeejjepnpaaGreat
open Go Go.RowKit Ab
set_option linter.unusedSimpArgs false
set_option linter.unusedVariables false
set_option maxHeartbeats 10000000
theorem bz_Q5 : type_of% (And.intro @W_len (And.intro @D_len (And.intro @Nat.div_one (And.intro @Nat.mul_one (And.intro @tn_nat (And.intro @W_nf (And.intro @D_nf (And.intro @W_nil (And.intro @D_nil (And.intro @wi (And.intro @nf_g (And.intro @Bool.false_and (@W_cell))))))))))))) := And.intro @W_len (And.intro @D_len (And.intro @Nat.div_one (And.intro @Nat.mul_one (And.intro @tn_nat (And.intro @W_nf (And.intro @D_nf (And.intro @W_nil (And.intro @D_nil (And.intro @wi (And.intro @nf_g (And.intro @Bool.false_and (@W_cell))))))))))))
theorem int_w1 {n : Int} (h1 : -9223372036854775808 ≤ n) (h2 : n < 9223372036854775808) : n.natAbs < B ^ 1 := by rw [Nat.pow_one]; show _ < 18446744073709551616; omega
def a23 : AC := .seq (.reg [qr 4 (.al 31 [(.b false), (.l 1 []), (.l 1 [])]),
 qr 5 (.mv (.k (.i .i64 0)))])
 (.seq (.reg [qm 6 0,
 qr 7 (.call 52 [(1, (.t 6))]),
 qm 8 1,
 qr 9 (.call 52 [(1, (.t 8))]),
 qr 10 (.call 51 [(1, (.t 7)), (1, (.t 9))]),
 qr 11 (.ext (.t 10) 0),
 qr 12 (.ext (.t 10) 1),
 qn (.st 3 (.t 4) (.t 11)),
 qm 5 12])
 (.ret))
theorem qof_spec (n k : Int) (h1 : -9223372036854775808 ≤ n) (h2 : n < 9223372036854775808) (k1 : -9223372036854775808 ≤ k) (k2 : k < 9223372036854775808) : AFun Tryz.prog J0 23 [.i .i64 n, .i .i64 k] (.t [rv (mz n k) k.natAbs, .i .i64 (re k.natAbs)]) := by
  have o1 := zofn_spec n h1 h2
  have o2 := zofn_spec k k1 k2
  have m1 := qmake_spec (decide (n < 0)) (decide (k < 0)) (dg B n.natAbs) (dg B k.natAbs) 1 (by decide) (Wd_dg _) (Wd_dg _) (dlen (int_w1 h1 h2)) (dlen (int_w1 k1 k2))
  rw [zv_N, zv_N, nv_dgB] at m1
  obtain ⟨s, a, d, e, _⟩ : RV (rv (mz n k) k.natAbs) 1 := RV_rv (by unfold mz; split; (rw [Int.natAbs_neg]; exact int_w1 h1 h2); exact int_w1 h1 h2) (int_w1 k1 k2)
  rw [e] at m1 ⊢
  generalize re k.natAbs = er at *
  refine mkcQ fol J0s Tryz.func23 a23 [.c 4 true 3, .t 5] ?_
  unfold a23
  simp only [init_eq, initE, qm, qr, qn]
  exact wcQ @bz_Q5
end Go.Proofs.YtbkpaeejjepnpaaGreat
namespace Go.Proofs.YtbkpaeejjepnpaaGreat
open Go Go.RowKit Ab
set_option linter.unusedSimpArgs false
set_option linter.unusedVariables false
set_option maxHeartbeats 10000000
end Go.Proofs.YtbkpaeejjepnpaaGreat
namespace Go.Proofs.YtbkpaeejjepnpaaGreat
open Go Go.RowKit Ab
set_option linter.unusedSimpArgs false
set_option linter.unusedVariables false
set_option maxHeartbeats 10000000
theorem RC_app : ∀ (l r : List (Bool × List Nat × List Nat)), RC (l ++ r) = RC l ++ RC r
  | [], r => rfl
  | p :: l, r => by simp only [List.cons_append, RC, RC_app l r]
end Go.Proofs.YtbkpaeejjepnpaaGreat
namespace Go.Proofs.YtbkpaeejjepnpaaGreat
open Go Go.RowKit Ab
set_option linter.unusedSimpArgs false
set_option linter.unusedVariables false
set_option maxHeartbeats 10000000
end Go.Proofs.YtbkpaeejjepnpaaGreat
