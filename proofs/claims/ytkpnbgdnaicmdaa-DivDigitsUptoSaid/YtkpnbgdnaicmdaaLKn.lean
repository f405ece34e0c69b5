/-
  surdlaw04: the known fact.
-/
import Derived.Test.YtkpnbgdnaicmdaaGG
import Derived.Test.YtkpnbgdnaicmdaaGE
namespace Go.Proofs.Ytkpnbgdnaicmdaa
open Go Go.RowKit Ab
set_option linter.unusedSimpArgs false
set_option linter.unusedVariables false
set_option maxHeartbeats 10000000
theorem bz_LKn : type_of% (And.intro @wi (And.intro @tn_nat (And.intro @Nat.div_one (And.intro @Nat.mul_one (And.intro @W_len (And.intro @W_nf (And.intro @W_cell (And.intro @W_nil (@W_get))))))))) := And.intro @wi (And.intro @tn_nat (And.intro @Nat.div_one (And.intro @Nat.mul_one (And.intro @W_len (And.intro @W_nf (And.intro @W_cell (And.intro @W_nil (@W_get))))))))
def a4 : AC := .seq (.reg [qr 0 (.mv (.k (.b false)))])
 (.seq (.reg [qr 5 (.bsl 24 1 3 [(.i .u64 0), (.i .u64 0), (.i .u64 0)] [(0, (.k (.i .u64 0))), (1, (.k (.i .u64 0))), (2, (.k (.i .u64 9223372036854775808)))]),
 qr 6 (.bsl 24 1 2 [(.i .u64 0), (.i .u64 0)] [(0, (.k (.i .u64 1))), (1, (.k (.i .u64 9223372036854775808)))]),
 qr 7 (.call 12 [(1, (.t 5)), (1, (.t 6))]),
 qm 4 7,
 qr 8 (.ext (.t 4) 0),
 qr 9 (.ext (.t 4) 1),
 qr 10 (.ext (.t 4) 2),
 qm 1 8,
 qm 2 9,
 qm 3 10])
 (.seq (.reg [qm 11 3,
 qr 12 (.bin .eql (.t 11) (.k (.i .i64 0))),
 qm 13 12,
 ⟨some 14, some (13, true), .mv (.t 1)⟩,
 ⟨some 15, some (13, true), .bsl 24 1 1 [(.i .u64 0)] [(0, (.k (.i .u64 18446744073709551615)))]⟩,
 ⟨some 16, some (13, true), .call 10 [(1, (.t 14)), (1, (.t 15))]⟩,
 qr 17 (.pick (.t 13) (.t 16) (.k (.b false))),
 qm 18 17,
 ⟨some 19, some (18, true), .mv (.t 2)⟩,
 ⟨some 20, some (18, true), .bsl 24 1 2 [(.i .u64 0), (.i .u64 0)] [(0, (.k (.i .u64 1))), (1, (.k (.i .u64 9223372036854775807)))]⟩,
 ⟨some 21, some (18, true), .call 10 [(1, (.t 19)), (1, (.t 20))]⟩,
 qr 22 (.pick (.t 18) (.t 21) (.k (.b false))),
 qm 0 22])
 (.ret)))
theorem known_spec : AFun Try.prog J0 4 [] (.b true) := by
  have w1 : Wd [0, 0, 9223372036854775808] := by intro x hx; simp at hx; show x < 18446744073709551616; omega
  have w2 : Wd [1, 9223372036854775808] := by intro x hx; simp at hx; show x < 18446744073709551616; omega
  have w3 : Wd [1, 9223372036854775807] := by intro x hx; simp at hx; show x < 18446744073709551616; omega
  have hq := quo_spec [0, 0, 9223372036854775808] [1, 9223372036854775808] w1 w2 (by simp) (by simp)
  have e1 : nv B [0, 0, 9223372036854775808] / nv B [1, 9223372036854775808] = 18446744073709551615 := by decide +kernel
  have e2 : nv B [0, 0, 9223372036854775808] % nv B [1, 9223372036854775808] = nv B [1, 9223372036854775807] := by decide +kernel
  have e3 : 0 < nv B [1, 9223372036854775808] := by decide +kernel
  rw [qE_p e3, qR_p e3, e2, qQ, e1, dg_one (by decide) (by decide), ← tz_dg B2 w3, show tz [1, 9223372036854775807] = [1, 9223372036854775807] from by decide +kernel] at hq
  refine mkQ fol J0s Try.func4 a4 ?_
  unfold a4
  simp only [init_eq, initE, qm, qr, qn]
  have zc1 := same_true (rfl : [18446744073709551615] = [18446744073709551615]) (by simp)
  have zc2 := same_true (rfl : [1, 9223372036854775807] = [1, 9223372036854775807]) (by simp)
  exact wdQ (ai @lconsA (ai @lnilA @bz_LKn))
end Go.Proofs.Ytkpnbgdnaicmdaa
