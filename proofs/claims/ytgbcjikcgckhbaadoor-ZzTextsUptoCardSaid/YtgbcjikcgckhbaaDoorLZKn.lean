/-
  surdlaw07: the known fact.
-/
import Derived.Test.YtgbcjikcgckhbaaDoorZ4
namespace Go.Proofs.YtgbcjikcgckhbaaDoor
open Go Go.RowKit Ab
set_option linter.unusedSimpArgs false
set_option linter.unusedVariables false
set_option maxHeartbeats 10000000
theorem bz_LZKn : type_of% (And.intro @Bool.false_and (And.intro @wi (And.intro @tn_nat (And.intro @Nat.div_one (And.intro @Nat.mul_one (And.intro @W_len (And.intro @W_nf (And.intro @W_cell (And.intro @W_nil (And.intro @W_get (@nf_g))))))))))) := And.intro @Bool.false_and (And.intro @wi (And.intro @tn_nat (And.intro @Nat.div_one (And.intro @Nat.mul_one (And.intro @W_len (And.intro @W_nf (And.intro @W_cell (And.intro @W_nil (And.intro @W_get (@nf_g))))))))))
theorem zsm (n : Int) (h : n.natAbs < 18446744073709551616) : n.natAbs < B ^ 1 := by rw [Nat.pow_one]; exact h
theorem zfloorN {x y : Int} {m : Nat} (hx : x.natAbs < B ^ m) (hy : y.natAbs < B ^ m) (hm : m ≤ 100000000) : AFun Tryd.prog J0 11 [zN x, zN y] (.t [zN (x.fdiv y), .i .i64 (ze y)]) := by
  have := zfloor_spec (decide (x < 0)) (decide (y < 0)) (dg B x.natAbs) (dg B y.natAbs) (Wd_dg _) (Wd_dg _) (Nat.le_trans (dlen hx) hm) (Nat.le_trans (dlen hy) hm)
  rwa [zv_N, zv_N] at this
def a4 : AC := .seq (.reg [qr 0 (.mv (.k (.b false)))])
 (.seq (.reg [qr 4 (.call 12 [(1, (.k (.i .i64 (-7))))]),
 qr 5 (.call 12 [(1, (.k (.i .i64 2)))]),
 qr 6 (.call 11 [(1, (.t 4)), (1, (.t 5))]),
 qm 3 6,
 qr 7 (.ext (.t 3) 0),
 qr 8 (.ext (.t 3) 1),
 qr 1 (.al 25 [(.b false), (.l 1 [])]),
 qn (.st 2 (.t 1) (.t 7)),
 qm 2 8])
 (.seq (.dreg [qr 9 (.call 12 [(1, (.k (.i .i64 5)))]),
 qr 10 (.call 12 [(1, (.k (.i .i64 (-7))))]),
 qr 11 (.call 13 [(1, (.t 9)), (1, (.t 10))]),
 qr 12 (.call 12 [(1, (.k (.i .i64 (-2))))]),
 qr 13 (.call 9 [(1, (.t 11)), (1, (.t 12))]),
 qm 14 13,
 ⟨some 15, some (14, true), .mv (.t 2)⟩,
 ⟨some 16, some (14, true), .bin .eql (.t 15) (.k (.i .i64 0))⟩,
 qr 17 (.pick (.t 14) (.t 16) (.k (.b false))),
 qm 18 17,
 ⟨some 19, some (18, true), .ld true 2 (.t 1)⟩,
 ⟨some 20, some (18, true), .call 12 [(1, (.k (.i .i64 (-4))))]⟩,
 ⟨some 21, some (18, true), .call 9 [(1, (.t 19)), (1, (.t 20))]⟩,
 qr 22 (.pick (.t 18) (.t 21) (.k (.b false))),
 qm 0 22])
 (.ret)))
theorem zknown_spec : AFun Tryd.prog J0 4 [] (.b true) := by
  have o1 := rzof_spec (-7) (by decide) (by decide)
  have o2 := rzof_spec 2 (by decide) (by decide)
  have o3 := rzof_spec 5 (by decide) (by decide)
  have o4 := rzof_spec (-2) (by decide) (by decide)
  have o5 := rzof_spec (-4) (by decide) (by decide)
  have hf := zfloorN (zsm (-7) (by decide)) (zsm 2 (by decide)) (by decide)
  rw [show (-7 : Int).fdiv 2 = -4 from rfl, show ze 2 = 0 from rfl] at hf
  have ha := zaddN (zsm 5 (by decide)) (zsm (-7) (by decide)) (by decide)
  rw [show (5 : Int) + -7 = -2 from rfl] at ha
  have s1 := zsame_true (rfl : (-2 : Int) = -2) (zsm (-2) (by decide)) (by decide)
  have s2 := zsame_true (rfl : (-4 : Int) = -4) (zsm (-4) (by decide)) (by decide)
  refine mkQ fol J0s Tryd.func4 a4 ?_
  unfold a4
  simp only [init_eq, initE, qm, qr, qn]
  exact wdQ (ai @lnilA @bz_LZKn)
end Go.Proofs.YtgbcjikcgckhbaaDoor
