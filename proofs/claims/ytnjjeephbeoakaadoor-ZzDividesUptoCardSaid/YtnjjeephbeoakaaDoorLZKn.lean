/-
  surdlaw07: the known fact.
-/
import Derived.Test.YtnjjeephbeoakaaDoorZ4
namespace Go.Proofs.YtnjjeephbeoakaaDoor
open Go Go.RowKit Ab
set_option linter.unusedSimpArgs false
set_option linter.unusedVariables false
set_option maxHeartbeats 10000000
theorem bz_LZKn : type_of% (And.intro @Bool.false_and (And.intro @wi (And.intro @tn_nat (And.intro @Nat.div_one (And.intro @Nat.mul_one (And.intro @W_len (And.intro @W_nf (And.intro @W_cell (And.intro @W_nil (And.intro @W_get (@nf_g))))))))))) := And.intro @Bool.false_and (And.intro @wi (And.intro @tn_nat (And.intro @Nat.div_one (And.intro @Nat.mul_one (And.intro @W_len (And.intro @W_nf (And.intro @W_cell (And.intro @W_nil (And.intro @W_get (@nf_g))))))))))

theorem zsm (n : Int) (h : n.natAbs < 18446744073709551616) : n.natAbs < B ^ 1 := by rw [Nat.pow_one]; exact h
theorem zfloorN {x y : Int} {m : Nat} (hx : x.natAbs < B ^ m) (hy : y.natAbs < B ^ m) (hm : m ≤ 100000000) : AFun Tryd.prog J0 15 [zN x, zN y] (.t [zN (x.fdiv y), .i .i64 (ze y)]) := by
  have := zfloor_spec (decide (x < 0)) (decide (y < 0)) (dg B x.natAbs) (dg B y.natAbs) (Wd_dg _) (Wd_dg _) (Nat.le_trans (dlen hx) hm) (Nat.le_trans (dlen hy) hm)
  rwa [zv_N, zv_N] at this
-- surd/surdlaw07.known
def a5 : AC := .seq (.reg [⟨some 0, none, .mv (.k (.b false))⟩])
  (.seq (.reg [⟨some 4, none, .call 27 [(1, (.k (.i .i64 (-7))))]⟩, 
      ⟨some 5, none, .call 27 [(1, (.k (.i .i64 2)))]⟩, 
      ⟨some 6, none, .call 15 [(1, (.t 4)), (1, (.t 5))]⟩, 
      ⟨some 3, none, .mv (.t 6)⟩, 
      ⟨some 7, none, .ext (.t 3) 0⟩, 
      ⟨some 8, none, .ext (.t 3) 1⟩, 
      ⟨some 1, none, .al 25 [(.b false), (.l 1 [])]⟩, 
      ⟨none, none, .st 2 (.t 1) (.t 7)⟩, 
      ⟨some 2, none, .mv (.t 8)⟩])
  (.seq (.dreg [⟨some 9, none, .call 27 [(1, (.k (.i .i64 5)))]⟩, 
      ⟨some 10, none, .call 27 [(1, (.k (.i .i64 (-7))))]⟩, 
      ⟨some 11, none, .call 25 [(1, (.t 9)), (1, (.t 10))]⟩, 
      ⟨some 12, none, .call 27 [(1, (.k (.i .i64 (-2))))]⟩, 
      ⟨some 13, none, .call 9 [(1, (.t 11)), (1, (.t 12))]⟩, 
      ⟨some 14, none, .mv (.t 13)⟩, 
      ⟨some 15, some (14, true), .mv (.t 2)⟩, 
      ⟨some 16, some (14, true), .bin .eql (.t 15) (.k (.i .i64 0))⟩, 
      ⟨some 17, none, .pick (.t 14) (.t 16) (.k (.b false))⟩, 
      ⟨some 18, none, .mv (.t 17)⟩, 
      ⟨some 19, some (18, true), .ld true 2 (.t 1)⟩, 
      ⟨some 20, some (18, true), .call 27 [(1, (.k (.i .i64 (-4))))]⟩, 
      ⟨some 21, some (18, true), .call 9 [(1, (.t 19)), (1, (.t 20))]⟩, 
      ⟨some 22, none, .pick (.t 18) (.t 21) (.k (.b false))⟩, 
      ⟨some 0, none, .mv (.t 22)⟩])
  (.ret)))
theorem zknown_spec : AFun Tryd.prog J0 5 [] (.b true) := by
  have o1 := rzof_spec (-7) (by decide) (by decide)
  have o2 := rzof_spec 2 (by decide) (by decide)
  have o3 := rzof_spec 5 (by decide) (by decide)
  have o4 := rzof_spec (-2) (by decide) (by decide)
  have o5 := rzof_spec (-4) (by decide) (by decide)
  have hf := zfloorN (zsm (-7) (by decide)) (zsm 2 (by decide)) (by decide)
  rw [show (-7 : Int).fdiv 2 = -4 from rfl, show ze 2 = 0 from rfl] at hf
  have ha := zaddN (zsm 5 (by decide)) (zsm (-7) (by decide)) (by decide)
  rw [show (5 : Int) + -7 = -2 from rfl] at ha
  have s1 := zsame_true (rfl : (-2 : Int) = -2) (zsm (-2) (by decide)) (by decide)
  have s2 := zsame_true (rfl : (-4 : Int) = -4) (zsm (-4) (by decide)) (by decide)
  refine AFun.mk fol J0s Tryd.func5 rfl (ac := a5) (by kernel_rfl) rfl rfl ?_
  apply vm_start
  unfold a5
  simp only [init_eq, initE]
  have zc1 := o1
  have zc2 := o2
  have zc3 := hf
  have zc4 := o3
  have zc5 := ha
  have zc6 := o4
  have zc7 := s1
  have zc8 := o5
  have zc9 := s2
  repeat first | (refine hK _ ?_; clear hK K) | simp only [Sv, ↓reduceIte, Nat.reduceEqDiff] | ((first | refine vm_reg (fun K hK => ?_) | refine vm_dreg (fun K hK => ?_) | refine vm_dregx (fun K hK => ?_) | refine clp_q ?_ | refine clq_mk (by assumption) ?_); simp (disch := (first | omega | assumption)) only [S1, ↓reduceIte, Nat.reduceEqDiff, Nat.reduceAdd, Nat.reduceMul, Nat.reduceDiv, AOp.sb, AOp.mut, ↓Bool.false_eq_true, beq_self_eq_true, ite_self, Nat.reduceLeDiff, Int.reduceEq, Int.reduceSub, Int.reduceAdd, Int.reduceNeg, Int.reduceLT, Int.reduceLE, Nat.reduceLT, bz_LZKn, List.length_nil])
  simp (disch := (first | omega | assumption)) only [retOk, retN, ret1, retF, ret1F, V.okArg, and_true, true_and, S1, ↓reduceIte, Nat.reduceEqDiff, Nat.reduceAdd, Nat.reduceMul, Nat.reduceDiv, AOp.sb, AOp.mut, ↓Bool.false_eq_true, beq_self_eq_true, ite_self, Nat.reduceLeDiff, Int.reduceEq, Int.reduceSub, Int.reduceAdd, Int.reduceNeg, Int.reduceLT, Int.reduceLE, Nat.reduceLT, bz_LZKn, List.length_nil]
end Go.Proofs.YtnjjeephbeoakaaDoor
