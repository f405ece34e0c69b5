/-
  ZzGcds: the law's walk.
-/
import Derived.Test.YtfhgnlkcecogcaaLZKn
import Derived.Test.YtfhgnlkcecogcaaZ8
namespace Go.Proofs.Ytfhgnlkcecogcaa
open Go Go.RowKit Ab
set_option linter.unusedSimpArgs false
set_option linter.unusedVariables false
set_option maxHeartbeats 10000000
theorem bz_LZGcds : type_of% (And.intro @Bool.false_and (And.intro @wi (And.intro @tn_nat (And.intro @Nat.div_one (And.intro @Nat.mul_one (And.intro @W_len (And.intro @W_nf (And.intro @W_cell (And.intro @W_nil (And.intro @W_get (@nf_g))))))))))) := And.intro @Bool.false_and (And.intro @wi (And.intro @tn_nat (And.intro @Nat.div_one (And.intro @Nat.mul_one (And.intro @W_len (And.intro @W_nf (And.intro @W_cell (And.intro @W_nil (And.intro @W_get (@nf_g))))))))))

-- surd/surdlaw07.ZzGcds
def a3 : AC := .seq (.reg [⟨some 2, none, .mv (.k (.b false))⟩])
  (.seq (.reg [⟨some 3, none, .call 6 []⟩, 
      ⟨some 4, none, .mv (.t 3)⟩, 
      ⟨some 5, some (4, true), .mv (.t 0)⟩, 
      ⟨some 6, some (4, true), .call 8 [(2, (.t 5))]⟩, 
      ⟨some 7, some (4, true), .mv (.t 0)⟩, 
      ⟨some 8, some (4, true), .call 9 [(2, (.t 7))]⟩, 
      ⟨some 9, some (4, true), .call 7 [(1, (.t 6)), (1, (.t 8))]⟩, 
      ⟨some 10, none, .pick (.t 4) (.t 9) (.k (.b false))⟩, 
      ⟨some 2, none, .mv (.t 10)⟩])
  (.ret))
theorem zzGcds_spec (l : List (Bool × List Nat)) (m : Nat) (hm : m ≤ 2000000) (ll : l.length ≤ m) (hl : ∀ p, p ∈ l → Wd p.2 ∧ p.2.length ≤ m) : AFun Try.prog J0 3 [.l 2 (ZC l)] (.b true) := by
  have p1 := zgcd_spec l m (by omega) (by omega) hl
  have p2 := rzgcd_spec l m (by omega) (by omega) hl
  have p3 := same_true (rfl : dg B (gf l) = dg B (gf l)) (by have := dlen (gf_lt hl); omega)
  generalize dg B (gf l) = g at *
  refine AFun.mk fol J0s Try.func3 rfl (ac := a3) (by kernel_rfl) rfl rfl ?_
  apply vm_start
  unfold a3
  simp only [init_eq, initE]
  have zc1 := zknown_spec
  have zc2 := p1
  have zc3 := p2
  have zc4 := p3
  repeat first | (refine hK _ ?_; clear hK K) | simp only [Sv, ↓reduceIte, Nat.reduceEqDiff] | ((first | refine vm_reg (fun K hK => ?_) | refine vm_dreg (fun K hK => ?_) | refine clp_q ?_ | refine clq_mk (by assumption) ?_); simp (disch := (first | omega | assumption)) only [S1, ↓reduceIte, Nat.reduceEqDiff, Nat.reduceAdd, Nat.reduceMul, Nat.reduceDiv, AOp.sb, AOp.mut, ↓Bool.false_eq_true, beq_self_eq_true, ite_self, Nat.reduceLeDiff, Int.reduceEq, Int.reduceSub, Int.reduceAdd, Int.reduceNeg, Int.reduceLT, Int.reduceLE, Nat.reduceLT, bz_LZGcds, List.length_nil])
  simp (disch := (first | omega | assumption)) only [retOk, retN, ret1, retF, ret1F, V.okArg, and_true, true_and, S1, ↓reduceIte, Nat.reduceEqDiff, Nat.reduceAdd, Nat.reduceMul, Nat.reduceDiv, AOp.sb, AOp.mut, ↓Bool.false_eq_true, beq_self_eq_true, ite_self, Nat.reduceLeDiff, Int.reduceEq, Int.reduceSub, Int.reduceAdd, Int.reduceNeg, Int.reduceLT, Int.reduceLE, Nat.reduceLT, bz_LZGcds, List.length_nil]
end Go.Proofs.Ytfhgnlkcecogcaa
