/-
  surdlaw04: the known fact.
-/
import Derived.Test.YtngohbpgdeiodaaGG
import Derived.Test.YtngohbpgdeiodaaGE
namespace Go.Proofs.Ytngohbpgdeiodaa
open Go Go.RowKit Ab
set_option linter.unusedSimpArgs false
set_option linter.unusedVariables false
set_option maxHeartbeats 10000000

-- surd/surdlaw04.known
def a11 : AC := .seq (.reg [⟨some 0, none, .mv (.k (.b false))⟩])
  (.seq (.reg [⟨some 5, none, .bsl 29 1 3 [(.i .u64 0), (.i .u64 0), (.i .u64 0)] [(0, (.k (.i .u64 0))), (1, (.k (.i .u64 0))), (2, (.k (.i .u64 9223372036854775808)))]⟩, 
      ⟨some 6, none, .bsl 29 1 2 [(.i .u64 0), (.i .u64 0)] [(0, (.k (.i .u64 1))), (1, (.k (.i .u64 9223372036854775808)))]⟩, 
      ⟨some 7, none, .call 16 [(1, (.t 5)), (1, (.t 6))]⟩, 
      ⟨some 4, none, .mv (.t 7)⟩, 
      ⟨some 8, none, .ext (.t 4) 0⟩, 
      ⟨some 9, none, .ext (.t 4) 1⟩, 
      ⟨some 10, none, .ext (.t 4) 2⟩, 
      ⟨some 1, none, .mv (.t 8)⟩, 
      ⟨some 2, none, .mv (.t 9)⟩, 
      ⟨some 3, none, .mv (.t 10)⟩])
  (.seq (.reg [⟨some 11, none, .mv (.t 3)⟩, 
      ⟨some 12, none, .bin .eql (.t 11) (.k (.i .i64 0))⟩, 
      ⟨some 13, none, .mv (.t 12)⟩, 
      ⟨some 14, some (13, true), .mv (.t 1)⟩, 
      ⟨some 15, some (13, true), .bsl 29 1 1 [(.i .u64 0)] [(0, (.k (.i .u64 18446744073709551615)))]⟩, 
      ⟨some 16, some (13, true), .call 14 [(1, (.t 14)), (1, (.t 15))]⟩, 
      ⟨some 17, none, .pick (.t 13) (.t 16) (.k (.b false))⟩, 
      ⟨some 18, none, .mv (.t 17)⟩, 
      ⟨some 19, some (18, true), .mv (.t 2)⟩, 
      ⟨some 20, some (18, true), .bsl 29 1 2 [(.i .u64 0), (.i .u64 0)] [(0, (.k (.i .u64 1))), (1, (.k (.i .u64 9223372036854775807)))]⟩, 
      ⟨some 21, some (18, true), .call 14 [(1, (.t 19)), (1, (.t 20))]⟩, 
      ⟨some 22, none, .pick (.t 18) (.t 21) (.k (.b false))⟩, 
      ⟨some 0, none, .mv (.t 22)⟩])
  (.ret)))
theorem known_spec : AFun Try.prog J0 11 [] (.b true) := by
  have w1 : Wd [0, 0, 9223372036854775808] := by intro x hx; simp at hx; show x < 18446744073709551616; omega
  have w2 : Wd [1, 9223372036854775808] := by intro x hx; simp at hx; show x < 18446744073709551616; omega
  have w3 : Wd [1, 9223372036854775807] := by intro x hx; simp at hx; show x < 18446744073709551616; omega
  have hq := quo_spec [0, 0, 9223372036854775808] [1, 9223372036854775808] w1 w2 (by simp) (by simp)
  have e1 : nv B [0, 0, 9223372036854775808] / nv B [1, 9223372036854775808] = 18446744073709551615 := by decide +kernel
  have e2 : nv B [0, 0, 9223372036854775808] % nv B [1, 9223372036854775808] = nv B [1, 9223372036854775807] := by decide +kernel
  have e3 : 0 < nv B [1, 9223372036854775808] := by decide +kernel
  rw [qE_p e3, qR_p e3, e2, qQ, e1, dg_one (by decide) (by decide), ← tz_dg B2 w3, show tz [1, 9223372036854775807] = [1, 9223372036854775807] from by decide +kernel] at hq
  refine AFun.mk fol J0s Try.func11 rfl (ac := a11) (by kernel_rfl) rfl rfl ?_
  apply vm_start
  unfold a11
  simp only [init_eq, initE]
  have zc1 := hq
  have zc2 := same_true (rfl : [18446744073709551615] = [18446744073709551615]) (by simp)
  have zc3 := same_true (rfl : [1, 9223372036854775807] = [1, 9223372036854775807]) (by simp)
  repeat first | (refine hK _ ?_; clear hK K) | simp only [Sv, ↓reduceIte, Nat.reduceEqDiff] | ((first | refine vm_reg (fun K hK => ?_) | refine vm_dreg (fun K hK => ?_) | refine clp_q ?_ | refine clq_mk (by assumption) ?_); simp (disch := (first | omega | assumption)) only [S1, ↓reduceIte, Nat.reduceEqDiff, Nat.reduceAdd, Nat.reduceMul, Nat.reduceDiv, AOp.sb, AOp.mut, ↓Bool.false_eq_true, beq_self_eq_true, ite_self, Nat.reduceLeDiff, Int.reduceEq, Int.reduceSub, Int.reduceAdd, Int.reduceNeg, Int.reduceLT, Int.reduceLE, Nat.reduceLT, wi, tn_nat, Nat.div_one, Nat.mul_one, W_len, W_nf, W_cell, W_nil, W_get, List.length_nil, List.length_cons])
  simp (disch := (first | omega | assumption)) only [retOk, retN, ret1, retF, ret1F, V.okArg, and_true, true_and, S1, ↓reduceIte, Nat.reduceEqDiff, Nat.reduceAdd, Nat.reduceMul, Nat.reduceDiv, AOp.sb, AOp.mut, ↓Bool.false_eq_true, beq_self_eq_true, ite_self, Nat.reduceLeDiff, Int.reduceEq, Int.reduceSub, Int.reduceAdd, Int.reduceNeg, Int.reduceLT, Int.reduceLE, Nat.reduceLT, wi, tn_nat, Nat.div_one, Nat.mul_one, W_len, W_nf, W_cell, W_nil, W_get, List.length_nil, List.length_cons]
end Go.Proofs.Ytngohbpgdeiodaa
