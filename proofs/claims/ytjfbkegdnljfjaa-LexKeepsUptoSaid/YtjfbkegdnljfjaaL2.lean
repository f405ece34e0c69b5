/-
  lex: how long a token is, its kind.
-/
import Derived.Test.YtjfbkegdnljfjaaL1
namespace Go.Proofs.Ytjfbkegdnljfjaa
open Go Go.RowKit Ab
set_option linter.unusedSimpArgs false
set_option linter.unusedVariables false
set_option maxHeartbeats 10000000
theorem tn0 : (0 : Int).toNat = 0 := rfl
def a21 : AC := .seq (.reg [⟨some 2, none, .mv (.k (.i .i64 0))⟩])
 (.seq (.reg [⟨some 3, none, .mv (.k (.i .i64 1))⟩])
 (.seq (.blk 0
 (.seq (.reg [⟨some 5, none, .mv (.t 0)⟩,
 ⟨some 6, none, .six (.t 5) (.k (.i .i64 0))⟩,
 ⟨some 7, none, .call 36 [(1, (.t 6))]⟩,
 ⟨some 4, none, .mv (.t 7)⟩])
 (.cond (.t 4)
 (.blk 1
 (.loop
 (.seq (.seq (.reg [⟨some 8, none, .mv (.t 3)⟩,
 ⟨some 9, none, .mv (.t 0)⟩,
 ⟨some 10, none, .slen (.t 9)⟩,
 ⟨some 11, none, .bin .lss (.t 8) (.t 10)⟩,
 ⟨some 12, none, .mv (.t 11)⟩,
 ⟨some 13, some (12, true), .mv (.t 0)⟩,
 ⟨some 14, some (12, true), .mv (.t 3)⟩,
 ⟨some 15, some (12, true), .six (.t 13) (.t 14)⟩,
 ⟨some 16, some (12, true), .call 36 [(1, (.t 15))]⟩,
 ⟨some 17, none, .pick (.t 12) (.t 16) (.k (.b false))⟩])
 (.cond (.t 17)
 (.skip)
 (.exit 1)))
 (.blk 2
 (.reg [⟨some 18, none, .mv (.t 3)⟩,
 ⟨some 19, none, .bin .add (.t 18) (.k (.i .i64 1))⟩,
 ⟨some 3, none, .mv (.t 19)⟩])))))
 (.seq (.reg [⟨some 21, none, .mv (.t 0)⟩,
 ⟨some 22, none, .six (.t 21) (.k (.i .i64 0))⟩,
 ⟨some 23, none, .call 37 [(1, (.t 22))]⟩,
 ⟨some 20, none, .mv (.t 23)⟩])
 (.cond (.t 20)
 (.blk 3
 (.loop
 (.seq (.seq (.reg [⟨some 24, none, .mv (.t 3)⟩,
 ⟨some 25, none, .mv (.t 0)⟩,
 ⟨some 26, none, .slen (.t 25)⟩,
 ⟨some 27, none, .bin .lss (.t 24) (.t 26)⟩,
 ⟨some 28, none, .mv (.t 27)⟩,
 ⟨some 29, some (28, true), .mv (.t 0)⟩,
 ⟨some 30, some (28, true), .mv (.t 3)⟩,
 ⟨some 31, some (28, true), .six (.t 29) (.t 30)⟩,
 ⟨some 32, some (28, true), .call 36 [(1, (.t 31))]⟩,
 ⟨some 33, some (28, true), .mv (.t 32)⟩,
 ⟨some 34, some (33, false), .mv (.t 0)⟩,
 ⟨some 35, some (33, false), .mv (.t 3)⟩,
 ⟨some 36, some (33, false), .six (.t 34) (.t 35)⟩,
 ⟨some 37, some (33, false), .call 37 [(1, (.t 36))]⟩,
 ⟨some 38, some (28, true), .pick (.t 33) (.k (.b true)) (.t 37)⟩,
 ⟨some 39, none, .pick (.t 28) (.t 38) (.k (.b false))⟩])
 (.cond (.t 39)
 (.skip)
 (.exit 3)))
 (.blk 4
 (.reg [⟨some 40, none, .mv (.t 3)⟩,
 ⟨some 41, none, .bin .add (.t 40) (.k (.i .i64 1))⟩,
 ⟨some 3, none, .mv (.t 41)⟩])))))
 (.seq (.reg [⟨some 43, none, .mv (.t 0)⟩,
 ⟨some 44, none, .six (.t 43) (.k (.i .i64 0))⟩,
 ⟨some 45, none, .call 38 [(1, (.k (.s [43, 45, 42, 47, 94, 40, 41, 61]))), (1, (.t 44))]⟩,
 ⟨some 46, none, .bin .lss (.t 45) (.k (.i .i64 0))⟩,
 ⟨some 42, none, .mv (.t 46)⟩])
 (.cond (.t 42)
 (.seq (.reg [⟨some 2, none, .mv (.k (.i .i64 0))⟩])
 (.ret))
 (.skip))))))))
 (.seq (.reg [⟨some 47, none, .mv (.t 3)⟩,
 ⟨some 2, none, .mv (.t 47)⟩])
 (.ret))))
theorem length_spec (s : List UInt8) (hs : 0 < s.length) (hm : s.length ≤ 9223372036854775807) : AFun Try.prog J0 21 [.s s] (.i .i64 (rowLen s : Nat)) := by
  have hrl := rowLen_at hs
  refine AFun.mk fol J0s Try.func21 rfl (ac := a21) (by kernel_rfl) rfl rfl rfl ?_
  apply vm_start
  unfold a21
  simp only [init_eq, initE]
  cases hd : isDig (s.getD 0 0)
  · cases ha : isLet (s.getD 0 0)
    · have zc1 := isDigit_spec (s.getD 0 0)
      have zc2 := isLetter_spec (s.getD 0 0)
      repeat first | (refine hK _ ?_; clear hK K) | simp only [Sv, ↓reduceIte, Nat.reduceEqDiff] | ((first | refine vm_reg (fun K hK => ?_) | refine vm_dreg (fun K hK => ?_) | refine vm_dregx (fun K hK => ?_) | refine clp_q ?_ | refine clq_mk (by assumption) ?_ | refine mcq_q ?_ | (apply mcr_mk; assumption) | (apply ocr_mk; assumption)); simp (disch := (first | omega | assumption)) only [S1, ↓reduceIte, Nat.reduceEqDiff, Nat.reduceAdd, Nat.reduceMul, Nat.reduceDiv, AOp.sb, AOp.mut, frzf, ↓Bool.false_eq_true, beq_self_eq_true, ite_self, Nat.reduceLeDiff, Int.reduceEq, Int.reduceSub, Int.reduceAdd, Int.reduceNeg, Int.reduceLT, Int.reduceLE, Nat.reduceLT, wi, tn_nat, hd, tn0, ha])
      rw [hd, ha] at hrl
      simp only [Bool.false_eq_true, if_false] at hrl
      have hi := sym_idx (s.getD 0 0)
      cases hy : isSym (s.getD 0 0)
      · rw [hy] at hi hrl
        simp only [Bool.not_false, decide_eq_true_eq, Bool.false_eq_true, if_false] at hi hrl
        have zc3 := indexByte_spec symbols (s.getD 0 0)
        repeat first | (refine hK _ ?_; clear hK K) | simp only [Sv, ↓reduceIte, Nat.reduceEqDiff] | ((first | refine vm_reg (fun K hK => ?_) | refine vm_dreg (fun K hK => ?_) | refine vm_dregx (fun K hK => ?_) | refine clp_q ?_ | refine clq_mk (by assumption) ?_ | refine mcq_q ?_ | (apply mcr_mk; assumption) | (apply ocr_mk; assumption)); simp (disch := (first | omega | assumption)) only [S1, ↓reduceIte, Nat.reduceEqDiff, Nat.reduceAdd, Nat.reduceMul, Nat.reduceDiv, AOp.sb, AOp.mut, frzf, ↓Bool.false_eq_true, beq_self_eq_true, ite_self, Nat.reduceLeDiff, Int.reduceEq, Int.reduceSub, Int.reduceAdd, Int.reduceNeg, Int.reduceLT, Int.reduceLE, Nat.reduceLT, wi, tn_nat, tn0, hi, i_eq, hrl])
        simp (disch := (first | omega | assumption)) only [retOk, retN, ret1, retF, ret1F, V.okArg, and_true, true_and, S1, ↓reduceIte, Nat.reduceEqDiff, Nat.reduceAdd, Nat.reduceMul, Nat.reduceDiv, AOp.sb, AOp.mut, frzf, ↓Bool.false_eq_true, beq_self_eq_true, ite_self, Nat.reduceLeDiff, Int.reduceEq, Int.reduceSub, Int.reduceAdd, Int.reduceNeg, Int.reduceLT, Int.reduceLE, Nat.reduceLT, wi, tn_nat, tn0, hi, i_eq, hrl]
      · rw [hy] at hi hrl
        simp only [Bool.not_true, decide_eq_false_iff_not, if_true] at hi hrl
        have zc4 := indexByte_spec symbols (s.getD 0 0)
        repeat first | (refine hK _ ?_; clear hK K) | simp only [Sv, ↓reduceIte, Nat.reduceEqDiff] | ((first | refine vm_reg (fun K hK => ?_) | refine vm_dreg (fun K hK => ?_) | refine vm_dregx (fun K hK => ?_) | refine clp_q ?_ | refine clq_mk (by assumption) ?_ | refine mcq_q ?_ | (apply mcr_mk; assumption) | (apply ocr_mk; assumption)); simp (disch := (first | omega | assumption)) only [S1, ↓reduceIte, Nat.reduceEqDiff, Nat.reduceAdd, Nat.reduceMul, Nat.reduceDiv, AOp.sb, AOp.mut, frzf, ↓Bool.false_eq_true, beq_self_eq_true, ite_self, Nat.reduceLeDiff, Int.reduceEq, Int.reduceSub, Int.reduceAdd, Int.reduceNeg, Int.reduceLT, Int.reduceLE, Nat.reduceLT, wi, tn_nat, tn0, hi, i_eq, hrl])
        simp (disch := (first | omega | assumption)) only [retOk, retN, ret1, retF, ret1F, V.okArg, and_true, true_and, S1, ↓reduceIte, Nat.reduceEqDiff, Nat.reduceAdd, Nat.reduceMul, Nat.reduceDiv, AOp.sb, AOp.mut, frzf, ↓Bool.false_eq_true, beq_self_eq_true, ite_self, Nat.reduceLeDiff, Int.reduceEq, Int.reduceSub, Int.reduceAdd, Int.reduceNeg, Int.reduceLT, Int.reduceLE, Nat.reduceLT, wi, tn_nat, tn0, hi, i_eq, hrl]
    · rw [hd, ha] at hrl
      simp only [Bool.false_eq_true, if_false, if_true] at hrl
      have zc5 := isDigit_spec (s.getD 0 0)
      have zc6 := isLetter_spec (s.getD 0 0)
      repeat first | (refine hK _ ?_; clear hK K) | simp only [Sv, ↓reduceIte, Nat.reduceEqDiff] | ((first | refine vm_reg (fun K hK => ?_) | refine vm_dreg (fun K hK => ?_) | refine vm_dregx (fun K hK => ?_) | refine clp_q ?_ | refine clq_mk (by assumption) ?_ | refine mcq_q ?_ | (apply mcr_mk; assumption) | (apply ocr_mk; assumption)); simp (disch := (first | omega | assumption)) only [S1, ↓reduceIte, Nat.reduceEqDiff, Nat.reduceAdd, Nat.reduceMul, Nat.reduceDiv, AOp.sb, AOp.mut, frzf, ↓Bool.false_eq_true, beq_self_eq_true, ite_self, Nat.reduceLeDiff, Int.reduceEq, Int.reduceSub, Int.reduceAdd, Int.reduceNeg, Int.reduceLT, Int.reduceLE, Nat.reduceLT, wi, tn_nat, hd, tn0, ha])
      refine vm_loop Nat (fun n => ⟨[(0, .s s), (3, .i .i64 (n : Int))], [], 0⟩) (fun n => 1 ≤ n ∧ n ≤ s.length ∧ run isAl (s.drop 1) = (n - 1) + run isAl (s.drop n)) (fun n => s.length - n) 1 [] ⟨by omega, by omega, by omega⟩ (by
      simp (disch := (first | omega | assumption)) only [Sl, Sa, Sw, ↓reduceIte, Nat.reduceEqDiff, Nat.reduceLT, List.all_nil, List.all_cons, Nat.reduceBneDiff, Nat.reduceAdd, bne_iff_ne, ne_eq, reduceCtorEq, not_false_eq_true, not_true_eq_false, Bool.and_true, Bool.true_and, and_true, true_and, and_self, i_eq]
      omega) ?_
      intro n ⟨hn1, hn2, hrun⟩ Q' hQ he hr
      by_cases hlt : (n : Int) < s.length
      · have hlt' : n < s.length := by omega
        cases hx : isDig (s.getD n 0)
        · cases hz : isLet (s.getD n 0)
          · have e0 := run_f (p := isAl) hlt' (by simp only [isAl, hx, hz]; rfl)
            have zc7 := isDigit_spec (s.getD n 0)
            have zc8 := isLetter_spec (s.getD n 0)
            repeat first | (refine hK _ ?_; clear hK K) | simp only [Sv, ↓reduceIte, Nat.reduceEqDiff] | ((first | refine vm_reg (fun K hK => ?_) | refine vm_dreg (fun K hK => ?_) | refine vm_dregx (fun K hK => ?_) | refine clp_q ?_ | refine clq_mk (by assumption) ?_ | refine mcq_q ?_ | (apply mcr_mk; assumption) | (apply ocr_mk; assumption)); simp (disch := (first | omega | assumption)) only [S1, ↓reduceIte, Nat.reduceEqDiff, Nat.reduceAdd, Nat.reduceMul, Nat.reduceDiv, AOp.sb, AOp.mut, frzf, ↓Bool.false_eq_true, beq_self_eq_true, ite_self, Nat.reduceLeDiff, Int.reduceEq, Int.reduceSub, Int.reduceAdd, Int.reduceNeg, Int.reduceLT, Int.reduceLE, Nat.reduceLT, wi, tn_nat, hlt, hx, hz])
            refine he _ _ ?_
            repeat first
              | (refine hK _ ?_; clear hK K)
              | ((first | refine vm_reg (fun K hK => ?_) | refine vm_dreg (fun K hK => ?_) | refine vm_dregx (fun K hK => ?_)); simp (disch := (first | omega | assumption)) only [S1, ↓reduceIte, Nat.reduceEqDiff, Nat.reduceAdd, Nat.reduceMul, Nat.reduceDiv, AOp.sb, AOp.mut, frzf, ↓Bool.false_eq_true, beq_self_eq_true, ite_self, Nat.reduceLeDiff, Int.reduceEq, Int.reduceSub, Int.reduceAdd, Int.reduceNeg, Int.reduceLT, Int.reduceLE, Nat.reduceLT, wi, tn_nat]; refine hK _ ?_; clear hK K)
              | simp only [Sv, ↓reduceIte, Nat.reduceEqDiff]
            simp (disch := (first | omega | assumption)) only [retOk, retN, ret1, retF, ret1F, V.okArg, and_true, true_and, S1, ↓reduceIte, Nat.reduceEqDiff, Nat.reduceAdd, Nat.reduceMul, Nat.reduceDiv, AOp.sb, AOp.mut, frzf, ↓Bool.false_eq_true, beq_self_eq_true, ite_self, Nat.reduceLeDiff, Int.reduceEq, Int.reduceSub, Int.reduceAdd, Int.reduceNeg, Int.reduceLT, Int.reduceLE, Nat.reduceLT, wi, tn_nat, i_eq]
            omega
          · have e0 := run_t (p := isAl) hlt' (by simp only [isAl, hx, hz]; rfl)
            have zc9 := isDigit_spec (s.getD n 0)
            have zc10 := isLetter_spec (s.getD n 0)
            repeat first | (refine hK _ ?_; clear hK K) | simp only [Sv, ↓reduceIte, Nat.reduceEqDiff] | ((first | refine vm_reg (fun K hK => ?_) | refine vm_dreg (fun K hK => ?_) | refine vm_dregx (fun K hK => ?_) | refine clp_q ?_ | refine clq_mk (by assumption) ?_ | refine mcq_q ?_ | (apply mcr_mk; assumption) | (apply ocr_mk; assumption)); simp (disch := (first | omega | assumption)) only [S1, ↓reduceIte, Nat.reduceEqDiff, Nat.reduceAdd, Nat.reduceMul, Nat.reduceDiv, AOp.sb, AOp.mut, frzf, ↓Bool.false_eq_true, beq_self_eq_true, ite_self, Nat.reduceLeDiff, Int.reduceEq, Int.reduceSub, Int.reduceAdd, Int.reduceNeg, Int.reduceLT, Int.reduceLE, Nat.reduceLT, wi, tn_nat, hlt, hx, hz])
            refine hQ _ (n + 1) [] ⟨by omega, by omega, by omega⟩ (by omega) ?_
            simp (disch := (first | omega | assumption)) only [Sl, Sa, Sw, ↓reduceIte, Nat.reduceEqDiff, Nat.reduceLT, List.all_nil, List.all_cons, Nat.reduceBneDiff, Nat.reduceAdd, bne_iff_ne, ne_eq, reduceCtorEq, not_false_eq_true, not_true_eq_false, Bool.and_true, Bool.true_and, and_true, true_and, and_self, i_eq]
            omega
        · have e0 := run_t (p := isAl) hlt' (by simp only [isAl, hx, Bool.true_or])
          have zc11 := isDigit_spec (s.getD n 0)
          repeat first | (refine hK _ ?_; clear hK K) | simp only [Sv, ↓reduceIte, Nat.reduceEqDiff] | ((first | refine vm_reg (fun K hK => ?_) | refine vm_dreg (fun K hK => ?_) | refine vm_dregx (fun K hK => ?_) | refine clp_q ?_ | refine clq_mk (by assumption) ?_ | refine mcq_q ?_ | (apply mcr_mk; assumption) | (apply ocr_mk; assumption)); simp (disch := (first | omega | assumption)) only [S1, ↓reduceIte, Nat.reduceEqDiff, Nat.reduceAdd, Nat.reduceMul, Nat.reduceDiv, AOp.sb, AOp.mut, frzf, ↓Bool.false_eq_true, beq_self_eq_true, ite_self, Nat.reduceLeDiff, Int.reduceEq, Int.reduceSub, Int.reduceAdd, Int.reduceNeg, Int.reduceLT, Int.reduceLE, Nat.reduceLT, wi, tn_nat, hlt, hx])
          refine hQ _ (n + 1) [] ⟨by omega, by omega, by omega⟩ (by omega) ?_
          simp (disch := (first | omega | assumption)) only [Sl, Sa, Sw, ↓reduceIte, Nat.reduceEqDiff, Nat.reduceLT, List.all_nil, List.all_cons, Nat.reduceBneDiff, Nat.reduceAdd, bne_iff_ne, ne_eq, reduceCtorEq, not_false_eq_true, not_true_eq_false, Bool.and_true, Bool.true_and, and_true, true_and, and_self, i_eq]
          omega
      · have e0 := run_e (p := isAl) (s := s) (i := n) (by omega)
        repeat first
          | (refine hK _ ?_; clear hK K)
          | ((first | refine vm_reg (fun K hK => ?_) | refine vm_dreg (fun K hK => ?_) | refine vm_dregx (fun K hK => ?_)); simp (disch := (first | omega | assumption)) only [S1, ↓reduceIte, Nat.reduceEqDiff, Nat.reduceAdd, Nat.reduceMul, Nat.reduceDiv, AOp.sb, AOp.mut, frzf, ↓Bool.false_eq_true, beq_self_eq_true, ite_self, Nat.reduceLeDiff, Int.reduceEq, Int.reduceSub, Int.reduceAdd, Int.reduceNeg, Int.reduceLT, Int.reduceLE, Nat.reduceLT, wi, tn_nat, hlt]; refine hK _ ?_; clear hK K)
          | simp only [Sv, ↓reduceIte, Nat.reduceEqDiff]
        refine he _ _ ?_
        repeat first
          | (refine hK _ ?_; clear hK K)
          | ((first | refine vm_reg (fun K hK => ?_) | refine vm_dreg (fun K hK => ?_) | refine vm_dregx (fun K hK => ?_)); simp (disch := (first | omega | assumption)) only [S1, ↓reduceIte, Nat.reduceEqDiff, Nat.reduceAdd, Nat.reduceMul, Nat.reduceDiv, AOp.sb, AOp.mut, frzf, ↓Bool.false_eq_true, beq_self_eq_true, ite_self, Nat.reduceLeDiff, Int.reduceEq, Int.reduceSub, Int.reduceAdd, Int.reduceNeg, Int.reduceLT, Int.reduceLE, Nat.reduceLT, wi, tn_nat]; refine hK _ ?_; clear hK K)
          | simp only [Sv, ↓reduceIte, Nat.reduceEqDiff]
        simp (disch := (first | omega | assumption)) only [retOk, retN, ret1, retF, ret1F, V.okArg, and_true, true_and, S1, ↓reduceIte, Nat.reduceEqDiff, Nat.reduceAdd, Nat.reduceMul, Nat.reduceDiv, AOp.sb, AOp.mut, frzf, ↓Bool.false_eq_true, beq_self_eq_true, ite_self, Nat.reduceLeDiff, Int.reduceEq, Int.reduceSub, Int.reduceAdd, Int.reduceNeg, Int.reduceLT, Int.reduceLE, Nat.reduceLT, wi, tn_nat, i_eq]
        omega
  · rw [hd] at hrl
    simp only [if_true] at hrl
    have zc12 := isDigit_spec (s.getD 0 0)
    repeat first | (refine hK _ ?_; clear hK K) | simp only [Sv, ↓reduceIte, Nat.reduceEqDiff] | ((first | refine vm_reg (fun K hK => ?_) | refine vm_dreg (fun K hK => ?_) | refine vm_dregx (fun K hK => ?_) | refine clp_q ?_ | refine clq_mk (by assumption) ?_ | refine mcq_q ?_ | (apply mcr_mk; assumption) | (apply ocr_mk; assumption)); simp (disch := (first | omega | assumption)) only [S1, ↓reduceIte, Nat.reduceEqDiff, Nat.reduceAdd, Nat.reduceMul, Nat.reduceDiv, AOp.sb, AOp.mut, frzf, ↓Bool.false_eq_true, beq_self_eq_true, ite_self, Nat.reduceLeDiff, Int.reduceEq, Int.reduceSub, Int.reduceAdd, Int.reduceNeg, Int.reduceLT, Int.reduceLE, Nat.reduceLT, wi, tn_nat, hd, tn0])
    refine vm_loop Nat (fun n => ⟨[(0, .s s), (3, .i .i64 (n : Int))], [], 0⟩) (fun n => 1 ≤ n ∧ n ≤ s.length ∧ run isDig (s.drop 1) = (n - 1) + run isDig (s.drop n)) (fun n => s.length - n) 1 [] ⟨by omega, by omega, by omega⟩ (by
      simp (disch := (first | omega | assumption)) only [Sl, Sa, Sw, ↓reduceIte, Nat.reduceEqDiff, Nat.reduceLT, List.all_nil, List.all_cons, Nat.reduceBneDiff, Nat.reduceAdd, bne_iff_ne, ne_eq, reduceCtorEq, not_false_eq_true, not_true_eq_false, Bool.and_true, Bool.true_and, and_true, true_and, and_self, i_eq]
      omega) ?_
    intro n ⟨hn1, hn2, hrun⟩ Q' hQ he hr
    by_cases hlt : (n : Int) < s.length
    · have hlt' : n < s.length := by omega
      cases hx : isDig (s.getD n 0)
      · have e0 := run_f (p := isDig) hlt' hx
        have zc13 := isDigit_spec (s.getD n 0)
        repeat first | (refine hK _ ?_; clear hK K) | simp only [Sv, ↓reduceIte, Nat.reduceEqDiff] | ((first | refine vm_reg (fun K hK => ?_) | refine vm_dreg (fun K hK => ?_) | refine vm_dregx (fun K hK => ?_) | refine clp_q ?_ | refine clq_mk (by assumption) ?_ | refine mcq_q ?_ | (apply mcr_mk; assumption) | (apply ocr_mk; assumption)); simp (disch := (first | omega | assumption)) only [S1, ↓reduceIte, Nat.reduceEqDiff, Nat.reduceAdd, Nat.reduceMul, Nat.reduceDiv, AOp.sb, AOp.mut, frzf, ↓Bool.false_eq_true, beq_self_eq_true, ite_self, Nat.reduceLeDiff, Int.reduceEq, Int.reduceSub, Int.reduceAdd, Int.reduceNeg, Int.reduceLT, Int.reduceLE, Nat.reduceLT, wi, tn_nat, hlt, hx])
        refine he _ _ ?_
        repeat first
          | (refine hK _ ?_; clear hK K)
          | ((first | refine vm_reg (fun K hK => ?_) | refine vm_dreg (fun K hK => ?_) | refine vm_dregx (fun K hK => ?_)); simp (disch := (first | omega | assumption)) only [S1, ↓reduceIte, Nat.reduceEqDiff, Nat.reduceAdd, Nat.reduceMul, Nat.reduceDiv, AOp.sb, AOp.mut, frzf, ↓Bool.false_eq_true, beq_self_eq_true, ite_self, Nat.reduceLeDiff, Int.reduceEq, Int.reduceSub, Int.reduceAdd, Int.reduceNeg, Int.reduceLT, Int.reduceLE, Nat.reduceLT, wi, tn_nat]; refine hK _ ?_; clear hK K)
          | simp only [Sv, ↓reduceIte, Nat.reduceEqDiff]
        simp (disch := (first | omega | assumption)) only [retOk, retN, ret1, retF, ret1F, V.okArg, and_true, true_and, S1, ↓reduceIte, Nat.reduceEqDiff, Nat.reduceAdd, Nat.reduceMul, Nat.reduceDiv, AOp.sb, AOp.mut, frzf, ↓Bool.false_eq_true, beq_self_eq_true, ite_self, Nat.reduceLeDiff, Int.reduceEq, Int.reduceSub, Int.reduceAdd, Int.reduceNeg, Int.reduceLT, Int.reduceLE, Nat.reduceLT, wi, tn_nat, i_eq]
        omega
      · have e0 := run_t (p := isDig) hlt' hx
        have zc14 := isDigit_spec (s.getD n 0)
        repeat first | (refine hK _ ?_; clear hK K) | simp only [Sv, ↓reduceIte, Nat.reduceEqDiff] | ((first | refine vm_reg (fun K hK => ?_) | refine vm_dreg (fun K hK => ?_) | refine vm_dregx (fun K hK => ?_) | refine clp_q ?_ | refine clq_mk (by assumption) ?_ | refine mcq_q ?_ | (apply mcr_mk; assumption) | (apply ocr_mk; assumption)); simp (disch := (first | omega | assumption)) only [S1, ↓reduceIte, Nat.reduceEqDiff, Nat.reduceAdd, Nat.reduceMul, Nat.reduceDiv, AOp.sb, AOp.mut, frzf, ↓Bool.false_eq_true, beq_self_eq_true, ite_self, Nat.reduceLeDiff, Int.reduceEq, Int.reduceSub, Int.reduceAdd, Int.reduceNeg, Int.reduceLT, Int.reduceLE, Nat.reduceLT, wi, tn_nat, hlt, hx])
        refine hQ _ (n + 1) [] ⟨by omega, by omega, by omega⟩ (by omega) ?_
        simp (disch := (first | omega | assumption)) only [Sl, Sa, Sw, ↓reduceIte, Nat.reduceEqDiff, Nat.reduceLT, List.all_nil, List.all_cons, Nat.reduceBneDiff, Nat.reduceAdd, bne_iff_ne, ne_eq, reduceCtorEq, not_false_eq_true, not_true_eq_false, Bool.and_true, Bool.true_and, and_true, true_and, and_self, i_eq]
        omega
    · have e0 := run_e (p := isDig) (s := s) (i := n) (by omega)
      repeat first
        | (refine hK _ ?_; clear hK K)
        | ((first | refine vm_reg (fun K hK => ?_) | refine vm_dreg (fun K hK => ?_) | refine vm_dregx (fun K hK => ?_)); simp (disch := (first | omega | assumption)) only [S1, ↓reduceIte, Nat.reduceEqDiff, Nat.reduceAdd, Nat.reduceMul, Nat.reduceDiv, AOp.sb, AOp.mut, frzf, ↓Bool.false_eq_true, beq_self_eq_true, ite_self, Nat.reduceLeDiff, Int.reduceEq, Int.reduceSub, Int.reduceAdd, Int.reduceNeg, Int.reduceLT, Int.reduceLE, Nat.reduceLT, wi, tn_nat, hlt]; refine hK _ ?_; clear hK K)
        | simp only [Sv, ↓reduceIte, Nat.reduceEqDiff]
      refine he _ _ ?_
      repeat first
        | (refine hK _ ?_; clear hK K)
        | ((first | refine vm_reg (fun K hK => ?_) | refine vm_dreg (fun K hK => ?_) | refine vm_dregx (fun K hK => ?_)); simp (disch := (first | omega | assumption)) only [S1, ↓reduceIte, Nat.reduceEqDiff, Nat.reduceAdd, Nat.reduceMul, Nat.reduceDiv, AOp.sb, AOp.mut, frzf, ↓Bool.false_eq_true, beq_self_eq_true, ite_self, Nat.reduceLeDiff, Int.reduceEq, Int.reduceSub, Int.reduceAdd, Int.reduceNeg, Int.reduceLT, Int.reduceLE, Nat.reduceLT, wi, tn_nat]; refine hK _ ?_; clear hK K)
        | simp only [Sv, ↓reduceIte, Nat.reduceEqDiff]
      simp (disch := (first | omega | assumption)) only [retOk, retN, ret1, retF, ret1F, V.okArg, and_true, true_and, S1, ↓reduceIte, Nat.reduceEqDiff, Nat.reduceAdd, Nat.reduceMul, Nat.reduceDiv, AOp.sb, AOp.mut, frzf, ↓Bool.false_eq_true, beq_self_eq_true, ite_self, Nat.reduceLeDiff, Int.reduceEq, Int.reduceSub, Int.reduceAdd, Int.reduceNeg, Int.reduceLT, Int.reduceLE, Nat.reduceLT, wi, tn_nat, i_eq]
      omega
end Go.Proofs.Ytjfbkegdnljfjaa
