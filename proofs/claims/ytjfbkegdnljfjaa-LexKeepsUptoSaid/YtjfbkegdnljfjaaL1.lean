/-
  lex: the tests of bytes; rows; kinds.
-/
import Derived.Test.YtjfbkegdnljfjaaGD
import Derived.Test.YtjfbkegdnljfjaaLM
import Derived.Laws.StandIn
namespace Go.Proofs.Ytjfbkegdnljfjaa
open Go Go.RowKit Ab
set_option linter.unusedSimpArgs false
set_option linter.unusedVariables false
set_option maxHeartbeats 10000000
theorem cc (c : UInt8) : ((c.toNat : Nat) : Int).toNat = c.toNat := rfl
theorem cl (c : UInt8) : c.toNat < 256 := c.toNat_lt
def a20 : AC := .seq (.reg [⟨some 2, none, .mv (.k (.b false))⟩])
 (.seq (.reg [⟨some 3, none, .mv (.t 0)⟩,
 ⟨some 4, none, .bin .eql (.t 3) (.k (.i .u8 32))⟩,
 ⟨some 5, none, .mv (.t 4)⟩,
 ⟨some 6, some (5, false), .mv (.t 0)⟩,
 ⟨some 7, some (5, false), .bin .eql (.t 6) (.k (.i .u8 9))⟩,
 ⟨some 8, none, .pick (.t 5) (.k (.b true)) (.t 7)⟩,
 ⟨some 2, none, .mv (.t 8)⟩])
 (.ret))
theorem isBlank_spec (c : UInt8) : AFun Try.prog J0 20 [.i .u8 (c.toNat : Int)] (.b (isBl c)) := by
  refine AFun.mk fol J0s Try.func20 rfl (ac := a20) (by kernel_rfl) rfl rfl rfl ?_
  apply vm_start
  unfold a20
  simp only [init_eq, initE]
  have hc := cl c
  by_cases h1 : (c.toNat : Int) = 32
  · have e : isBl c = true := by unfold isBl; rw [decide_eq_true_eq]; omega
    rw [e]
    repeat first | (refine hK _ ?_; clear hK K) | simp only [Sv, ↓reduceIte, Nat.reduceEqDiff] | ((first | refine vm_reg (fun K hK => ?_) | refine vm_dreg (fun K hK => ?_) | refine vm_dregx (fun K hK => ?_)); simp (disch := (first | omega | assumption)) only [S1, ↓reduceIte, Nat.reduceEqDiff, Nat.reduceAdd, Nat.reduceMul, Nat.reduceDiv, AOp.sb, AOp.mut, frzf, ↓Bool.false_eq_true, beq_self_eq_true, ite_self, Nat.reduceLeDiff, Int.reduceEq, Int.reduceSub, Int.reduceAdd, Int.reduceNeg, Int.reduceLT, Int.reduceLE, Nat.reduceLT, wi, cc, h1])
    simp (disch := (first | omega | assumption)) only [retOk, retN, ret1, retF, ret1F, V.okArg, and_true, true_and, S1, ↓reduceIte, Nat.reduceEqDiff, Nat.reduceAdd, Nat.reduceMul, Nat.reduceDiv, AOp.sb, AOp.mut, frzf, ↓Bool.false_eq_true, beq_self_eq_true, ite_self, Nat.reduceLeDiff, Int.reduceEq, Int.reduceSub, Int.reduceAdd, Int.reduceNeg, Int.reduceLT, Int.reduceLE, Nat.reduceLT, wi, cc, h1]
  · by_cases h2 : (c.toNat : Int) = 9
    · have e : isBl c = true := by unfold isBl; rw [decide_eq_true_eq]; omega
      rw [e]
      repeat first | (refine hK _ ?_; clear hK K) | simp only [Sv, ↓reduceIte, Nat.reduceEqDiff] | ((first | refine vm_reg (fun K hK => ?_) | refine vm_dreg (fun K hK => ?_) | refine vm_dregx (fun K hK => ?_)); simp (disch := (first | omega | assumption)) only [S1, ↓reduceIte, Nat.reduceEqDiff, Nat.reduceAdd, Nat.reduceMul, Nat.reduceDiv, AOp.sb, AOp.mut, frzf, ↓Bool.false_eq_true, beq_self_eq_true, ite_self, Nat.reduceLeDiff, Int.reduceEq, Int.reduceSub, Int.reduceAdd, Int.reduceNeg, Int.reduceLT, Int.reduceLE, Nat.reduceLT, wi, cc, h1, h2])
      simp (disch := (first | omega | assumption)) only [retOk, retN, ret1, retF, ret1F, V.okArg, and_true, true_and, S1, ↓reduceIte, Nat.reduceEqDiff, Nat.reduceAdd, Nat.reduceMul, Nat.reduceDiv, AOp.sb, AOp.mut, frzf, ↓Bool.false_eq_true, beq_self_eq_true, ite_self, Nat.reduceLeDiff, Int.reduceEq, Int.reduceSub, Int.reduceAdd, Int.reduceNeg, Int.reduceLT, Int.reduceLE, Nat.reduceLT, wi, cc, h1, h2]
    · have e : isBl c = false := by unfold isBl; rw [decide_eq_false_iff_not]; omega
      rw [e]
      repeat first | (refine hK _ ?_; clear hK K) | simp only [Sv, ↓reduceIte, Nat.reduceEqDiff] | ((first | refine vm_reg (fun K hK => ?_) | refine vm_dreg (fun K hK => ?_) | refine vm_dregx (fun K hK => ?_)); simp (disch := (first | omega | assumption)) only [S1, ↓reduceIte, Nat.reduceEqDiff, Nat.reduceAdd, Nat.reduceMul, Nat.reduceDiv, AOp.sb, AOp.mut, frzf, ↓Bool.false_eq_true, beq_self_eq_true, ite_self, Nat.reduceLeDiff, Int.reduceEq, Int.reduceSub, Int.reduceAdd, Int.reduceNeg, Int.reduceLT, Int.reduceLE, Nat.reduceLT, wi, cc, h1, h2])
      simp (disch := (first | omega | assumption)) only [retOk, retN, ret1, retF, ret1F, V.okArg, and_true, true_and, S1, ↓reduceIte, Nat.reduceEqDiff, Nat.reduceAdd, Nat.reduceMul, Nat.reduceDiv, AOp.sb, AOp.mut, frzf, ↓Bool.false_eq_true, beq_self_eq_true, ite_self, Nat.reduceLeDiff, Int.reduceEq, Int.reduceSub, Int.reduceAdd, Int.reduceNeg, Int.reduceLT, Int.reduceLE, Nat.reduceLT, wi, cc, h1, h2]
def a36 : AC := .seq (.reg [⟨some 2, none, .mv (.k (.b false))⟩])
 (.seq (.reg [⟨some 3, none, .mv (.t 0)⟩,
 ⟨some 4, none, .bin .geq (.t 3) (.k (.i .u8 48))⟩,
 ⟨some 5, none, .mv (.t 4)⟩,
 ⟨some 6, some (5, true), .mv (.t 0)⟩,
 ⟨some 7, some (5, true), .bin .leq (.t 6) (.k (.i .u8 57))⟩,
 ⟨some 8, none, .pick (.t 5) (.t 7) (.k (.b false))⟩,
 ⟨some 2, none, .mv (.t 8)⟩])
 (.ret))
theorem isDigit_spec (c : UInt8) : AFun Try.prog J0 36 [.i .u8 (c.toNat : Int)] (.b (isDig c)) := by
  refine AFun.mk fol J0s Try.func36 rfl (ac := a36) (by kernel_rfl) rfl rfl rfl ?_
  apply vm_start
  unfold a36
  simp only [init_eq, initE]
  have hc := cl c
  by_cases h1 : 48 ≤ (c.toNat : Int)
  · by_cases h2 : (c.toNat : Int) ≤ 57
    · have e : isDig c = true := by unfold isDig; rw [decide_eq_true_eq]; omega
      rw [e]
      repeat first | (refine hK _ ?_; clear hK K) | simp only [Sv, ↓reduceIte, Nat.reduceEqDiff] | ((first | refine vm_reg (fun K hK => ?_) | refine vm_dreg (fun K hK => ?_) | refine vm_dregx (fun K hK => ?_)); simp (disch := (first | omega | assumption)) only [S1, ↓reduceIte, Nat.reduceEqDiff, Nat.reduceAdd, Nat.reduceMul, Nat.reduceDiv, AOp.sb, AOp.mut, frzf, ↓Bool.false_eq_true, beq_self_eq_true, ite_self, Nat.reduceLeDiff, Int.reduceEq, Int.reduceSub, Int.reduceAdd, Int.reduceNeg, Int.reduceLT, Int.reduceLE, Nat.reduceLT, wi, cc, h1, h2])
      simp (disch := (first | omega | assumption)) only [retOk, retN, ret1, retF, ret1F, V.okArg, and_true, true_and, S1, ↓reduceIte, Nat.reduceEqDiff, Nat.reduceAdd, Nat.reduceMul, Nat.reduceDiv, AOp.sb, AOp.mut, frzf, ↓Bool.false_eq_true, beq_self_eq_true, ite_self, Nat.reduceLeDiff, Int.reduceEq, Int.reduceSub, Int.reduceAdd, Int.reduceNeg, Int.reduceLT, Int.reduceLE, Nat.reduceLT, wi, cc, h1, h2]
    · have e : isDig c = false := by unfold isDig; rw [decide_eq_false_iff_not]; omega
      rw [e]
      repeat first | (refine hK _ ?_; clear hK K) | simp only [Sv, ↓reduceIte, Nat.reduceEqDiff] | ((first | refine vm_reg (fun K hK => ?_) | refine vm_dreg (fun K hK => ?_) | refine vm_dregx (fun K hK => ?_)); simp (disch := (first | omega | assumption)) only [S1, ↓reduceIte, Nat.reduceEqDiff, Nat.reduceAdd, Nat.reduceMul, Nat.reduceDiv, AOp.sb, AOp.mut, frzf, ↓Bool.false_eq_true, beq_self_eq_true, ite_self, Nat.reduceLeDiff, Int.reduceEq, Int.reduceSub, Int.reduceAdd, Int.reduceNeg, Int.reduceLT, Int.reduceLE, Nat.reduceLT, wi, cc, h1, h2])
      simp (disch := (first | omega | assumption)) only [retOk, retN, ret1, retF, ret1F, V.okArg, and_true, true_and, S1, ↓reduceIte, Nat.reduceEqDiff, Nat.reduceAdd, Nat.reduceMul, Nat.reduceDiv, AOp.sb, AOp.mut, frzf, ↓Bool.false_eq_true, beq_self_eq_true, ite_self, Nat.reduceLeDiff, Int.reduceEq, Int.reduceSub, Int.reduceAdd, Int.reduceNeg, Int.reduceLT, Int.reduceLE, Nat.reduceLT, wi, cc, h1, h2]
  · have e : isDig c = false := by unfold isDig; rw [decide_eq_false_iff_not]; omega
    rw [e]
    repeat first | (refine hK _ ?_; clear hK K) | simp only [Sv, ↓reduceIte, Nat.reduceEqDiff] | ((first | refine vm_reg (fun K hK => ?_) | refine vm_dreg (fun K hK => ?_) | refine vm_dregx (fun K hK => ?_)); simp (disch := (first | omega | assumption)) only [S1, ↓reduceIte, Nat.reduceEqDiff, Nat.reduceAdd, Nat.reduceMul, Nat.reduceDiv, AOp.sb, AOp.mut, frzf, ↓Bool.false_eq_true, beq_self_eq_true, ite_self, Nat.reduceLeDiff, Int.reduceEq, Int.reduceSub, Int.reduceAdd, Int.reduceNeg, Int.reduceLT, Int.reduceLE, Nat.reduceLT, wi, cc, h1])
    simp (disch := (first | omega | assumption)) only [retOk, retN, ret1, retF, ret1F, V.okArg, and_true, true_and, S1, ↓reduceIte, Nat.reduceEqDiff, Nat.reduceAdd, Nat.reduceMul, Nat.reduceDiv, AOp.sb, AOp.mut, frzf, ↓Bool.false_eq_true, beq_self_eq_true, ite_self, Nat.reduceLeDiff, Int.reduceEq, Int.reduceSub, Int.reduceAdd, Int.reduceNeg, Int.reduceLT, Int.reduceLE, Nat.reduceLT, wi, cc, h1]
def a39 : AC := .seq (.reg [⟨some 2, none, .mv (.k (.b false))⟩])
 (.seq (.reg [⟨some 3, none, .mv (.t 0)⟩,
 ⟨some 4, none, .bin .geq (.t 3) (.k (.i .u8 97))⟩,
 ⟨some 5, none, .mv (.t 4)⟩,
 ⟨some 6, some (5, true), .mv (.t 0)⟩,
 ⟨some 7, some (5, true), .bin .leq (.t 6) (.k (.i .u8 122))⟩,
 ⟨some 8, none, .pick (.t 5) (.t 7) (.k (.b false))⟩,
 ⟨some 2, none, .mv (.t 8)⟩])
 (.ret))
theorem isSmall_spec (c : UInt8) : AFun Try.prog J0 39 [.i .u8 (c.toNat : Int)] (.b (isSm c)) := by
  refine AFun.mk fol J0s Try.func39 rfl (ac := a39) (by kernel_rfl) rfl rfl rfl ?_
  apply vm_start
  unfold a39
  simp only [init_eq, initE]
  have hc := cl c
  by_cases h1 : 97 ≤ (c.toNat : Int)
  · by_cases h2 : (c.toNat : Int) ≤ 122
    · have e : isSm c = true := by unfold isSm; rw [decide_eq_true_eq]; omega
      rw [e]
      repeat first | (refine hK _ ?_; clear hK K) | simp only [Sv, ↓reduceIte, Nat.reduceEqDiff] | ((first | refine vm_reg (fun K hK => ?_) | refine vm_dreg (fun K hK => ?_) | refine vm_dregx (fun K hK => ?_)); simp (disch := (first | omega | assumption)) only [S1, ↓reduceIte, Nat.reduceEqDiff, Nat.reduceAdd, Nat.reduceMul, Nat.reduceDiv, AOp.sb, AOp.mut, frzf, ↓Bool.false_eq_true, beq_self_eq_true, ite_self, Nat.reduceLeDiff, Int.reduceEq, Int.reduceSub, Int.reduceAdd, Int.reduceNeg, Int.reduceLT, Int.reduceLE, Nat.reduceLT, wi, cc, h1, h2])
      simp (disch := (first | omega | assumption)) only [retOk, retN, ret1, retF, ret1F, V.okArg, and_true, true_and, S1, ↓reduceIte, Nat.reduceEqDiff, Nat.reduceAdd, Nat.reduceMul, Nat.reduceDiv, AOp.sb, AOp.mut, frzf, ↓Bool.false_eq_true, beq_self_eq_true, ite_self, Nat.reduceLeDiff, Int.reduceEq, Int.reduceSub, Int.reduceAdd, Int.reduceNeg, Int.reduceLT, Int.reduceLE, Nat.reduceLT, wi, cc, h1, h2]
    · have e : isSm c = false := by unfold isSm; rw [decide_eq_false_iff_not]; omega
      rw [e]
      repeat first | (refine hK _ ?_; clear hK K) | simp only [Sv, ↓reduceIte, Nat.reduceEqDiff] | ((first | refine vm_reg (fun K hK => ?_) | refine vm_dreg (fun K hK => ?_) | refine vm_dregx (fun K hK => ?_)); simp (disch := (first | omega | assumption)) only [S1, ↓reduceIte, Nat.reduceEqDiff, Nat.reduceAdd, Nat.reduceMul, Nat.reduceDiv, AOp.sb, AOp.mut, frzf, ↓Bool.false_eq_true, beq_self_eq_true, ite_self, Nat.reduceLeDiff, Int.reduceEq, Int.reduceSub, Int.reduceAdd, Int.reduceNeg, Int.reduceLT, Int.reduceLE, Nat.reduceLT, wi, cc, h1, h2])
      simp (disch := (first | omega | assumption)) only [retOk, retN, ret1, retF, ret1F, V.okArg, and_true, true_and, S1, ↓reduceIte, Nat.reduceEqDiff, Nat.reduceAdd, Nat.reduceMul, Nat.reduceDiv, AOp.sb, AOp.mut, frzf, ↓Bool.false_eq_true, beq_self_eq_true, ite_self, Nat.reduceLeDiff, Int.reduceEq, Int.reduceSub, Int.reduceAdd, Int.reduceNeg, Int.reduceLT, Int.reduceLE, Nat.reduceLT, wi, cc, h1, h2]
  · have e : isSm c = false := by unfold isSm; rw [decide_eq_false_iff_not]; omega
    rw [e]
    repeat first | (refine hK _ ?_; clear hK K) | simp only [Sv, ↓reduceIte, Nat.reduceEqDiff] | ((first | refine vm_reg (fun K hK => ?_) | refine vm_dreg (fun K hK => ?_) | refine vm_dregx (fun K hK => ?_)); simp (disch := (first | omega | assumption)) only [S1, ↓reduceIte, Nat.reduceEqDiff, Nat.reduceAdd, Nat.reduceMul, Nat.reduceDiv, AOp.sb, AOp.mut, frzf, ↓Bool.false_eq_true, beq_self_eq_true, ite_self, Nat.reduceLeDiff, Int.reduceEq, Int.reduceSub, Int.reduceAdd, Int.reduceNeg, Int.reduceLT, Int.reduceLE, Nat.reduceLT, wi, cc, h1])
    simp (disch := (first | omega | assumption)) only [retOk, retN, ret1, retF, ret1F, V.okArg, and_true, true_and, S1, ↓reduceIte, Nat.reduceEqDiff, Nat.reduceAdd, Nat.reduceMul, Nat.reduceDiv, AOp.sb, AOp.mut, frzf, ↓Bool.false_eq_true, beq_self_eq_true, ite_self, Nat.reduceLeDiff, Int.reduceEq, Int.reduceSub, Int.reduceAdd, Int.reduceNeg, Int.reduceLT, Int.reduceLE, Nat.reduceLT, wi, cc, h1]
def a40 : AC := .seq (.reg [⟨some 2, none, .mv (.k (.b false))⟩])
 (.seq (.reg [⟨some 3, none, .mv (.t 0)⟩,
 ⟨some 4, none, .bin .geq (.t 3) (.k (.i .u8 65))⟩,
 ⟨some 5, none, .mv (.t 4)⟩,
 ⟨some 6, some (5, true), .mv (.t 0)⟩,
 ⟨some 7, some (5, true), .bin .leq (.t 6) (.k (.i .u8 90))⟩,
 ⟨some 8, none, .pick (.t 5) (.t 7) (.k (.b false))⟩,
 ⟨some 2, none, .mv (.t 8)⟩])
 (.ret))
theorem isCapital_spec (c : UInt8) : AFun Try.prog J0 40 [.i .u8 (c.toNat : Int)] (.b (isCap c)) := by
  refine AFun.mk fol J0s Try.func40 rfl (ac := a40) (by kernel_rfl) rfl rfl rfl ?_
  apply vm_start
  unfold a40
  simp only [init_eq, initE]
  have hc := cl c
  by_cases h1 : 65 ≤ (c.toNat : Int)
  · by_cases h2 : (c.toNat : Int) ≤ 90
    · have e : isCap c = true := by unfold isCap; rw [decide_eq_true_eq]; omega
      rw [e]
      repeat first | (refine hK _ ?_; clear hK K) | simp only [Sv, ↓reduceIte, Nat.reduceEqDiff] | ((first | refine vm_reg (fun K hK => ?_) | refine vm_dreg (fun K hK => ?_) | refine vm_dregx (fun K hK => ?_)); simp (disch := (first | omega | assumption)) only [S1, ↓reduceIte, Nat.reduceEqDiff, Nat.reduceAdd, Nat.reduceMul, Nat.reduceDiv, AOp.sb, AOp.mut, frzf, ↓Bool.false_eq_true, beq_self_eq_true, ite_self, Nat.reduceLeDiff, Int.reduceEq, Int.reduceSub, Int.reduceAdd, Int.reduceNeg, Int.reduceLT, Int.reduceLE, Nat.reduceLT, wi, cc, h1, h2])
      simp (disch := (first | omega | assumption)) only [retOk, retN, ret1, retF, ret1F, V.okArg, and_true, true_and, S1, ↓reduceIte, Nat.reduceEqDiff, Nat.reduceAdd, Nat.reduceMul, Nat.reduceDiv, AOp.sb, AOp.mut, frzf, ↓Bool.false_eq_true, beq_self_eq_true, ite_self, Nat.reduceLeDiff, Int.reduceEq, Int.reduceSub, Int.reduceAdd, Int.reduceNeg, Int.reduceLT, Int.reduceLE, Nat.reduceLT, wi, cc, h1, h2]
    · have e : isCap c = false := by unfold isCap; rw [decide_eq_false_iff_not]; omega
      rw [e]
      repeat first | (refine hK _ ?_; clear hK K) | simp only [Sv, ↓reduceIte, Nat.reduceEqDiff] | ((first | refine vm_reg (fun K hK => ?_) | refine vm_dreg (fun K hK => ?_) | refine vm_dregx (fun K hK => ?_)); simp (disch := (first | omega | assumption)) only [S1, ↓reduceIte, Nat.reduceEqDiff, Nat.reduceAdd, Nat.reduceMul, Nat.reduceDiv, AOp.sb, AOp.mut, frzf, ↓Bool.false_eq_true, beq_self_eq_true, ite_self, Nat.reduceLeDiff, Int.reduceEq, Int.reduceSub, Int.reduceAdd, Int.reduceNeg, Int.reduceLT, Int.reduceLE, Nat.reduceLT, wi, cc, h1, h2])
      simp (disch := (first | omega | assumption)) only [retOk, retN, ret1, retF, ret1F, V.okArg, and_true, true_and, S1, ↓reduceIte, Nat.reduceEqDiff, Nat.reduceAdd, Nat.reduceMul, Nat.reduceDiv, AOp.sb, AOp.mut, frzf, ↓Bool.false_eq_true, beq_self_eq_true, ite_self, Nat.reduceLeDiff, Int.reduceEq, Int.reduceSub, Int.reduceAdd, Int.reduceNeg, Int.reduceLT, Int.reduceLE, Nat.reduceLT, wi, cc, h1, h2]
  · have e : isCap c = false := by unfold isCap; rw [decide_eq_false_iff_not]; omega
    rw [e]
    repeat first | (refine hK _ ?_; clear hK K) | simp only [Sv, ↓reduceIte, Nat.reduceEqDiff] | ((first | refine vm_reg (fun K hK => ?_) | refine vm_dreg (fun K hK => ?_) | refine vm_dregx (fun K hK => ?_)); simp (disch := (first | omega | assumption)) only [S1, ↓reduceIte, Nat.reduceEqDiff, Nat.reduceAdd, Nat.reduceMul, Nat.reduceDiv, AOp.sb, AOp.mut, frzf, ↓Bool.false_eq_true, beq_self_eq_true, ite_self, Nat.reduceLeDiff, Int.reduceEq, Int.reduceSub, Int.reduceAdd, Int.reduceNeg, Int.reduceLT, Int.reduceLE, Nat.reduceLT, wi, cc, h1])
    simp (disch := (first | omega | assumption)) only [retOk, retN, ret1, retF, ret1F, V.okArg, and_true, true_and, S1, ↓reduceIte, Nat.reduceEqDiff, Nat.reduceAdd, Nat.reduceMul, Nat.reduceDiv, AOp.sb, AOp.mut, frzf, ↓Bool.false_eq_true, beq_self_eq_true, ite_self, Nat.reduceLeDiff, Int.reduceEq, Int.reduceSub, Int.reduceAdd, Int.reduceNeg, Int.reduceLT, Int.reduceLE, Nat.reduceLT, wi, cc, h1]
def a15 : AC := .seq (.reg [⟨some 2, none, .mv (.k (.b false))⟩])
 (.seq (.reg [⟨some 3, none, .mv (.t 0)⟩,
 ⟨some 4, none, .bin .eql (.t 3) (.k (.i .u8 32))⟩,
 ⟨some 5, none, .mv (.t 4)⟩,
 ⟨some 6, some (5, false), .mv (.t 0)⟩,
 ⟨some 7, some (5, false), .bin .eql (.t 6) (.k (.i .u8 9))⟩,
 ⟨some 8, none, .pick (.t 5) (.k (.b true)) (.t 7)⟩,
 ⟨some 2, none, .mv (.t 8)⟩])
 (.ret))
theorem rblank_spec (c : UInt8) : AFun Try.prog J0 15 [.i .u8 (c.toNat : Int)] (.b (isBl c)) := by
  refine AFun.mk fol J0s Try.func15 rfl (ac := a15) (by kernel_rfl) rfl rfl rfl ?_
  apply vm_start
  unfold a15
  simp only [init_eq, initE]
  have hc := cl c
  by_cases h1 : (c.toNat : Int) = 32
  · have e : isBl c = true := by unfold isBl; rw [decide_eq_true_eq]; omega
    rw [e]
    repeat first | (refine hK _ ?_; clear hK K) | simp only [Sv, ↓reduceIte, Nat.reduceEqDiff] | ((first | refine vm_reg (fun K hK => ?_) | refine vm_dreg (fun K hK => ?_) | refine vm_dregx (fun K hK => ?_)); simp (disch := (first | omega | assumption)) only [S1, ↓reduceIte, Nat.reduceEqDiff, Nat.reduceAdd, Nat.reduceMul, Nat.reduceDiv, AOp.sb, AOp.mut, frzf, ↓Bool.false_eq_true, beq_self_eq_true, ite_self, Nat.reduceLeDiff, Int.reduceEq, Int.reduceSub, Int.reduceAdd, Int.reduceNeg, Int.reduceLT, Int.reduceLE, Nat.reduceLT, wi, cc, h1])
    simp (disch := (first | omega | assumption)) only [retOk, retN, ret1, retF, ret1F, V.okArg, and_true, true_and, S1, ↓reduceIte, Nat.reduceEqDiff, Nat.reduceAdd, Nat.reduceMul, Nat.reduceDiv, AOp.sb, AOp.mut, frzf, ↓Bool.false_eq_true, beq_self_eq_true, ite_self, Nat.reduceLeDiff, Int.reduceEq, Int.reduceSub, Int.reduceAdd, Int.reduceNeg, Int.reduceLT, Int.reduceLE, Nat.reduceLT, wi, cc, h1]
  · by_cases h2 : (c.toNat : Int) = 9
    · have e : isBl c = true := by unfold isBl; rw [decide_eq_true_eq]; omega
      rw [e]
      repeat first | (refine hK _ ?_; clear hK K) | simp only [Sv, ↓reduceIte, Nat.reduceEqDiff] | ((first | refine vm_reg (fun K hK => ?_) | refine vm_dreg (fun K hK => ?_) | refine vm_dregx (fun K hK => ?_)); simp (disch := (first | omega | assumption)) only [S1, ↓reduceIte, Nat.reduceEqDiff, Nat.reduceAdd, Nat.reduceMul, Nat.reduceDiv, AOp.sb, AOp.mut, frzf, ↓Bool.false_eq_true, beq_self_eq_true, ite_self, Nat.reduceLeDiff, Int.reduceEq, Int.reduceSub, Int.reduceAdd, Int.reduceNeg, Int.reduceLT, Int.reduceLE, Nat.reduceLT, wi, cc, h1, h2])
      simp (disch := (first | omega | assumption)) only [retOk, retN, ret1, retF, ret1F, V.okArg, and_true, true_and, S1, ↓reduceIte, Nat.reduceEqDiff, Nat.reduceAdd, Nat.reduceMul, Nat.reduceDiv, AOp.sb, AOp.mut, frzf, ↓Bool.false_eq_true, beq_self_eq_true, ite_self, Nat.reduceLeDiff, Int.reduceEq, Int.reduceSub, Int.reduceAdd, Int.reduceNeg, Int.reduceLT, Int.reduceLE, Nat.reduceLT, wi, cc, h1, h2]
    · have e : isBl c = false := by unfold isBl; rw [decide_eq_false_iff_not]; omega
      rw [e]
      repeat first | (refine hK _ ?_; clear hK K) | simp only [Sv, ↓reduceIte, Nat.reduceEqDiff] | ((first | refine vm_reg (fun K hK => ?_) | refine vm_dreg (fun K hK => ?_) | refine vm_dregx (fun K hK => ?_)); simp (disch := (first | omega | assumption)) only [S1, ↓reduceIte, Nat.reduceEqDiff, Nat.reduceAdd, Nat.reduceMul, Nat.reduceDiv, AOp.sb, AOp.mut, frzf, ↓Bool.false_eq_true, beq_self_eq_true, ite_self, Nat.reduceLeDiff, Int.reduceEq, Int.reduceSub, Int.reduceAdd, Int.reduceNeg, Int.reduceLT, Int.reduceLE, Nat.reduceLT, wi, cc, h1, h2])
      simp (disch := (first | omega | assumption)) only [retOk, retN, ret1, retF, ret1F, V.okArg, and_true, true_and, S1, ↓reduceIte, Nat.reduceEqDiff, Nat.reduceAdd, Nat.reduceMul, Nat.reduceDiv, AOp.sb, AOp.mut, frzf, ↓Bool.false_eq_true, beq_self_eq_true, ite_self, Nat.reduceLeDiff, Int.reduceEq, Int.reduceSub, Int.reduceAdd, Int.reduceNeg, Int.reduceLT, Int.reduceLE, Nat.reduceLT, wi, cc, h1, h2]
def a32 : AC := .seq (.reg [⟨some 2, none, .mv (.k (.b false))⟩])
 (.seq (.reg [⟨some 3, none, .mv (.t 0)⟩,
 ⟨some 4, none, .bin .geq (.t 3) (.k (.i .u8 48))⟩,
 ⟨some 5, none, .mv (.t 4)⟩,
 ⟨some 6, some (5, true), .mv (.t 0)⟩,
 ⟨some 7, some (5, true), .bin .leq (.t 6) (.k (.i .u8 57))⟩,
 ⟨some 8, none, .pick (.t 5) (.t 7) (.k (.b false))⟩,
 ⟨some 2, none, .mv (.t 8)⟩])
 (.ret))
theorem rdigit_spec (c : UInt8) : AFun Try.prog J0 32 [.i .u8 (c.toNat : Int)] (.b (isDig c)) := by
  refine AFun.mk fol J0s Try.func32 rfl (ac := a32) (by kernel_rfl) rfl rfl rfl ?_
  apply vm_start
  unfold a32
  simp only [init_eq, initE]
  have hc := cl c
  by_cases h1 : 48 ≤ (c.toNat : Int)
  · by_cases h2 : (c.toNat : Int) ≤ 57
    · have e : isDig c = true := by unfold isDig; rw [decide_eq_true_eq]; omega
      rw [e]
      repeat first | (refine hK _ ?_; clear hK K) | simp only [Sv, ↓reduceIte, Nat.reduceEqDiff] | ((first | refine vm_reg (fun K hK => ?_) | refine vm_dreg (fun K hK => ?_) | refine vm_dregx (fun K hK => ?_)); simp (disch := (first | omega | assumption)) only [S1, ↓reduceIte, Nat.reduceEqDiff, Nat.reduceAdd, Nat.reduceMul, Nat.reduceDiv, AOp.sb, AOp.mut, frzf, ↓Bool.false_eq_true, beq_self_eq_true, ite_self, Nat.reduceLeDiff, Int.reduceEq, Int.reduceSub, Int.reduceAdd, Int.reduceNeg, Int.reduceLT, Int.reduceLE, Nat.reduceLT, wi, cc, h1, h2])
      simp (disch := (first | omega | assumption)) only [retOk, retN, ret1, retF, ret1F, V.okArg, and_true, true_and, S1, ↓reduceIte, Nat.reduceEqDiff, Nat.reduceAdd, Nat.reduceMul, Nat.reduceDiv, AOp.sb, AOp.mut, frzf, ↓Bool.false_eq_true, beq_self_eq_true, ite_self, Nat.reduceLeDiff, Int.reduceEq, Int.reduceSub, Int.reduceAdd, Int.reduceNeg, Int.reduceLT, Int.reduceLE, Nat.reduceLT, wi, cc, h1, h2]
    · have e : isDig c = false := by unfold isDig; rw [decide_eq_false_iff_not]; omega
      rw [e]
      repeat first | (refine hK _ ?_; clear hK K) | simp only [Sv, ↓reduceIte, Nat.reduceEqDiff] | ((first | refine vm_reg (fun K hK => ?_) | refine vm_dreg (fun K hK => ?_) | refine vm_dregx (fun K hK => ?_)); simp (disch := (first | omega | assumption)) only [S1, ↓reduceIte, Nat.reduceEqDiff, Nat.reduceAdd, Nat.reduceMul, Nat.reduceDiv, AOp.sb, AOp.mut, frzf, ↓Bool.false_eq_true, beq_self_eq_true, ite_self, Nat.reduceLeDiff, Int.reduceEq, Int.reduceSub, Int.reduceAdd, Int.reduceNeg, Int.reduceLT, Int.reduceLE, Nat.reduceLT, wi, cc, h1, h2])
      simp (disch := (first | omega | assumption)) only [retOk, retN, ret1, retF, ret1F, V.okArg, and_true, true_and, S1, ↓reduceIte, Nat.reduceEqDiff, Nat.reduceAdd, Nat.reduceMul, Nat.reduceDiv, AOp.sb, AOp.mut, frzf, ↓Bool.false_eq_true, beq_self_eq_true, ite_self, Nat.reduceLeDiff, Int.reduceEq, Int.reduceSub, Int.reduceAdd, Int.reduceNeg, Int.reduceLT, Int.reduceLE, Nat.reduceLT, wi, cc, h1, h2]
  · have e : isDig c = false := by unfold isDig; rw [decide_eq_false_iff_not]; omega
    rw [e]
    repeat first | (refine hK _ ?_; clear hK K) | simp only [Sv, ↓reduceIte, Nat.reduceEqDiff] | ((first | refine vm_reg (fun K hK => ?_) | refine vm_dreg (fun K hK => ?_) | refine vm_dregx (fun K hK => ?_)); simp (disch := (first | omega | assumption)) only [S1, ↓reduceIte, Nat.reduceEqDiff, Nat.reduceAdd, Nat.reduceMul, Nat.reduceDiv, AOp.sb, AOp.mut, frzf, ↓Bool.false_eq_true, beq_self_eq_true, ite_self, Nat.reduceLeDiff, Int.reduceEq, Int.reduceSub, Int.reduceAdd, Int.reduceNeg, Int.reduceLT, Int.reduceLE, Nat.reduceLT, wi, cc, h1])
    simp (disch := (first | omega | assumption)) only [retOk, retN, ret1, retF, ret1F, V.okArg, and_true, true_and, S1, ↓reduceIte, Nat.reduceEqDiff, Nat.reduceAdd, Nat.reduceMul, Nat.reduceDiv, AOp.sb, AOp.mut, frzf, ↓Bool.false_eq_true, beq_self_eq_true, ite_self, Nat.reduceLeDiff, Int.reduceEq, Int.reduceSub, Int.reduceAdd, Int.reduceNeg, Int.reduceLT, Int.reduceLE, Nat.reduceLT, wi, cc, h1]
def a33 : AC := .seq (.reg [⟨some 2, none, .mv (.k (.b false))⟩])
 (.seq (.reg [⟨some 3, none, .mv (.t 0)⟩,
 ⟨some 4, none, .bin .geq (.t 3) (.k (.i .u8 97))⟩,
 ⟨some 5, none, .mv (.t 4)⟩,
 ⟨some 6, some (5, true), .mv (.t 0)⟩,
 ⟨some 7, some (5, true), .bin .leq (.t 6) (.k (.i .u8 122))⟩,
 ⟨some 8, none, .pick (.t 5) (.t 7) (.k (.b false))⟩,
 ⟨some 2, none, .mv (.t 8)⟩])
 (.ret))
theorem rsmall_spec (c : UInt8) : AFun Try.prog J0 33 [.i .u8 (c.toNat : Int)] (.b (isSm c)) := by
  refine AFun.mk fol J0s Try.func33 rfl (ac := a33) (by kernel_rfl) rfl rfl rfl ?_
  apply vm_start
  unfold a33
  simp only [init_eq, initE]
  have hc := cl c
  by_cases h1 : 97 ≤ (c.toNat : Int)
  · by_cases h2 : (c.toNat : Int) ≤ 122
    · have e : isSm c = true := by unfold isSm; rw [decide_eq_true_eq]; omega
      rw [e]
      repeat first | (refine hK _ ?_; clear hK K) | simp only [Sv, ↓reduceIte, Nat.reduceEqDiff] | ((first | refine vm_reg (fun K hK => ?_) | refine vm_dreg (fun K hK => ?_) | refine vm_dregx (fun K hK => ?_)); simp (disch := (first | omega | assumption)) only [S1, ↓reduceIte, Nat.reduceEqDiff, Nat.reduceAdd, Nat.reduceMul, Nat.reduceDiv, AOp.sb, AOp.mut, frzf, ↓Bool.false_eq_true, beq_self_eq_true, ite_self, Nat.reduceLeDiff, Int.reduceEq, Int.reduceSub, Int.reduceAdd, Int.reduceNeg, Int.reduceLT, Int.reduceLE, Nat.reduceLT, wi, cc, h1, h2])
      simp (disch := (first | omega | assumption)) only [retOk, retN, ret1, retF, ret1F, V.okArg, and_true, true_and, S1, ↓reduceIte, Nat.reduceEqDiff, Nat.reduceAdd, Nat.reduceMul, Nat.reduceDiv, AOp.sb, AOp.mut, frzf, ↓Bool.false_eq_true, beq_self_eq_true, ite_self, Nat.reduceLeDiff, Int.reduceEq, Int.reduceSub, Int.reduceAdd, Int.reduceNeg, Int.reduceLT, Int.reduceLE, Nat.reduceLT, wi, cc, h1, h2]
    · have e : isSm c = false := by unfold isSm; rw [decide_eq_false_iff_not]; omega
      rw [e]
      repeat first | (refine hK _ ?_; clear hK K) | simp only [Sv, ↓reduceIte, Nat.reduceEqDiff] | ((first | refine vm_reg (fun K hK => ?_) | refine vm_dreg (fun K hK => ?_) | refine vm_dregx (fun K hK => ?_)); simp (disch := (first | omega | assumption)) only [S1, ↓reduceIte, Nat.reduceEqDiff, Nat.reduceAdd, Nat.reduceMul, Nat.reduceDiv, AOp.sb, AOp.mut, frzf, ↓Bool.false_eq_true, beq_self_eq_true, ite_self, Nat.reduceLeDiff, Int.reduceEq, Int.reduceSub, Int.reduceAdd, Int.reduceNeg, Int.reduceLT, Int.reduceLE, Nat.reduceLT, wi, cc, h1, h2])
      simp (disch := (first | omega | assumption)) only [retOk, retN, ret1, retF, ret1F, V.okArg, and_true, true_and, S1, ↓reduceIte, Nat.reduceEqDiff, Nat.reduceAdd, Nat.reduceMul, Nat.reduceDiv, AOp.sb, AOp.mut, frzf, ↓Bool.false_eq_true, beq_self_eq_true, ite_self, Nat.reduceLeDiff, Int.reduceEq, Int.reduceSub, Int.reduceAdd, Int.reduceNeg, Int.reduceLT, Int.reduceLE, Nat.reduceLT, wi, cc, h1, h2]
  · have e : isSm c = false := by unfold isSm; rw [decide_eq_false_iff_not]; omega
    rw [e]
    repeat first | (refine hK _ ?_; clear hK K) | simp only [Sv, ↓reduceIte, Nat.reduceEqDiff] | ((first | refine vm_reg (fun K hK => ?_) | refine vm_dreg (fun K hK => ?_) | refine vm_dregx (fun K hK => ?_)); simp (disch := (first | omega | assumption)) only [S1, ↓reduceIte, Nat.reduceEqDiff, Nat.reduceAdd, Nat.reduceMul, Nat.reduceDiv, AOp.sb, AOp.mut, frzf, ↓Bool.false_eq_true, beq_self_eq_true, ite_self, Nat.reduceLeDiff, Int.reduceEq, Int.reduceSub, Int.reduceAdd, Int.reduceNeg, Int.reduceLT, Int.reduceLE, Nat.reduceLT, wi, cc, h1])
    simp (disch := (first | omega | assumption)) only [retOk, retN, ret1, retF, ret1F, V.okArg, and_true, true_and, S1, ↓reduceIte, Nat.reduceEqDiff, Nat.reduceAdd, Nat.reduceMul, Nat.reduceDiv, AOp.sb, AOp.mut, frzf, ↓Bool.false_eq_true, beq_self_eq_true, ite_self, Nat.reduceLeDiff, Int.reduceEq, Int.reduceSub, Int.reduceAdd, Int.reduceNeg, Int.reduceLT, Int.reduceLE, Nat.reduceLT, wi, cc, h1]
def a34 : AC := .seq (.reg [⟨some 2, none, .mv (.k (.b false))⟩])
 (.seq (.reg [⟨some 3, none, .mv (.t 0)⟩,
 ⟨some 4, none, .bin .geq (.t 3) (.k (.i .u8 65))⟩,
 ⟨some 5, none, .mv (.t 4)⟩,
 ⟨some 6, some (5, true), .mv (.t 0)⟩,
 ⟨some 7, some (5, true), .bin .leq (.t 6) (.k (.i .u8 90))⟩,
 ⟨some 8, none, .pick (.t 5) (.t 7) (.k (.b false))⟩,
 ⟨some 2, none, .mv (.t 8)⟩])
 (.ret))
theorem rcapital_spec (c : UInt8) : AFun Try.prog J0 34 [.i .u8 (c.toNat : Int)] (.b (isCap c)) := by
  refine AFun.mk fol J0s Try.func34 rfl (ac := a34) (by kernel_rfl) rfl rfl rfl ?_
  apply vm_start
  unfold a34
  simp only [init_eq, initE]
  have hc := cl c
  by_cases h1 : 65 ≤ (c.toNat : Int)
  · by_cases h2 : (c.toNat : Int) ≤ 90
    · have e : isCap c = true := by unfold isCap; rw [decide_eq_true_eq]; omega
      rw [e]
      repeat first | (refine hK _ ?_; clear hK K) | simp only [Sv, ↓reduceIte, Nat.reduceEqDiff] | ((first | refine vm_reg (fun K hK => ?_) | refine vm_dreg (fun K hK => ?_) | refine vm_dregx (fun K hK => ?_)); simp (disch := (first | omega | assumption)) only [S1, ↓reduceIte, Nat.reduceEqDiff, Nat.reduceAdd, Nat.reduceMul, Nat.reduceDiv, AOp.sb, AOp.mut, frzf, ↓Bool.false_eq_true, beq_self_eq_true, ite_self, Nat.reduceLeDiff, Int.reduceEq, Int.reduceSub, Int.reduceAdd, Int.reduceNeg, Int.reduceLT, Int.reduceLE, Nat.reduceLT, wi, cc, h1, h2])
      simp (disch := (first | omega | assumption)) only [retOk, retN, ret1, retF, ret1F, V.okArg, and_true, true_and, S1, ↓reduceIte, Nat.reduceEqDiff, Nat.reduceAdd, Nat.reduceMul, Nat.reduceDiv, AOp.sb, AOp.mut, frzf, ↓Bool.false_eq_true, beq_self_eq_true, ite_self, Nat.reduceLeDiff, Int.reduceEq, Int.reduceSub, Int.reduceAdd, Int.reduceNeg, Int.reduceLT, Int.reduceLE, Nat.reduceLT, wi, cc, h1, h2]
    · have e : isCap c = false := by unfold isCap; rw [decide_eq_false_iff_not]; omega
      rw [e]
      repeat first | (refine hK _ ?_; clear hK K) | simp only [Sv, ↓reduceIte, Nat.reduceEqDiff] | ((first | refine vm_reg (fun K hK => ?_) | refine vm_dreg (fun K hK => ?_) | refine vm_dregx (fun K hK => ?_)); simp (disch := (first | omega | assumption)) only [S1, ↓reduceIte, Nat.reduceEqDiff, Nat.reduceAdd, Nat.reduceMul, Nat.reduceDiv, AOp.sb, AOp.mut, frzf, ↓Bool.false_eq_true, beq_self_eq_true, ite_self, Nat.reduceLeDiff, Int.reduceEq, Int.reduceSub, Int.reduceAdd, Int.reduceNeg, Int.reduceLT, Int.reduceLE, Nat.reduceLT, wi, cc, h1, h2])
      simp (disch := (first | omega | assumption)) only [retOk, retN, ret1, retF, ret1F, V.okArg, and_true, true_and, S1, ↓reduceIte, Nat.reduceEqDiff, Nat.reduceAdd, Nat.reduceMul, Nat.reduceDiv, AOp.sb, AOp.mut, frzf, ↓Bool.false_eq_true, beq_self_eq_true, ite_self, Nat.reduceLeDiff, Int.reduceEq, Int.reduceSub, Int.reduceAdd, Int.reduceNeg, Int.reduceLT, Int.reduceLE, Nat.reduceLT, wi, cc, h1, h2]
  · have e : isCap c = false := by unfold isCap; rw [decide_eq_false_iff_not]; omega
    rw [e]
    repeat first | (refine hK _ ?_; clear hK K) | simp only [Sv, ↓reduceIte, Nat.reduceEqDiff] | ((first | refine vm_reg (fun K hK => ?_) | refine vm_dreg (fun K hK => ?_) | refine vm_dregx (fun K hK => ?_)); simp (disch := (first | omega | assumption)) only [S1, ↓reduceIte, Nat.reduceEqDiff, Nat.reduceAdd, Nat.reduceMul, Nat.reduceDiv, AOp.sb, AOp.mut, frzf, ↓Bool.false_eq_true, beq_self_eq_true, ite_self, Nat.reduceLeDiff, Int.reduceEq, Int.reduceSub, Int.reduceAdd, Int.reduceNeg, Int.reduceLT, Int.reduceLE, Nat.reduceLT, wi, cc, h1])
    simp (disch := (first | omega | assumption)) only [retOk, retN, ret1, retF, ret1F, V.okArg, and_true, true_and, S1, ↓reduceIte, Nat.reduceEqDiff, Nat.reduceAdd, Nat.reduceMul, Nat.reduceDiv, AOp.sb, AOp.mut, frzf, ↓Bool.false_eq_true, beq_self_eq_true, ite_self, Nat.reduceLeDiff, Int.reduceEq, Int.reduceSub, Int.reduceAdd, Int.reduceNeg, Int.reduceLT, Int.reduceLE, Nat.reduceLT, wi, cc, h1]
def a37 : AC := .seq (.reg [⟨some 2, none, .mv (.k (.b false))⟩])
 (.seq (.reg [⟨some 3, none, .mv (.t 0)⟩,
 ⟨some 4, none, .call 39 [(1, (.t 3))]⟩,
 ⟨some 5, none, .mv (.t 4)⟩,
 ⟨some 6, some (5, false), .mv (.t 0)⟩,
 ⟨some 7, some (5, false), .call 40 [(1, (.t 6))]⟩,
 ⟨some 8, none, .pick (.t 5) (.k (.b true)) (.t 7)⟩,
 ⟨some 2, none, .mv (.t 8)⟩])
 (.ret))
theorem isLetter_spec (c : UInt8) : AFun Try.prog J0 37 [.i .u8 (c.toNat : Int)] (.b (isLet c)) := by
  refine AFun.mk fol J0s Try.func37 rfl (ac := a37) (by kernel_rfl) rfl rfl rfl ?_
  apply vm_start
  unfold a37
  simp only [init_eq, initE]
  cases h : isSm c
  · have zc1 := isSmall_spec c
    have zc2 := isCapital_spec c
    repeat first | (refine hK _ ?_; clear hK K) | simp only [Sv, ↓reduceIte, Nat.reduceEqDiff] | ((first | refine vm_reg (fun K hK => ?_) | refine vm_dreg (fun K hK => ?_) | refine vm_dregx (fun K hK => ?_) | refine clp_q ?_ | refine clq_mk (by assumption) ?_ | refine mcq_q ?_ | (apply mcr_mk; assumption) | (apply ocr_mk; assumption)); simp (disch := (first | omega | assumption)) only [S1, ↓reduceIte, Nat.reduceEqDiff, Nat.reduceAdd, Nat.reduceMul, Nat.reduceDiv, AOp.sb, AOp.mut, frzf, ↓Bool.false_eq_true, beq_self_eq_true, ite_self, Nat.reduceLeDiff, Int.reduceEq, Int.reduceSub, Int.reduceAdd, Int.reduceNeg, Int.reduceLT, Int.reduceLE, Nat.reduceLT, wi, cc, h, isLet, Bool.false_or])
    simp (disch := (first | omega | assumption)) only [retOk, retN, ret1, retF, ret1F, V.okArg, and_true, true_and, S1, ↓reduceIte, Nat.reduceEqDiff, Nat.reduceAdd, Nat.reduceMul, Nat.reduceDiv, AOp.sb, AOp.mut, frzf, ↓Bool.false_eq_true, beq_self_eq_true, ite_self, Nat.reduceLeDiff, Int.reduceEq, Int.reduceSub, Int.reduceAdd, Int.reduceNeg, Int.reduceLT, Int.reduceLE, Nat.reduceLT, wi, cc, h, isLet, Bool.false_or]
  · have zc3 := isSmall_spec c
    repeat first | (refine hK _ ?_; clear hK K) | simp only [Sv, ↓reduceIte, Nat.reduceEqDiff] | ((first | refine vm_reg (fun K hK => ?_) | refine vm_dreg (fun K hK => ?_) | refine vm_dregx (fun K hK => ?_) | refine clp_q ?_ | refine clq_mk (by assumption) ?_ | refine mcq_q ?_ | (apply mcr_mk; assumption) | (apply ocr_mk; assumption)); simp (disch := (first | omega | assumption)) only [S1, ↓reduceIte, Nat.reduceEqDiff, Nat.reduceAdd, Nat.reduceMul, Nat.reduceDiv, AOp.sb, AOp.mut, frzf, ↓Bool.false_eq_true, beq_self_eq_true, ite_self, Nat.reduceLeDiff, Int.reduceEq, Int.reduceSub, Int.reduceAdd, Int.reduceNeg, Int.reduceLT, Int.reduceLE, Nat.reduceLT, wi, cc, h, isLet, Bool.true_or])
    simp (disch := (first | omega | assumption)) only [retOk, retN, ret1, retF, ret1F, V.okArg, and_true, true_and, S1, ↓reduceIte, Nat.reduceEqDiff, Nat.reduceAdd, Nat.reduceMul, Nat.reduceDiv, AOp.sb, AOp.mut, frzf, ↓Bool.false_eq_true, beq_self_eq_true, ite_self, Nat.reduceLeDiff, Int.reduceEq, Int.reduceSub, Int.reduceAdd, Int.reduceNeg, Int.reduceLT, Int.reduceLE, Nat.reduceLT, wi, cc, h, isLet, Bool.true_or]
theorem sym_idx (c : UInt8) : decide (firstIdx ⟨symbols.toArray⟩ c < 0) = !isSym c := by
  have key : ∀ n : Nat, n < 256 → decide (firstIdx ⟨symbols.toArray⟩ (UInt8.ofNat n) < 0) = !isSym (UInt8.ofNat n) := by decide +kernel
  have := key c.toNat (cl c)
  rwa [UInt8.ofNat_toNat] at this
theorem indexByteString_x (l : List UInt8) (c : UInt8) : XFun Try.prog 46 [.s l, .i .u8 (c.toNat : Int)] (.i .i64 (firstIdx ⟨l.toArray⟩ c)) := by
  intro w H ov vs hl hr
  match vs, hl with
  | [a, b], _ =>
    have h1 := (hr 0 a _ rfl rfl).inv_s
    have h2 := (hr 1 b _ rfl rfl).inv_i
    subst h1 h2
    refine ⟨_, by rw [run_callFunc_indexByte Try.func46 (by kernel_rfl) (by kernel_rfl) (by kernel_rfl) (by kernel_rfl), run_indexByte_string]; rfl, ?_⟩
    have : (c.toNat : Int).toNat.toUInt8 = c := by rw [cc]; simp
    rw [this]; exact .i _ _
def a43 : AC := .seq (.reg [⟨some 4, none, .mv (.k (.i .i64 0))⟩])
 (.seq (.reg [⟨some 5, none, .mv (.t 0)⟩,
 ⟨some 6, none, .mv (.t 1)⟩,
 ⟨some 7, none, .xcall 46 [(.t 5), (.t 6)]⟩,
 ⟨some 4, none, .mv (.t 7)⟩])
 (.ret))
theorem sliteIndexByte_spec (l : List UInt8) (c : UInt8) : AFun Try.prog J0 43 [.s l, .i .u8 (c.toNat : Int)] (.i .i64 (firstIdx ⟨l.toArray⟩ c)) := by
  refine AFun.mk fol J0s Try.func43 rfl (ac := a43) (by kernel_rfl) rfl rfl rfl ?_
  apply vm_start
  unfold a43
  simp only [init_eq, initE]
  repeat first | (refine hK _ ?_; clear hK K) | simp only [Sv, ↓reduceIte, Nat.reduceEqDiff] | ((first | refine vm_reg (fun K hK => ?_) | refine vm_dreg (fun K hK => ?_) | refine vm_dregx (fun K hK => ?_)); simp (disch := (first | omega | assumption)) only [S1, ↓reduceIte, Nat.reduceEqDiff, Nat.reduceAdd, Nat.reduceMul, Nat.reduceDiv, AOp.sb, AOp.mut, frzf, ↓Bool.false_eq_true, beq_self_eq_true, ite_self, Nat.reduceLeDiff, Int.reduceEq, Int.reduceSub, Int.reduceAdd, Int.reduceNeg, Int.reduceLT, Int.reduceLE, Nat.reduceLT, wi, cc])
  refine xlp_mk _ (indexByteString_x l c) ?_
  simp (disch := (first | omega | assumption)) only [S1, ↓reduceIte, Nat.reduceEqDiff, Nat.reduceAdd, Nat.reduceMul, Nat.reduceDiv, AOp.sb, AOp.mut, frzf, ↓Bool.false_eq_true, beq_self_eq_true, ite_self, Nat.reduceLeDiff, Int.reduceEq, Int.reduceSub, Int.reduceAdd, Int.reduceNeg, Int.reduceLT, Int.reduceLE, Nat.reduceLT, wi, cc]
  repeat first | (refine hK _ ?_; clear hK K) | simp only [Sv, ↓reduceIte, Nat.reduceEqDiff] | ((first | refine vm_reg (fun K hK => ?_) | refine vm_dreg (fun K hK => ?_) | refine vm_dregx (fun K hK => ?_)); simp (disch := (first | omega | assumption)) only [S1, ↓reduceIte, Nat.reduceEqDiff, Nat.reduceAdd, Nat.reduceMul, Nat.reduceDiv, AOp.sb, AOp.mut, frzf, ↓Bool.false_eq_true, beq_self_eq_true, ite_self, Nat.reduceLeDiff, Int.reduceEq, Int.reduceSub, Int.reduceAdd, Int.reduceNeg, Int.reduceLT, Int.reduceLE, Nat.reduceLT, wi, cc])
  simp (disch := (first | omega | assumption)) only [retOk, retN, ret1, retF, ret1F, V.okArg, and_true, true_and, S1, ↓reduceIte, Nat.reduceEqDiff, Nat.reduceAdd, Nat.reduceMul, Nat.reduceDiv, AOp.sb, AOp.mut, frzf, ↓Bool.false_eq_true, beq_self_eq_true, ite_self, Nat.reduceLeDiff, Int.reduceEq, Int.reduceSub, Int.reduceAdd, Int.reduceNeg, Int.reduceLT, Int.reduceLE, Nat.reduceLT, wi, cc]
def a38 : AC := .seq (.reg [⟨some 4, none, .mv (.k (.i .i64 0))⟩])
 (.seq (.reg [⟨some 5, none, .mv (.t 0)⟩,
 ⟨some 6, none, .mv (.t 1)⟩,
 ⟨some 7, none, .call 43 [(1, (.t 5)), (1, (.t 6))]⟩,
 ⟨some 4, none, .mv (.t 7)⟩])
 (.ret))
theorem indexByte_spec (l : List UInt8) (c : UInt8) : AFun Try.prog J0 38 [.s l, .i .u8 (c.toNat : Int)] (.i .i64 (firstIdx ⟨l.toArray⟩ c)) := by
  refine AFun.mk fol J0s Try.func38 rfl (ac := a38) (by kernel_rfl) rfl rfl rfl ?_
  apply vm_start
  unfold a38
  simp only [init_eq, initE]
  have zc4 := sliteIndexByte_spec l c
  repeat first | (refine hK _ ?_; clear hK K) | simp only [Sv, ↓reduceIte, Nat.reduceEqDiff] | ((first | refine vm_reg (fun K hK => ?_) | refine vm_dreg (fun K hK => ?_) | refine vm_dregx (fun K hK => ?_) | refine clp_q ?_ | refine clq_mk (by assumption) ?_ | refine mcq_q ?_ | (apply mcr_mk; assumption) | (apply ocr_mk; assumption)); simp (disch := (first | omega | assumption)) only [S1, ↓reduceIte, Nat.reduceEqDiff, Nat.reduceAdd, Nat.reduceMul, Nat.reduceDiv, AOp.sb, AOp.mut, frzf, ↓Bool.false_eq_true, beq_self_eq_true, ite_self, Nat.reduceLeDiff, Int.reduceEq, Int.reduceSub, Int.reduceAdd, Int.reduceNeg, Int.reduceLT, Int.reduceLE, Nat.reduceLT, wi, cc])
  simp (disch := (first | omega | assumption)) only [retOk, retN, ret1, retF, ret1F, V.okArg, and_true, true_and, S1, ↓reduceIte, Nat.reduceEqDiff, Nat.reduceAdd, Nat.reduceMul, Nat.reduceDiv, AOp.sb, AOp.mut, frzf, ↓Bool.false_eq_true, beq_self_eq_true, ite_self, Nat.reduceLeDiff, Int.reduceEq, Int.reduceSub, Int.reduceAdd, Int.reduceNeg, Int.reduceLT, Int.reduceLE, Nat.reduceLT, wi, cc]
def a35 : AC := .seq (.reg [⟨some 2, none, .mv (.k (.b false))⟩])
 (.seq (.reg [⟨some 3, none, .mv (.k (.s [43, 45, 42, 47, 94, 40, 41, 61]))⟩])
 (.seq (.seq (.reg [⟨some 4, none, .mv (.k (.i .i64 0))⟩])
 (.blk 0
 (.loop
 (.seq (.seq (.reg [⟨some 5, none, .mv (.t 4)⟩,
 ⟨some 6, none, .mv (.t 3)⟩,
 ⟨some 7, none, .slen (.t 6)⟩,
 ⟨some 8, none, .bin .lss (.t 5) (.t 7)⟩])
 (.cond (.t 8)
 (.skip)
 (.exit 0)))
 (.seq (.blk 1
 (.seq (.reg [⟨some 11, none, .mv (.t 3)⟩,
 ⟨some 12, none, .mv (.t 4)⟩,
 ⟨some 13, none, .six (.t 11) (.t 12)⟩,
 ⟨some 14, none, .mv (.t 0)⟩,
 ⟨some 15, none, .bin .eql (.t 13) (.t 14)⟩])
 (.cond (.t 15)
 (.seq (.reg [⟨some 2, none, .mv (.k (.b true))⟩])
 (.ret))
 (.skip))))
 (.reg [⟨some 9, none, .mv (.t 4)⟩,
 ⟨some 10, none, .bin .add (.t 9) (.k (.i .i64 1))⟩,
 ⟨some 4, none, .mv (.t 10)⟩]))))))
 (.seq (.reg [⟨some 2, none, .mv (.k (.b false))⟩])
 (.ret))))
theorem rsymbol_spec (c : UInt8) : AFun Try.prog J0 35 [.i .u8 (c.toNat : Int)] (.b (isSym c)) := by
  refine AFun.mk fol J0s Try.func35 rfl (ac := a35) (by kernel_rfl) rfl rfl rfl ?_
  apply vm_start
  unfold a35
  simp only [init_eq, initE]
  repeat first
    | (refine hK _ ?_; clear hK K)
    | ((first | refine vm_reg (fun K hK => ?_) | refine vm_dreg (fun K hK => ?_) | refine vm_dregx (fun K hK => ?_)); simp (disch := (first | omega | assumption)) only [S1, ↓reduceIte, Nat.reduceEqDiff, Nat.reduceAdd, Nat.reduceMul, Nat.reduceDiv, AOp.sb, AOp.mut, frzf, ↓Bool.false_eq_true, beq_self_eq_true, ite_self, Nat.reduceLeDiff, Int.reduceEq, Int.reduceSub, Int.reduceAdd, Int.reduceNeg, Int.reduceLT, Int.reduceLE, Nat.reduceLT, wi, cc]; refine hK _ ?_; clear hK K)
    | simp only [Sv, ↓reduceIte, Nat.reduceEqDiff]
  refine vm_loop Nat (fun i => ⟨[(0, .i .u8 (c.toNat : Int)), (3, .s symbols), (4, .i .i64 (i : Int))], [], 0⟩) (fun i => i ≤ 8 ∧ (symbols.take i).contains c = false) (fun i => 8 - i) 0 [] ⟨by omega, rfl⟩ (by
    simp (disch := (first | omega | assumption)) only [Sl, Sa, Sw, ↓reduceIte, Nat.reduceEqDiff, Nat.reduceLT, List.all_nil, List.all_cons, Nat.reduceBneDiff, Nat.reduceAdd, bne_iff_ne, ne_eq, reduceCtorEq, not_false_eq_true, not_true_eq_false, Bool.and_true, Bool.true_and, and_true, true_and, and_self, i_eq]
    exact ⟨rfl, rfl⟩) ?_
  intro i ⟨hi, hc⟩ Q' hQ he hr
  by_cases h : (i : Int) < 8
  · have hl : symbols.length = 8 := rfl
    by_cases h2 : (((symbols.getD i 0).toNat : Nat) : Int) = (c.toNat : Int)
    · repeat first
        | (refine hK _ ?_; clear hK K)
        | ((first | refine vm_reg (fun K hK => ?_) | refine vm_dreg (fun K hK => ?_) | refine vm_dregx (fun K hK => ?_)); simp (disch := (first | omega | assumption)) only [S1, ↓reduceIte, Nat.reduceEqDiff, Nat.reduceAdd, Nat.reduceMul, Nat.reduceDiv, AOp.sb, AOp.mut, frzf, ↓Bool.false_eq_true, beq_self_eq_true, ite_self, Nat.reduceLeDiff, Int.reduceEq, Int.reduceSub, Int.reduceAdd, Int.reduceNeg, Int.reduceLT, Int.reduceLE, Nat.reduceLT, wi, cc, h, hl, h2, tn_nat]; refine hK _ ?_; clear hK K)
        | simp only [Sv, ↓reduceIte, Nat.reduceEqDiff]
      refine hr _ ?_
      have e : symbols.getD i 0 = c := UInt8.toNat_inj.1 (by omega)
      have : isSym c = true := by
        unfold isSym
        rw [List.contains_iff_mem, ← e, List.getD_eq_getElem?_getD, List.getElem?_eq_getElem (by rw [hl]; omega)]
        exact List.getElem_mem _
      simp (disch := (first | omega | assumption)) only [retOk, retN, ret1, retF, ret1F, V.okArg, and_true, true_and, S1, ↓reduceIte, Nat.reduceEqDiff, Nat.reduceAdd, Nat.reduceMul, Nat.reduceDiv, AOp.sb, AOp.mut, frzf, ↓Bool.false_eq_true, beq_self_eq_true, ite_self, Nat.reduceLeDiff, Int.reduceEq, Int.reduceSub, Int.reduceAdd, Int.reduceNeg, Int.reduceLT, Int.reduceLE, Nat.reduceLT, wi, cc, this]
    · repeat first
        | (refine hK _ ?_; clear hK K)
        | ((first | refine vm_reg (fun K hK => ?_) | refine vm_dreg (fun K hK => ?_) | refine vm_dregx (fun K hK => ?_)); simp (disch := (first | omega | assumption)) only [S1, ↓reduceIte, Nat.reduceEqDiff, Nat.reduceAdd, Nat.reduceMul, Nat.reduceDiv, AOp.sb, AOp.mut, frzf, ↓Bool.false_eq_true, beq_self_eq_true, ite_self, Nat.reduceLeDiff, Int.reduceEq, Int.reduceSub, Int.reduceAdd, Int.reduceNeg, Int.reduceLT, Int.reduceLE, Nat.reduceLT, wi, cc, h, hl, h2, tn_nat]; refine hK _ ?_; clear hK K)
        | simp only [Sv, ↓reduceIte, Nat.reduceEqDiff]
      refine hQ _ (i + 1) [] ⟨by omega, ?_⟩ (by omega) ?_
      · rw [List.take_succ_eq_append_getElem (by rw [hl]; omega), Bool.eq_false_iff, ne_eq, List.contains_iff_mem, List.mem_append, List.mem_singleton]
        rintro (h3 | h3)
        · rw [← List.contains_iff_mem, hc] at h3; cases h3
        · rw [List.getD_eq_getElem?_getD, List.getElem?_eq_getElem (by rw [hl]; omega)] at h2
          exact h2 (by rw [h3]; rfl)
      · simp (disch := (first | omega | assumption)) only [Sl, Sa, Sw, ↓reduceIte, Nat.reduceEqDiff, Nat.reduceLT, List.all_nil, List.all_cons, Nat.reduceBneDiff, Nat.reduceAdd, bne_iff_ne, ne_eq, reduceCtorEq, not_false_eq_true, not_true_eq_false, Bool.and_true, Bool.true_and, and_true, true_and, and_self, i_eq]
        omega
  · have hl : symbols.length = 8 := rfl
    repeat first
      | (refine hK _ ?_; clear hK K)
      | ((first | refine vm_reg (fun K hK => ?_) | refine vm_dreg (fun K hK => ?_) | refine vm_dregx (fun K hK => ?_)); simp (disch := (first | omega | assumption)) only [S1, ↓reduceIte, Nat.reduceEqDiff, Nat.reduceAdd, Nat.reduceMul, Nat.reduceDiv, AOp.sb, AOp.mut, frzf, ↓Bool.false_eq_true, beq_self_eq_true, ite_self, Nat.reduceLeDiff, Int.reduceEq, Int.reduceSub, Int.reduceAdd, Int.reduceNeg, Int.reduceLT, Int.reduceLE, Nat.reduceLT, wi, cc, h, hl]; refine hK _ ?_; clear hK K)
      | simp only [Sv, ↓reduceIte, Nat.reduceEqDiff]
    refine he _ _ ?_
    have e : isSym c = false := by
      obtain rfl : i = 8 := by omega
      exact hc
    repeat first
      | (refine hK _ ?_; clear hK K)
      | ((first | refine vm_reg (fun K hK => ?_) | refine vm_dreg (fun K hK => ?_) | refine vm_dregx (fun K hK => ?_)); simp (disch := (first | omega | assumption)) only [S1, ↓reduceIte, Nat.reduceEqDiff, Nat.reduceAdd, Nat.reduceMul, Nat.reduceDiv, AOp.sb, AOp.mut, frzf, ↓Bool.false_eq_true, beq_self_eq_true, ite_self, Nat.reduceLeDiff, Int.reduceEq, Int.reduceSub, Int.reduceAdd, Int.reduceNeg, Int.reduceLT, Int.reduceLE, Nat.reduceLT, wi, cc]; refine hK _ ?_; clear hK K)
      | simp only [Sv, ↓reduceIte, Nat.reduceEqDiff]
    simp (disch := (first | omega | assumption)) only [retOk, retN, ret1, retF, ret1F, V.okArg, and_true, true_and, S1, ↓reduceIte, Nat.reduceEqDiff, Nat.reduceAdd, Nat.reduceMul, Nat.reduceDiv, AOp.sb, AOp.mut, frzf, ↓Bool.false_eq_true, beq_self_eq_true, ite_self, Nat.reduceLeDiff, Int.reduceEq, Int.reduceSub, Int.reduceAdd, Int.reduceNeg, Int.reduceLT, Int.reduceLE, Nat.reduceLT, wi, cc, e]
end Go.Proofs.Ytjfbkegdnljfjaa
