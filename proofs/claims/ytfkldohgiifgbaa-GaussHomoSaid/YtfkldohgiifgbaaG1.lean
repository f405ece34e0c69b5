/-
  zpoly.Norm; gauss: sizes, sums, products.
-/
import Derived.Test.YtfkldohgiifgbaaGM
import Derived.Test.YtfkldohgiifgbaaF5
import Derived.Test.YtfkldohgiifgbaaZC
namespace Go.Proofs.Ytfkldohgiifgbaa
open Go Go.RowKit Ab
set_option linter.unusedSimpArgs false
set_option linter.unusedVariables false
set_option maxHeartbeats 10000000
theorem bz_G1 : type_of% (And.intro @W_len (And.intro @D_len (And.intro @Nat.div_one (And.intro @Nat.mul_one (And.intro @tn_nat (And.intro @W_nf (And.intro @D_nf (And.intro @W_nil (And.intro @D_nil (And.intro @wi (And.intro @nf_g (And.intro @Bool.false_and (And.intro @W_cell (And.intro @ZC_cell (@ZC_nil))))))))))))))) := And.intro @W_len (And.intro @D_len (And.intro @Nat.div_one (And.intro @Nat.mul_one (And.intro @tn_nat (And.intro @W_nf (And.intro @D_nf (And.intro @W_nil (And.intro @D_nil (And.intro @wi (And.intro @nf_g (And.intro @Bool.false_and (And.intro @W_cell (And.intro @ZC_cell (@ZC_nil))))))))))))))

abbrev nV (z : GZ) : V := .g [.i .i64 z.1, .i .i64 z.2]
def gabs (n : Int) : Nat := min n.natAbs SM
theorem gabs_lt {n : Int} (h : n.natAbs < SM) : gabs n = n.natAbs := Nat.min_eq_left (Nat.le_of_lt h)
theorem gabs_ge {n : Int} (h : ¬ n.natAbs < SM) : gabs n = SM := Nat.min_eq_right (Nat.le_of_not_lt h)
theorem gabs_le (n : Int) : gabs n ≤ SM := Nat.min_le_right _ _
theorem max_abs (n : Int) : max n (0 - n) = (n.natAbs : Int) := by rw [Int.max_def]; split <;> omega
/-- a plain int -/
def Pi (n : Int) : Prop := -9223372036854775808 ≤ n ∧ n < 9223372036854775808

-- surd/gauss.abs
def a65 : AC := .seq (.reg [⟨some 2, none, .mv (.k (.i .i64 0))⟩])
  (.seq (.seq (.reg [⟨some 3, none, .mv (.t 0)⟩, 
        ⟨some 4, none, .bin .leq (.t 3) (.k (.i .i64 (-1125899906842624)))⟩, 
        ⟨some 5, none, .mv (.t 4)⟩, 
        ⟨some 6, some (5, false), .mv (.t 0)⟩, 
        ⟨some 7, some (5, false), .bin .geq (.t 6) (.k (.i .i64 1125899906842624))⟩, 
        ⟨some 8, none, .pick (.t 5) (.k (.b true)) (.t 7)⟩])
    (.cond (.t 8)
    (.seq (.reg [⟨some 2, none, .mv (.k (.i .i64 1125899906842624))⟩])
      (.ret))
    (.skip)))
  (.seq (.reg [⟨some 9, none, .mv (.t 0)⟩, 
      ⟨some 10, none, .mv (.t 0)⟩, 
      ⟨some 11, none, .un .neg (.t 10)⟩, 
      ⟨some 12, none, .mm true (.t 9) (.t 11)⟩, 
      ⟨some 2, none, .mv (.t 12)⟩])
  (.ret)))
theorem gabs_spec (n : Int) : AFun Try.prog J0 65 [.i .i64 n] (.i .i64 ((gabs n : Nat) : Int)) := by
  have hm := max_abs n
  by_cases h : n.natAbs < SM
  · rw [gabs_lt h]
    simp only [SM] at h
    have h1 : ¬ n ≤ -1125899906842624 := by omega
    have h2 : ¬ 1125899906842624 ≤ n := by omega
    have h3 : IntKind.i64.wrap (0 - n) = 0 - n := wi (by omega)
    refine AFun.mk fol J0s Try.func65 rfl (ac := a65) (by kernel_rfl) rfl rfl ?_
    apply vm_start
    unfold a65
    simp only [init_eq, initE]
    repeat first
      | (refine hK _ ?_; clear hK K)
      | ((first | refine vm_reg (fun K hK => ?_) | refine vm_dreg (fun K hK => ?_)); simp (disch := (first | omega | assumption)) only [S1, ↓reduceIte, Nat.reduceEqDiff, Nat.reduceAdd, Nat.reduceMul, Nat.reduceDiv, AOp.sb, AOp.mut, ↓Bool.false_eq_true, beq_self_eq_true, ite_self, Nat.reduceLeDiff, Int.reduceEq, Int.reduceSub, Int.reduceAdd, Int.reduceNeg, Int.reduceLT, Int.reduceLE, Nat.reduceLT, bz_G1, h1, h2, h3, hm]; refine hK _ ?_; clear hK K)
      | simp only [Sv, ↓reduceIte, Nat.reduceEqDiff]
    simp (disch := (first | omega | assumption)) only [retOk, retN, ret1, retF, ret1F, V.okArg, and_true, true_and, S1, ↓reduceIte, Nat.reduceEqDiff, Nat.reduceAdd, Nat.reduceMul, Nat.reduceDiv, AOp.sb, AOp.mut, ↓Bool.false_eq_true, beq_self_eq_true, ite_self, Nat.reduceLeDiff, Int.reduceEq, Int.reduceSub, Int.reduceAdd, Int.reduceNeg, Int.reduceLT, Int.reduceLE, Nat.reduceLT, bz_G1]
  · rw [gabs_ge h]
    simp only [SM] at h
    by_cases h1 : n ≤ -1125899906842624
    · refine AFun.mk fol J0s Try.func65 rfl (ac := a65) (by kernel_rfl) rfl rfl ?_
      apply vm_start
      unfold a65
      simp only [init_eq, initE]
      repeat first
        | (refine hK _ ?_; clear hK K)
        | ((first | refine vm_reg (fun K hK => ?_) | refine vm_dreg (fun K hK => ?_)); simp (disch := (first | omega | assumption)) only [S1, ↓reduceIte, Nat.reduceEqDiff, Nat.reduceAdd, Nat.reduceMul, Nat.reduceDiv, AOp.sb, AOp.mut, ↓Bool.false_eq_true, beq_self_eq_true, ite_self, Nat.reduceLeDiff, Int.reduceEq, Int.reduceSub, Int.reduceAdd, Int.reduceNeg, Int.reduceLT, Int.reduceLE, Nat.reduceLT, bz_G1, h1]; refine hK _ ?_; clear hK K)
        | simp only [Sv, ↓reduceIte, Nat.reduceEqDiff]
      simp (disch := (first | omega | assumption)) only [retOk, retN, ret1, retF, ret1F, V.okArg, and_true, true_and, S1, ↓reduceIte, Nat.reduceEqDiff, Nat.reduceAdd, Nat.reduceMul, Nat.reduceDiv, AOp.sb, AOp.mut, ↓Bool.false_eq_true, beq_self_eq_true, ite_self, Nat.reduceLeDiff, Int.reduceEq, Int.reduceSub, Int.reduceAdd, Int.reduceNeg, Int.reduceLT, Int.reduceLE, Nat.reduceLT, bz_G1]
    · have h2 : 1125899906842624 ≤ n := by omega
      refine AFun.mk fol J0s Try.func65 rfl (ac := a65) (by kernel_rfl) rfl rfl ?_
      apply vm_start
      unfold a65
      simp only [init_eq, initE]
      repeat first
        | (refine hK _ ?_; clear hK K)
        | ((first | refine vm_reg (fun K hK => ?_) | refine vm_dreg (fun K hK => ?_)); simp (disch := (first | omega | assumption)) only [S1, ↓reduceIte, Nat.reduceEqDiff, Nat.reduceAdd, Nat.reduceMul, Nat.reduceDiv, AOp.sb, AOp.mut, ↓Bool.false_eq_true, beq_self_eq_true, ite_self, Nat.reduceLeDiff, Int.reduceEq, Int.reduceSub, Int.reduceAdd, Int.reduceNeg, Int.reduceLT, Int.reduceLE, Nat.reduceLT, bz_G1, h1, h2]; refine hK _ ?_; clear hK K)
        | simp only [Sv, ↓reduceIte, Nat.reduceEqDiff]
      simp (disch := (first | omega | assumption)) only [retOk, retN, ret1, retF, ret1F, V.okArg, and_true, true_and, S1, ↓reduceIte, Nat.reduceEqDiff, Nat.reduceAdd, Nat.reduceMul, Nat.reduceDiv, AOp.sb, AOp.mut, ↓Bool.false_eq_true, beq_self_eq_true, ite_self, Nat.reduceLeDiff, Int.reduceEq, Int.reduceSub, Int.reduceAdd, Int.reduceNeg, Int.reduceLT, Int.reduceLE, Nat.reduceLT, bz_G1]
def szV (z : GZ) : Int := if gsz z < SM then ((gsz z : Nat) : Int) else 0
def szE (z : GZ) : Int := if gsz z < SM then 0 else 13
-- surd/gauss.Size
def a35 : AC := .seq (.reg [⟨some 1, none, .bx 31 (.t 0)⟩, 
      ⟨some 2, none, .mv (.k (.i .i64 0))⟩, 
      ⟨some 3, none, .mv (.k (.i .i64 0))⟩])
  (.seq (.seq (.dreg [⟨some 5, none, .fad 0 (.t 1)⟩, 
        ⟨some 6, none, .ld false 1 (.t 5)⟩, 
        ⟨some 7, none, .call 65 [(1, (.t 6))]⟩, 
        ⟨some 8, none, .fad 1 (.t 1)⟩, 
        ⟨some 9, none, .ld false 1 (.t 8)⟩, 
        ⟨some 10, none, .call 65 [(1, (.t 9))]⟩, 
        ⟨some 11, none, .bin .add (.t 7) (.t 10)⟩, 
        ⟨some 4, none, .mv (.t 11)⟩])
    (.seq (.reg [⟨some 12, none, .mv (.t 4)⟩, 
        ⟨some 13, none, .bin .lss (.t 12) (.k (.i .i64 1125899906842624))⟩])
    (.cond (.t 13)
    (.seq (.reg [⟨some 14, none, .mv (.t 4)⟩, 
          ⟨some 2, none, .mv (.t 14)⟩, 
          ⟨some 3, none, .mv (.k (.i .i64 0))⟩])
      (.ret))
    (.skip))))
  (.seq (.reg [⟨some 2, none, .mv (.k (.i .i64 0))⟩, 
      ⟨some 3, none, .mv (.k (.i .i64 13))⟩])
  (.ret)))
theorem gsize_spec (z : GZ) : AFun Try.prog J0 35 [nV z] (.t [.i .i64 (szV z), .i .i64 (szE z)]) := by
  have h1 := gabs_spec z.1
  have h2 := gabs_spec z.2
  have b1 := gabs_le z.1
  have b2 := gabs_le z.2
  simp only [SM] at b1 b2
  have w1 : IntKind.i64.wrap (((gabs z.1 : Nat) : Int) + ((gabs z.2 : Nat) : Int)) = ((gabs z.1 + gabs z.2 : Nat) : Int) := by rw [wi (by omega)]; rfl
  by_cases h : gsz z < SM
  · rw [show szV z = ((gsz z : Nat) : Int) from if_pos h, show szE z = 0 from if_pos h]
    have e : gabs z.1 + gabs z.2 = gsz z := by unfold gsz at h ⊢; rw [gabs_lt (by omega), gabs_lt (by omega)]
    rw [e] at w1
    simp only [SM] at h
    have h3 : ((gsz z : Nat) : Int) < 1125899906842624 := by omega
    generalize gsz z = s at *
    refine AFun.mk fol J0s Try.func35 rfl (ac := a35) (by kernel_rfl) rfl rfl ?_
    apply vm_start
    unfold a35
    simp only [init_eq, initE]
    have zc1 := h1
    have zc2 := h2
    repeat first | (refine hK _ ?_; clear hK K) | simp only [Sv, ↓reduceIte, Nat.reduceEqDiff] | ((first | refine vm_reg (fun K hK => ?_) | refine vm_dreg (fun K hK => ?_) | refine clp_q ?_ | refine clq_mk (by assumption) ?_); simp (disch := (first | omega | assumption)) only [S1, ↓reduceIte, Nat.reduceEqDiff, Nat.reduceAdd, Nat.reduceMul, Nat.reduceDiv, AOp.sb, AOp.mut, ↓Bool.false_eq_true, beq_self_eq_true, ite_self, Nat.reduceLeDiff, Int.reduceEq, Int.reduceSub, Int.reduceAdd, Int.reduceNeg, Int.reduceLT, Int.reduceLE, Nat.reduceLT, bz_G1, w1, h3])
    simp (disch := (first | omega | assumption)) only [retOk, retN, ret1, retF, ret1F, V.okArg, and_true, true_and, S1, ↓reduceIte, Nat.reduceEqDiff, Nat.reduceAdd, Nat.reduceMul, Nat.reduceDiv, AOp.sb, AOp.mut, ↓Bool.false_eq_true, beq_self_eq_true, ite_self, Nat.reduceLeDiff, Int.reduceEq, Int.reduceSub, Int.reduceAdd, Int.reduceNeg, Int.reduceLT, Int.reduceLE, Nat.reduceLT, bz_G1]
  · rw [show szV z = 0 from if_neg h, show szE z = 13 from if_neg h]
    have e : ¬ ((gabs z.1 + gabs z.2 : Nat) : Int) < 1125899906842624 := by
      unfold gsz at h; unfold gabs; simp only [SM] at h ⊢; omega
    generalize gabs z.1 + gabs z.2 = s at *
    refine AFun.mk fol J0s Try.func35 rfl (ac := a35) (by kernel_rfl) rfl rfl ?_
    apply vm_start
    unfold a35
    simp only [init_eq, initE]
    have zc3 := h1
    have zc4 := h2
    repeat first | (refine hK _ ?_; clear hK K) | simp only [Sv, ↓reduceIte, Nat.reduceEqDiff] | ((first | refine vm_reg (fun K hK => ?_) | refine vm_dreg (fun K hK => ?_) | refine clp_q ?_ | refine clq_mk (by assumption) ?_); simp (disch := (first | omega | assumption)) only [S1, ↓reduceIte, Nat.reduceEqDiff, Nat.reduceAdd, Nat.reduceMul, Nat.reduceDiv, AOp.sb, AOp.mut, ↓Bool.false_eq_true, beq_self_eq_true, ite_self, Nat.reduceLeDiff, Int.reduceEq, Int.reduceSub, Int.reduceAdd, Int.reduceNeg, Int.reduceLT, Int.reduceLE, Nat.reduceLT, bz_G1, w1, e])
    simp (disch := (first | omega | assumption)) only [retOk, retN, ret1, retF, ret1F, V.okArg, and_true, true_and, S1, ↓reduceIte, Nat.reduceEqDiff, Nat.reduceAdd, Nat.reduceMul, Nat.reduceDiv, AOp.sb, AOp.mut, ↓Bool.false_eq_true, beq_self_eq_true, ite_self, Nat.reduceLeDiff, Int.reduceEq, Int.reduceSub, Int.reduceAdd, Int.reduceNeg, Int.reduceLT, Int.reduceLE, Nat.reduceLT, bz_G1]
-- surd/gauss.fits
def a66 : AC := .seq (.reg [⟨some 4, none, .mv (.k (.b false))⟩])
  (.seq (.reg [⟨some 5, none, .mv (.t 1)⟩, 
      ⟨some 6, none, .bin .eql (.t 5) (.k (.i .i64 0))⟩, 
      ⟨some 7, none, .mv (.t 6)⟩, 
      ⟨some 8, some (7, false), .mv (.t 0)⟩, 
      ⟨some 9, some (7, false), .mv (.t 1)⟩, 
      ⟨some 10, some (7, false), .bin .quo (.k (.i .i64 1125899906842623)) (.t 9)⟩, 
      ⟨some 11, some (7, false), .bin .leq (.t 8) (.t 10)⟩, 
      ⟨some 12, none, .pick (.t 7) (.k (.b true)) (.t 11)⟩, 
      ⟨some 4, none, .mv (.t 12)⟩])
  (.ret))
theorem gfits_spec (a b : Nat) (hb : b ≤ SM) : AFun Try.prog J0 66 [.i .i64 (a : Int), .i .i64 (b : Int)] (.b (decide (a * b < SM))) := by
  simp only [SM] at hb
  rcases Nat.eq_zero_or_pos b with h | h
  · subst h
    rw [decide_eq_true (by simp)]
    refine AFun.mk fol J0s Try.func66 rfl (ac := a66) (by kernel_rfl) rfl rfl ?_
    apply vm_start
    unfold a66
    simp only [init_eq, initE]
    repeat first
      | (refine hK _ ?_; clear hK K)
      | ((first | refine vm_reg (fun K hK => ?_) | refine vm_dreg (fun K hK => ?_)); simp (disch := (first | omega | assumption)) only [S1, ↓reduceIte, Nat.reduceEqDiff, Nat.reduceAdd, Nat.reduceMul, Nat.reduceDiv, AOp.sb, AOp.mut, ↓Bool.false_eq_true, beq_self_eq_true, ite_self, Nat.reduceLeDiff, Int.reduceEq, Int.reduceSub, Int.reduceAdd, Int.reduceNeg, Int.reduceLT, Int.reduceLE, Nat.reduceLT, bz_G1]; refine hK _ ?_; clear hK K)
      | simp only [Sv, ↓reduceIte, Nat.reduceEqDiff]
    simp (disch := (first | omega | assumption)) only [retOk, retN, ret1, retF, ret1F, V.okArg, and_true, true_and, S1, ↓reduceIte, Nat.reduceEqDiff, Nat.reduceAdd, Nat.reduceMul, Nat.reduceDiv, AOp.sb, AOp.mut, ↓Bool.false_eq_true, beq_self_eq_true, ite_self, Nat.reduceLeDiff, Int.reduceEq, Int.reduceSub, Int.reduceAdd, Int.reduceNeg, Int.reduceLT, Int.reduceLE, Nat.reduceLT, bz_G1]
  · have h0 : ¬ (b : Int) = 0 := by omega
    have e1 : (1125899906842623 : Int).tdiv (b : Int) = ((1125899906842623 / b : Nat) : Int) := rfl
    have e2 : 1125899906842623 / b ≤ 1125899906842623 := Nat.div_le_self _ _
    have e4 := Nat.le_div_iff_mul_le (x := a) (y := 1125899906842623) h
    obtain ⟨q, hq⟩ : ∃ q, q = 1125899906842623 / b := ⟨_, rfl⟩
    rw [← hq] at e1 e2 e4
    have w1 : IntKind.i64.wrap (q : Int) = (q : Int) := wi (by omega)
    have e3 : ((a : Int) ≤ (q : Int)) = (a * b < SM) := by
      refine propext ⟨fun h1 => ?_, fun h1 => ?_⟩
      · have := e4.1 (by omega)
        simp only [SM]; omega
      · simp only [SM] at h1
        have := e4.2 (by omega)
        omega
    refine AFun.mk fol J0s Try.func66 rfl (ac := a66) (by kernel_rfl) rfl rfl ?_
    apply vm_start
    unfold a66
    simp only [init_eq, initE]
    repeat first
      | (refine hK _ ?_; clear hK K)
      | ((first | refine vm_reg (fun K hK => ?_) | refine vm_dreg (fun K hK => ?_)); simp (disch := (first | omega | assumption)) only [S1, ↓reduceIte, Nat.reduceEqDiff, Nat.reduceAdd, Nat.reduceMul, Nat.reduceDiv, AOp.sb, AOp.mut, ↓Bool.false_eq_true, beq_self_eq_true, ite_self, Nat.reduceLeDiff, Int.reduceEq, Int.reduceSub, Int.reduceAdd, Int.reduceNeg, Int.reduceLT, Int.reduceLE, Nat.reduceLT, bz_G1, h0, e1, w1, e3]; refine hK _ ?_; clear hK K)
      | simp only [Sv, ↓reduceIte, Nat.reduceEqDiff]
    simp (disch := (first | omega | assumption)) only [retOk, retN, ret1, retF, ret1F, V.okArg, and_true, true_and, S1, ↓reduceIte, Nat.reduceEqDiff, Nat.reduceAdd, Nat.reduceMul, Nat.reduceDiv, AOp.sb, AOp.mut, ↓Bool.false_eq_true, beq_self_eq_true, ite_self, Nat.reduceLeDiff, Int.reduceEq, Int.reduceSub, Int.reduceAdd, Int.reduceNeg, Int.reduceLT, Int.reduceLE, Nat.reduceLT, bz_G1]
-- (surd/gauss.Num).inside
def a67 : AC := .seq (.reg [⟨some 1, none, .bx 31 (.t 0)⟩, 
      ⟨some 2, none, .mv (.k (.z 0 0))⟩])
  (.seq (.reg [⟨some 3, none, .fad 0 (.t 1)⟩, 
      ⟨some 4, none, .ld false 1 (.t 3)⟩, 
      ⟨some 5, none, .pur (.nm .i2f) [(.t 4)]⟩, 
      ⟨some 6, none, .fad 1 (.t 1)⟩, 
      ⟨some 7, none, .ld false 1 (.t 6)⟩, 
      ⟨some 8, none, .pur (.nm .i2f) [(.t 7)]⟩, 
      ⟨some 9, none, .pur (.nm .mkz) [(.t 5), (.t 8)]⟩, 
      ⟨some 2, none, .mv (.t 9)⟩])
  (.ret))
theorem inside_spec (z : GZ) (h : gsz z < SM) : AFun Try.prog J0 67 [nV z] (.z z.1 z.2) := by
  obtain ⟨a, b⟩ := z
  unfold gsz at h; simp only [SM, nV] at h ⊢
  have h1 : a.natAbs < 9007199254740992 := by omega
  have h2 : b.natAbs < 9007199254740992 := by omega
  refine AFun.mk fol J0s Try.func67 rfl (ac := a67) (by kernel_rfl) rfl rfl ?_
  apply vm_start
  unfold a67
  simp only [init_eq, initE]
  repeat first
    | (refine hK _ ?_; clear hK K)
    | ((first | refine vm_reg (fun K hK => ?_) | refine vm_dreg (fun K hK => ?_)); simp (disch := (first | omega | assumption)) only [S1, ↓reduceIte, Nat.reduceEqDiff, Nat.reduceAdd, Nat.reduceMul, Nat.reduceDiv, AOp.sb, AOp.mut, ↓Bool.false_eq_true, beq_self_eq_true, ite_self, Nat.reduceLeDiff, Int.reduceEq, Int.reduceSub, Int.reduceAdd, Int.reduceNeg, Int.reduceLT, Int.reduceLE, Nat.reduceLT, bz_G1, h1, h2]; refine hK _ ?_; clear hK K)
    | simp only [Sv, ↓reduceIte, Nat.reduceEqDiff]
  simp (disch := (first | omega | assumption)) only [retOk, retN, ret1, retF, ret1F, V.okArg, and_true, true_and, S1, ↓reduceIte, Nat.reduceEqDiff, Nat.reduceAdd, Nat.reduceMul, Nat.reduceDiv, AOp.sb, AOp.mut, ↓Bool.false_eq_true, beq_self_eq_true, ite_self, Nat.reduceLeDiff, Int.reduceEq, Int.reduceSub, Int.reduceAdd, Int.reduceNeg, Int.reduceLT, Int.reduceLE, Nat.reduceLT, bz_G1]
-- surd/gauss.outside
def a68 : AC := .seq (.reg [⟨some 2, none, .al 31 [(.i .i64 0), (.i .i64 0)]⟩])
  (.seq (.reg [⟨some 3, none, .mv (.t 0)⟩, 
      ⟨some 4, none, .pur (.nm .re) [(.t 3)]⟩, 
      ⟨some 5, none, .pur (.nm (.f2i .i64)) [(.t 4)]⟩, 
      ⟨some 6, none, .mv (.t 0)⟩, 
      ⟨some 7, none, .pur (.nm .im) [(.t 6)]⟩, 
      ⟨some 8, none, .pur (.nm (.f2i .i64)) [(.t 7)]⟩, 
      ⟨some 9, none, .bld [(.i .i64 0), (.i .i64 0)] [(0, 1, (.t 5)), (1, 1, (.t 8))]⟩, 
      ⟨none, none, .st 2 (.t 2) (.t 9)⟩])
  (.ret))
theorem outside_spec (z : GZ) (h : gsz z < SM) : AFun Try.prog J0 68 [.z z.1 z.2] (nV z) := by
  obtain ⟨a, b⟩ := z
  unfold gsz at h; simp only [SM, nV] at h ⊢
  have h1 : -9223372036854775808 ≤ a ∧ a ≤ 9223372036854775807 := by omega
  have h2 : -9223372036854775808 ≤ b ∧ b ≤ 9223372036854775807 := by omega
  refine AFun.mkc fol J0s Try.func68 rfl (ac := a68) (by kernel_rfl) (rs := [.c 2 true 2]) (by kernel_rfl) rfl ?_
  apply vm_start
  unfold a68
  simp only [init_eq, initE]
  repeat first
    | (refine hK _ ?_; clear hK K)
    | ((first | refine vm_reg (fun K hK => ?_) | refine vm_dreg (fun K hK => ?_)); simp (disch := (first | omega | assumption)) only [S1, ↓reduceIte, Nat.reduceEqDiff, Nat.reduceAdd, Nat.reduceMul, Nat.reduceDiv, AOp.sb, AOp.mut, ↓Bool.false_eq_true, beq_self_eq_true, ite_self, Nat.reduceLeDiff, Int.reduceEq, Int.reduceSub, Int.reduceAdd, Int.reduceNeg, Int.reduceLT, Int.reduceLE, Nat.reduceLT, bz_G1, h1, h2]; refine hK _ ?_; clear hK K)
    | simp only [Sv, ↓reduceIte, Nat.reduceEqDiff]
  simp (disch := (first | omega | assumption)) only [retC, rsVs_nil, rsVs_cons, rsV_t, rsV_c, rsp_pt, rsq_t, rsq_f, ocons_ss, retV_1, retV_2, retNV_nil, retNV_cons, retOk, retN, ret1, retF, ret1F, V.okArg, and_true, true_and, S1, ↓reduceIte, Nat.reduceEqDiff, Nat.reduceAdd, Nat.reduceMul, Nat.reduceDiv, AOp.sb, AOp.mut, ↓Bool.false_eq_true, beq_self_eq_true, ite_self, Nat.reduceLeDiff, Int.reduceEq, Int.reduceSub, Int.reduceAdd, Int.reduceNeg, Int.reduceLT, Int.reduceLE, Nat.reduceLT, bz_G1]
end Go.Proofs.Ytfkldohgiifgbaa
