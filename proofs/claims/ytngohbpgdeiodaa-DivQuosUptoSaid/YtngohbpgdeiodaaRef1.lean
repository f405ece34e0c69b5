/-
  surdref02: digits.
-/
import Derived.Test.YtngohbpgdeiodaaNat1
namespace Go.Proofs.Ytngohbpgdeiodaa
open Go Go.RowKit Ab
set_option linter.unusedSimpArgs false
set_option linter.unusedVariables false
set_option maxHeartbeats 10000000

-- surd/surdref02.Cut0
def a76 : AC := .seq (.reg [⟨some 2, none, .mv (.k .nl)⟩])
  (.seq (.reg [⟨some 4, none, .mv (.t 0)⟩, 
      ⟨some 5, none, .len (.t 4)⟩, 
      ⟨some 3, none, .mv (.t 5)⟩])
  (.seq (.blk 0
    (.loop
      (.seq (.seq (.reg [⟨some 6, none, .mv (.t 3)⟩, 
              ⟨some 7, none, .bin .gtr (.t 6) (.k (.i .i64 0))⟩, 
              ⟨some 8, none, .mv (.t 7)⟩, 
              ⟨some 9, some (8, true), .mv (.t 0)⟩, 
              ⟨some 10, some (8, true), .mv (.t 3)⟩, 
              ⟨some 11, some (8, true), .bin .sub (.t 10) (.k (.i .i64 1))⟩, 
              ⟨some 12, some (8, true), .idx 1 (.t 9) (.t 11)⟩, 
              ⟨some 13, some (8, true), .ld false 1 (.t 12)⟩, 
              ⟨some 14, some (8, true), .bin .eql (.t 13) (.k (.i .i64 0))⟩, 
              ⟨some 15, none, .pick (.t 8) (.t 14) (.k (.b false))⟩])
          (.cond (.t 15)
          (.skip)
          (.exit 0)))
        (.blk 1
        (.reg [⟨some 16, none, .mv (.t 3)⟩, 
            ⟨some 17, none, .bin .sub (.t 16) (.k (.i .i64 1))⟩, 
            ⟨some 3, none, .mv (.t 17)⟩])))))
  (.seq (.reg [⟨some 18, none, .mv (.t 0)⟩, 
      ⟨some 19, none, .mv (.t 3)⟩, 
      ⟨some 20, none, .sub 1 (.t 18) none (some (.t 19))⟩, 
      ⟨some 2, none, .mv (.t 20)⟩])
  (.ret))))
theorem cut0_spec (a : List Nat) (ha : a.length ≤ 9223372036854775807) : AFun Try.prog J0 76 [.l 1 (D a)] (.l 1 (D (tz a))) := by
  refine AFun.mk fol J0s Try.func76 rfl (ac := a76) (by kernel_rfl) rfl rfl ?_
  apply vm_start
  unfold a76
  simp only [init_eq, initE]
  repeat first
    | (refine hK _ ?_; clear hK K)
    | ((first | refine vm_reg (fun K hK => ?_) | refine vm_dreg (fun K hK => ?_)); simp (disch := (first | omega | assumption)) only [S1, ↓reduceIte, Nat.reduceEqDiff, Nat.reduceAdd, Nat.reduceMul, Nat.reduceDiv, AOp.sb, AOp.mut, ↓Bool.false_eq_true, beq_self_eq_true, ite_self, Nat.reduceLeDiff, Int.reduceEq, Int.reduceSub, Int.reduceAdd, Int.reduceNeg, Int.reduceLT, Int.reduceLE, Nat.reduceLT, W_len, D_len, Nat.div_one, Nat.mul_one, tn_nat, W_nf, D_nf, W_nil, D_nil]; refine hK _ ?_; clear hK K)
    | simp only [Sv, ↓reduceIte, Nat.reduceEqDiff]
  refine vm_loop Nat (fun n => ⟨[(0, .l 1 (D a)), (3, .i .i64 (n : Int))], [], 0⟩) (fun n => n ≤ a.length ∧ tz a = tz (a.take n)) (fun n => n) a.length [] ⟨by omega, by rw [List.take_length]⟩ (by simp (disch := (first | omega | assumption)) only [Sl, Sa, Sw, ↓reduceIte, Nat.reduceEqDiff, Nat.reduceLT, List.all_nil, List.all_cons, Nat.reduceBneDiff, Nat.reduceAdd, bne_iff_ne, ne_eq, reduceCtorEq, not_false_eq_true, not_true_eq_false, Bool.and_true, Bool.true_and, and_true, true_and, and_self]) ?_
  intro n ⟨hn, ht⟩ Q' hQ he hr
  by_cases h0 : 0 < (n : Int)
  · obtain ⟨m, rfl⟩ : ∃ m, n = m + 1 := ⟨n - 1, by omega⟩
    by_cases h1 : ((a.getD m 0 : Nat) : Int) = 0
    · repeat first
        | (refine hK _ ?_; clear hK K)
        | ((first | refine vm_reg (fun K hK => ?_) | refine vm_dreg (fun K hK => ?_)); simp (disch := (first | omega | assumption)) only [S1, ↓reduceIte, Nat.reduceEqDiff, Nat.reduceAdd, Nat.reduceMul, Nat.reduceDiv, AOp.sb, AOp.mut, ↓Bool.false_eq_true, beq_self_eq_true, ite_self, Nat.reduceLeDiff, Int.reduceEq, Int.reduceSub, Int.reduceAdd, Int.reduceNeg, Int.reduceLT, Int.reduceLE, Nat.reduceLT, W_len, D_len, Nat.div_one, Nat.mul_one, tn_nat, W_nf, D_nf, W_nil, D_nil, h0, h1, D_get, wi, tn_sub1, Nat.add_sub_cancel]; refine hK _ ?_; clear hK K)
        | simp only [Sv, ↓reduceIte, Nat.reduceEqDiff]
      refine hQ _ m [] ⟨by omega, ?_⟩ (by omega) ?_
      · rw [ht]; exact tz_zero a m (by omega) (by omega)
      · simp (disch := (first | omega | assumption)) only [Sl, Sa, Sw, ↓reduceIte, Nat.reduceEqDiff, Nat.reduceLT, List.all_nil, List.all_cons, Nat.reduceBneDiff, Nat.reduceAdd, bne_iff_ne, ne_eq, reduceCtorEq, not_false_eq_true, not_true_eq_false, Bool.and_true, Bool.true_and, and_true, true_and, and_self, i_eq]
        omega
    · repeat first
        | (refine hK _ ?_; clear hK K)
        | ((first | refine vm_reg (fun K hK => ?_) | refine vm_dreg (fun K hK => ?_)); simp (disch := (first | omega | assumption)) only [S1, ↓reduceIte, Nat.reduceEqDiff, Nat.reduceAdd, Nat.reduceMul, Nat.reduceDiv, AOp.sb, AOp.mut, ↓Bool.false_eq_true, beq_self_eq_true, ite_self, Nat.reduceLeDiff, Int.reduceEq, Int.reduceSub, Int.reduceAdd, Int.reduceNeg, Int.reduceLT, Int.reduceLE, Nat.reduceLT, W_len, D_len, Nat.div_one, Nat.mul_one, tn_nat, W_nf, D_nf, W_nil, D_nil, h0, h1, D_get, wi, tn_sub1, Nat.add_sub_cancel]; refine hK _ ?_; clear hK K)
        | simp only [Sv, ↓reduceIte, Nat.reduceEqDiff]
      refine he _ _ ?_
      repeat first
        | (refine hK _ ?_; clear hK K)
        | ((first | refine vm_reg (fun K hK => ?_) | refine vm_dreg (fun K hK => ?_)); simp (disch := (first | omega | assumption)) only [S1, ↓reduceIte, Nat.reduceEqDiff, Nat.reduceAdd, Nat.reduceMul, Nat.reduceDiv, AOp.sb, AOp.mut, ↓Bool.false_eq_true, beq_self_eq_true, ite_self, Nat.reduceLeDiff, Int.reduceEq, Int.reduceSub, Int.reduceAdd, Int.reduceNeg, Int.reduceLT, Int.reduceLE, Nat.reduceLT, W_len, D_len, Nat.div_one, Nat.mul_one, tn_nat, W_nf, D_nf, W_nil, D_nil, D_take]; refine hK _ ?_; clear hK K)
        | simp only [Sv, ↓reduceIte, Nat.reduceEqDiff]
      have e := tz_take a
      rw [ht, tz_top a m (by omega) (by omega)] at e
      simp (disch := (first | omega | assumption)) only [retOk, retN, ret1, retF, ret1F, V.okArg, and_true, true_and, S1, ↓reduceIte, Nat.reduceEqDiff, Nat.reduceAdd, Nat.reduceMul, Nat.reduceDiv, AOp.sb, AOp.mut, ↓Bool.false_eq_true, beq_self_eq_true, ite_self, Nat.reduceLeDiff, Int.reduceEq, Int.reduceSub, Int.reduceAdd, Int.reduceNeg, Int.reduceLT, Int.reduceLE, Nat.reduceLT, W_len, D_len, Nat.div_one, Nat.mul_one, tn_nat, W_nf, D_nf, W_nil, D_nil]
      rw [e, ht]
  · repeat first
      | (refine hK _ ?_; clear hK K)
      | ((first | refine vm_reg (fun K hK => ?_) | refine vm_dreg (fun K hK => ?_)); simp (disch := (first | omega | assumption)) only [S1, ↓reduceIte, Nat.reduceEqDiff, Nat.reduceAdd, Nat.reduceMul, Nat.reduceDiv, AOp.sb, AOp.mut, ↓Bool.false_eq_true, beq_self_eq_true, ite_self, Nat.reduceLeDiff, Int.reduceEq, Int.reduceSub, Int.reduceAdd, Int.reduceNeg, Int.reduceLT, Int.reduceLE, Nat.reduceLT, W_len, D_len, Nat.div_one, Nat.mul_one, tn_nat, W_nf, D_nf, W_nil, D_nil, h0]; refine hK _ ?_; clear hK K)
      | simp only [Sv, ↓reduceIte, Nat.reduceEqDiff]
    refine he _ _ ?_
    obtain rfl : n = 0 := by omega
    repeat first
      | (refine hK _ ?_; clear hK K)
      | ((first | refine vm_reg (fun K hK => ?_) | refine vm_dreg (fun K hK => ?_)); simp (disch := (first | omega | assumption)) only [S1, ↓reduceIte, Nat.reduceEqDiff, Nat.reduceAdd, Nat.reduceMul, Nat.reduceDiv, AOp.sb, AOp.mut, ↓Bool.false_eq_true, beq_self_eq_true, ite_self, Nat.reduceLeDiff, Int.reduceEq, Int.reduceSub, Int.reduceAdd, Int.reduceNeg, Int.reduceLT, Int.reduceLE, Nat.reduceLT, W_len, D_len, Nat.div_one, Nat.mul_one, tn_nat, W_nf, D_nf, W_nil, D_nil, D_take]; refine hK _ ?_; clear hK K)
      | simp only [Sv, ↓reduceIte, Nat.reduceEqDiff]
    simp (disch := (first | omega | assumption)) only [retOk, retN, ret1, retF, ret1F, V.okArg, and_true, true_and, S1, ↓reduceIte, Nat.reduceEqDiff, Nat.reduceAdd, Nat.reduceMul, Nat.reduceDiv, AOp.sb, AOp.mut, ↓Bool.false_eq_true, beq_self_eq_true, ite_self, Nat.reduceLeDiff, Int.reduceEq, Int.reduceSub, Int.reduceAdd, Int.reduceNeg, Int.reduceLT, Int.reduceLE, Nat.reduceLT, W_len, D_len, Nat.div_one, Nat.mul_one, tn_nat, W_nf, D_nf, W_nil, D_nil, ht]
    rfl

theorem D_cat1 (a : List Nat) (x : Nat) : D a ++ [V.i .i64 (x : Int)] = D (a ++ [x]) := by simp [D]
theorem tmod_nat (a b : Nat) : (a : Int).tmod (b : Int) = ((a % b : Nat) : Int) := rfl
theorem tdiv_nat (a b : Nat) : (a : Int).tdiv (b : Int) = ((a / b : Nat) : Int) := rfl
theorem tmod_256 (a : Nat) : (a : Int).tmod 256 = ((a % 256 : Nat) : Int) := rfl
theorem tdiv_256 (a : Nat) : (a : Int).tdiv 256 = ((a / 256 : Nat) : Int) := rfl
theorem B_256 (i : Nat) : B ^ i = 256 ^ (8 * i) := by rw [Nat.pow_mul]; rfl

-- surd/surdref02.Digits
def a52 : AC := .seq (.reg [⟨some 2, none, .mv (.k .nl)⟩])
  (.seq (.reg [⟨some 3, none, .mv (.k .nl)⟩])
  (.seq (.seq (.reg [⟨some 4, none, .mv (.k (.i .i64 0))⟩])
    (.blk 0
    (.loop
      (.seq (.seq (.reg [⟨some 7, none, .mv (.t 4)⟩, 
              ⟨some 8, none, .mv (.t 0)⟩, 
              ⟨some 9, none, .len (.t 8)⟩, 
              ⟨some 10, none, .bin .lss (.t 7) (.t 9)⟩])
          (.cond (.t 10)
          (.skip)
          (.exit 0)))
        (.seq (.blk 1
          (.seq (.reg [⟨some 13, none, .mv (.t 0)⟩, 
                ⟨some 14, none, .mv (.t 4)⟩, 
                ⟨some 15, none, .idx 1 (.t 13) (.t 14)⟩, 
                ⟨some 16, none, .ld false 1 (.t 15)⟩, 
                ⟨some 5, none, .mv (.t 16)⟩])
            (.seq (.reg [⟨some 6, none, .mv (.k (.i .i64 0))⟩])
            (.blk 2
            (.loop
              (.seq (.seq (.reg [⟨some 17, none, .mv (.t 6)⟩, 
                      ⟨some 18, none, .bin .lss (.t 17) (.k (.i .i64 8))⟩])
                  (.cond (.t 18)
                  (.skip)
                  (.exit 2)))
                (.seq (.blk 3
                  (.seq (.reg [⟨some 21, none, .mv (.t 3)⟩, 
                        ⟨some 22, none, .mv (.t 5)⟩, 
                        ⟨some 23, none, .bin .rem (.t 22) (.k (.i .u64 256))⟩, 
                        ⟨some 24, none, .cvt .i64 (.t 23)⟩, 
                        ⟨some 25, none, .bsl 3 1 1 [(.i .i64 0)] [(0, (.t 24))]⟩, 
                        ⟨some 26, none, .app 3 1 8 (.t 21) (.t 25)⟩, 
                        ⟨some 3, none, .mv (.t 26)⟩])
                    (.reg [⟨some 27, none, .mv (.t 5)⟩, 
                      ⟨some 28, none, .bin .quo (.t 27) (.k (.i .u64 256))⟩, 
                      ⟨some 5, none, .mv (.t 28)⟩])))
                (.reg [⟨some 19, none, .mv (.t 6)⟩, 
                  ⟨some 20, none, .bin .add (.t 19) (.k (.i .i64 1))⟩, 
                  ⟨some 6, none, .mv (.t 20)⟩]))))))))
        (.reg [⟨some 11, none, .mv (.t 4)⟩, 
          ⟨some 12, none, .bin .add (.t 11) (.k (.i .i64 1))⟩, 
          ⟨some 4, none, .mv (.t 12)⟩]))))))
  (.seq (.reg [⟨some 29, none, .mv (.t 3)⟩, 
      ⟨some 30, none, .call 76 [(1, (.t 29))]⟩, 
      ⟨some 2, none, .mv (.t 30)⟩])
  (.ret))))
theorem digits_spec (a : List Nat) (ha : Wd a) (la : a.length ≤ 100000000000) : AFun Try.prog J0 52 [.l 1 (W a)] (.l 1 (D (dg 256 (nv B a)))) := by
  refine AFun.mk fol J0s Try.func52 rfl (ac := a52) (by kernel_rfl) rfl rfl ?_
  apply vm_start
  unfold a52
  simp only [init_eq, initE]
  repeat first
    | (refine hK _ ?_; clear hK K)
    | ((first | refine vm_reg (fun K hK => ?_) | refine vm_dreg (fun K hK => ?_)); simp (disch := (first | omega | assumption)) only [S1, ↓reduceIte, Nat.reduceEqDiff, Nat.reduceAdd, Nat.reduceMul, Nat.reduceDiv, AOp.sb, AOp.mut, ↓Bool.false_eq_true, beq_self_eq_true, ite_self, Nat.reduceLeDiff, Int.reduceEq, Int.reduceSub, Int.reduceAdd, Int.reduceNeg, Int.reduceLT, Int.reduceLE, Nat.reduceLT, W_len, D_len, Nat.div_one, Nat.mul_one, tn_nat, W_nf, D_nf, W_nil, D_nil]; refine hK _ ?_; clear hK K)
    | simp only [Sv, ↓reduceIte, Nat.reduceEqDiff]
  refine vm_loopM [(3, 3, 1)] Nat (fun i => ⟨[(0, .l 1 (W a)), (3, .ow 1 0 (8 * i)), (4, .i .i64 (i : Int))], [(0, some ⟨3, 1, D (fl 256 (8 * i) (nv B (a.take i))), true, false⟩)], 1⟩)
    (fun i => i ≤ a.length) (fun i => a.length - i) 0 [(0, 3)] (Nat.zero_le _) (by simp (disch := (first | omega | assumption)) only [Sl, Sa, Sw, ↓reduceIte, Nat.reduceEqDiff, Nat.reduceLT, List.all_nil, List.all_cons, Nat.reduceBneDiff, Nat.reduceAdd, bne_iff_ne, ne_eq, reduceCtorEq, not_false_eq_true, not_true_eq_false, Bool.and_true, Bool.true_and, and_true, true_and, and_self]) (by
    simp (disch := (first | omega | assumption)) only [Sl, Sa, Sw, ↓reduceIte, Nat.reduceEqDiff, Nat.reduceLT, List.all_nil, List.all_cons, Nat.reduceBneDiff, Nat.reduceAdd, bne_iff_ne, ne_eq, reduceCtorEq, not_false_eq_true, not_true_eq_false, Bool.and_true, Bool.true_and, and_true, true_and, and_self, i_eq]
    exact ⟨rfl, rfl⟩) ?_
  intro i hi Q' hQ he hr
  by_cases h : (i : Int) < a.length
  · repeat first
      | (refine hK _ ?_; clear hK K)
      | ((first | refine vm_reg (fun K hK => ?_) | refine vm_dreg (fun K hK => ?_)); simp (disch := (first | omega | assumption)) only [S1, ↓reduceIte, Nat.reduceEqDiff, Nat.reduceAdd, Nat.reduceMul, Nat.reduceDiv, AOp.sb, AOp.mut, ↓Bool.false_eq_true, beq_self_eq_true, ite_self, Nat.reduceLeDiff, Int.reduceEq, Int.reduceSub, Int.reduceAdd, Int.reduceNeg, Int.reduceLT, Int.reduceLE, Nat.reduceLT, W_len, D_len, Nat.div_one, Nat.mul_one, tn_nat, W_nf, D_nf, W_nil, D_nil, h, W_get]; refine hK _ ?_; clear hK K)
      | simp only [Sv, ↓reduceIte, Nat.reduceEqDiff]
    refine vm_loop Nat (fun k => ⟨[(0, .l 1 (W a)), (3, .ow 1 0 (8 * i + k)), (4, .i .i64 (i : Int)), (5, .i .u64 ((a.getD i 0 / 256 ^ k : Nat) : Int)), (6, .i .i64 (k : Int))], [(0, some ⟨3, 1, D (fl 256 (8 * i) (nv B (a.take i)) ++ fl 256 k (a.getD i 0)), true, false⟩)], 1⟩)
      (fun k => k ≤ 8) (fun k => 8 - k) 0 [] (Nat.zero_le _) (by
      simp (disch := (first | omega | assumption)) only [Sl, Sa, Sw, ↓reduceIte, Nat.reduceEqDiff, Nat.reduceLT, List.all_nil, List.all_cons, Nat.reduceBneDiff, Nat.reduceAdd, bne_iff_ne, ne_eq, reduceCtorEq, not_false_eq_true, not_true_eq_false, Bool.and_true, Bool.true_and, and_true, true_and, and_self, i_eq]
      exact ⟨⟨rfl, by simp, rfl⟩, by simp [fl]⟩) ?_
    intro k hk Q'' hQ' he' hr'
    by_cases h1 : (k : Int) < 8
    · have hq : a.getD i 0 / 256 ^ k < 18446744073709551616 := Nat.lt_of_le_of_lt (Nat.div_le_self _ _) (Wd_get ha i)
      have hw : IntKind.u64.wrap ((a.getD i 0 / 256 ^ k / 256 : Nat) : Int) = ((a.getD i 0 / 256 ^ k / 256 : Nat) : Int) := by
        generalize a.getD i 0 / 256 ^ k = q at hq ⊢
        exact wu (by omega)
      repeat first
        | (refine hK _ ?_; clear hK K)
        | ((first | refine vm_reg (fun K hK => ?_) | refine vm_dreg (fun K hK => ?_)); simp (disch := (first | omega | assumption)) only [S1, ↓reduceIte, Nat.reduceEqDiff, Nat.reduceAdd, Nat.reduceMul, Nat.reduceDiv, AOp.sb, AOp.mut, ↓Bool.false_eq_true, beq_self_eq_true, ite_self, Nat.reduceLeDiff, Int.reduceEq, Int.reduceSub, Int.reduceAdd, Int.reduceNeg, Int.reduceLT, Int.reduceLE, Nat.reduceLT, W_len, D_len, Nat.div_one, Nat.mul_one, tn_nat, W_nf, D_nf, W_nil, D_nil, h1, tmod_256, tdiv_256, wi, hw, D_cat1]; refine hK _ ?_; clear hK K)
        | simp only [Sv, ↓reduceIte, Nat.reduceEqDiff]
      refine hQ' _ (k + 1) [(0, 8)] (by omega) (by omega) ?_
      simp (disch := (first | omega | assumption)) only [Sl, Sa, Sw, ↓reduceIte, Nat.reduceEqDiff, Nat.reduceLT, List.all_nil, List.all_cons, Nat.reduceBneDiff, Nat.reduceAdd, bne_iff_ne, ne_eq, reduceCtorEq, not_false_eq_true, not_true_eq_false, Bool.and_true, Bool.true_and, and_true, true_and, and_self, i_eq]
      exact ⟨⟨by omega, by rw [Nat.div_div_eq_div_mul, ← Nat.pow_succ], rfl⟩, by rw [fl_succ, List.append_assoc]⟩
    · obtain rfl : k = 8 := by omega
      repeat first
        | (refine hK _ ?_; clear hK K)
        | ((first | refine vm_reg (fun K hK => ?_) | refine vm_dreg (fun K hK => ?_)); simp (disch := (first | omega | assumption)) only [S1, ↓reduceIte, Nat.reduceEqDiff, Nat.reduceAdd, Nat.reduceMul, Nat.reduceDiv, AOp.sb, AOp.mut, ↓Bool.false_eq_true, beq_self_eq_true, ite_self, Nat.reduceLeDiff, Int.reduceEq, Int.reduceSub, Int.reduceAdd, Int.reduceNeg, Int.reduceLT, Int.reduceLE, Nat.reduceLT, W_len, D_len, Nat.div_one, Nat.mul_one, tn_nat, W_nf, D_nf, W_nil, D_nil, h1]; refine hK _ ?_; clear hK K)
        | simp only [Sv, ↓reduceIte, Nat.reduceEqDiff]
      refine he' _ _ ?_
      repeat first
        | (refine hK _ ?_; clear hK K)
        | ((first | refine vm_reg (fun K hK => ?_) | refine vm_dreg (fun K hK => ?_)); simp (disch := (first | omega | assumption)) only [S1, ↓reduceIte, Nat.reduceEqDiff, Nat.reduceAdd, Nat.reduceMul, Nat.reduceDiv, AOp.sb, AOp.mut, ↓Bool.false_eq_true, beq_self_eq_true, ite_self, Nat.reduceLeDiff, Int.reduceEq, Int.reduceSub, Int.reduceAdd, Int.reduceNeg, Int.reduceLT, Int.reduceLE, Nat.reduceLT, W_len, D_len, Nat.div_one, Nat.mul_one, tn_nat, W_nf, D_nf, W_nil, D_nil, wi]; refine hK _ ?_; clear hK K)
        | simp only [Sv, ↓reduceIte, Nat.reduceEqDiff]
      refine hQ _ (i + 1) [] (by omega) (by omega) ?_
      simp (disch := (first | omega | assumption)) only [Sl, Sa, Sw, ↓reduceIte, Nat.reduceEqDiff, Nat.reduceLT, List.all_nil, List.all_cons, Nat.reduceBneDiff, Nat.reduceAdd, bne_iff_ne, ne_eq, reduceCtorEq, not_false_eq_true, not_true_eq_false, Bool.and_true, Bool.true_and, and_true, true_and, and_self, i_eq]
      refine ⟨⟨by omega, rfl⟩, ?_⟩
      rw [show 8 * (i + 1) = 8 * i + 8 from by omega, fl_add, nv_take_succ', B_256]
      have hlt := nv_take_lt (b := B) (by decide) ha i
      rw [B_256] at hlt
      rw [Nat.add_mul_div_left _ _ (Nat.pow_pos (by decide)), Nat.div_eq_of_lt hlt, Nat.zero_add, fl_congr (b := 256) (by decide) (n := 8 * i) (v := nv B (a.take i) + 256 ^ (8 * i) * a.getD i 0) (u := nv B (a.take i)) (by rw [Nat.add_mul_mod_self_left])]
  · obtain rfl : i = a.length := by omega
    repeat first
      | (refine hK _ ?_; clear hK K)
      | ((first | refine vm_reg (fun K hK => ?_) | refine vm_dreg (fun K hK => ?_)); simp (disch := (first | omega | assumption)) only [S1, ↓reduceIte, Nat.reduceEqDiff, Nat.reduceAdd, Nat.reduceMul, Nat.reduceDiv, AOp.sb, AOp.mut, ↓Bool.false_eq_true, beq_self_eq_true, ite_self, Nat.reduceLeDiff, Int.reduceEq, Int.reduceSub, Int.reduceAdd, Int.reduceNeg, Int.reduceLT, Int.reduceLE, Nat.reduceLT, W_len, D_len, Nat.div_one, Nat.mul_one, tn_nat, W_nf, D_nf, W_nil, D_nil, h]; refine hK _ ?_; clear hK K)
      | simp only [Sv, ↓reduceIte, Nat.reduceEqDiff]
    refine he _ _ ?_
    repeat first
      | (refine hK _ ?_; clear hK K)
      | ((first | refine vm_reg (fun K hK => ?_) | refine vm_dreg (fun K hK => ?_)); simp (disch := (first | omega | assumption)) only [S1, ↓reduceIte, Nat.reduceEqDiff, Nat.reduceAdd, Nat.reduceMul, Nat.reduceDiv, AOp.sb, AOp.mut, ↓Bool.false_eq_true, beq_self_eq_true, ite_self, Nat.reduceLeDiff, Int.reduceEq, Int.reduceSub, Int.reduceAdd, Int.reduceNeg, Int.reduceLT, Int.reduceLE, Nat.reduceLT, W_len, D_len, Nat.div_one, Nat.mul_one, tn_nat, W_nf, D_nf, W_nil, D_nil]; refine hK _ ?_; clear hK K)
      | simp only [Sv, ↓reduceIte, Nat.reduceEqDiff]
    try simp only [Sv, ↓reduceIte, Nat.reduceEqDiff]
    refine vm_reg (fun K hK => ?_)
    simp (disch := (first | omega | assumption)) only [S1, ↓reduceIte, Nat.reduceEqDiff, Nat.reduceAdd, Nat.reduceMul, Nat.reduceDiv, AOp.sb, AOp.mut, ↓Bool.false_eq_true, beq_self_eq_true, ite_self, Nat.reduceLeDiff, Int.reduceEq, Int.reduceSub, Int.reduceAdd, Int.reduceNeg, Int.reduceLT, Int.reduceLE, Nat.reduceLT, W_len, D_len, Nat.div_one, Nat.mul_one, tn_nat, W_nf, D_nf, W_nil, D_nil]
    refine clp_mk _ _ ?_ ?_ ?_ (cut0_spec (fl 256 (8 * a.length) (nv B (a.take a.length))) (by rw [fl_len]; omega)) ?_
    · simp (disch := (first | omega | assumption)) only [S1, ↓reduceIte, Nat.reduceEqDiff, Nat.reduceAdd, Nat.reduceMul, Nat.reduceDiv, AOp.sb, AOp.mut, ↓Bool.false_eq_true, beq_self_eq_true, ite_self, Nat.reduceLeDiff, Int.reduceEq, Int.reduceSub, Int.reduceAdd, Int.reduceNeg, Int.reduceLT, Int.reduceLE, Nat.reduceLT, W_len, D_len, Nat.div_one, Nat.mul_one, tn_nat, W_nf, D_nf, W_nil, D_nil]
    · simp (disch := (first | omega | assumption)) only [S1, ↓reduceIte, Nat.reduceEqDiff, Nat.reduceAdd, Nat.reduceMul, Nat.reduceDiv, AOp.sb, AOp.mut, ↓Bool.false_eq_true, beq_self_eq_true, ite_self, Nat.reduceLeDiff, Int.reduceEq, Int.reduceSub, Int.reduceAdd, Int.reduceNeg, Int.reduceLT, Int.reduceLE, Nat.reduceLT, W_len, D_len, Nat.div_one, Nat.mul_one, tn_nat, W_nf, D_nf, W_nil, D_nil]
    · first | rfl | (simp (disch := (first | omega | assumption)) only [S1, ↓reduceIte, Nat.reduceEqDiff, Nat.reduceAdd, Nat.reduceMul, Nat.reduceDiv, AOp.sb, AOp.mut, ↓Bool.false_eq_true, beq_self_eq_true, ite_self, Nat.reduceLeDiff, Int.reduceEq, Int.reduceSub, Int.reduceAdd, Int.reduceNeg, Int.reduceLT, Int.reduceLE, Nat.reduceLT, W_len, D_len, Nat.div_one, Nat.mul_one, tn_nat, W_nf, D_nf, W_nil, D_nil])
    simp (disch := (first | omega | assumption)) only [S1, ↓reduceIte, Nat.reduceEqDiff, Nat.reduceAdd, Nat.reduceMul, Nat.reduceDiv, AOp.sb, AOp.mut, ↓Bool.false_eq_true, beq_self_eq_true, ite_self, Nat.reduceLeDiff, Int.reduceEq, Int.reduceSub, Int.reduceAdd, Int.reduceNeg, Int.reduceLT, Int.reduceLE, Nat.reduceLT, W_len, D_len, Nat.div_one, Nat.mul_one, tn_nat, W_nf, D_nf, W_nil, D_nil]
    refine hK _ ?_
    clear hK K
    repeat first
      | (refine hK _ ?_; clear hK K)
      | ((first | refine vm_reg (fun K hK => ?_) | refine vm_dreg (fun K hK => ?_)); simp (disch := (first | omega | assumption)) only [S1, ↓reduceIte, Nat.reduceEqDiff, Nat.reduceAdd, Nat.reduceMul, Nat.reduceDiv, AOp.sb, AOp.mut, ↓Bool.false_eq_true, beq_self_eq_true, ite_self, Nat.reduceLeDiff, Int.reduceEq, Int.reduceSub, Int.reduceAdd, Int.reduceNeg, Int.reduceLT, Int.reduceLE, Nat.reduceLT, W_len, D_len, Nat.div_one, Nat.mul_one, tn_nat, W_nf, D_nf, W_nil, D_nil]; refine hK _ ?_; clear hK K)
      | simp only [Sv, ↓reduceIte, Nat.reduceEqDiff]
    have e : tz (fl 256 (8 * a.length) (nv B (a.take a.length))) = dg 256 (nv B a) := by
      rw [List.take_length]
      exact dg_fl (by decide) (by rw [← B_256]; exact nv_lt ha)
    simp (disch := (first | omega | assumption)) only [retOk, retN, ret1, retF, ret1F, V.okArg, and_true, true_and, S1, ↓reduceIte, Nat.reduceEqDiff, Nat.reduceAdd, Nat.reduceMul, Nat.reduceDiv, AOp.sb, AOp.mut, ↓Bool.false_eq_true, beq_self_eq_true, ite_self, Nat.reduceLeDiff, Int.reduceEq, Int.reduceSub, Int.reduceAdd, Int.reduceNeg, Int.reduceLT, Int.reduceLE, Nat.reduceLT, W_len, D_len, Nat.div_one, Nat.mul_one, tn_nat, W_nf, D_nf, W_nil, D_nil, e]

-- surd/surdref02.at
def a96 : AC := .seq (.reg [⟨some 4, none, .mv (.k (.i .i64 0))⟩])
  (.seq (.seq (.reg [⟨some 5, none, .mv (.t 1)⟩, 
        ⟨some 6, none, .mv (.t 0)⟩, 
        ⟨some 7, none, .len (.t 6)⟩, 
        ⟨some 8, none, .bin .lss (.t 5) (.t 7)⟩])
    (.cond (.t 8)
    (.seq (.reg [⟨some 9, none, .mv (.t 0)⟩, 
          ⟨some 10, none, .mv (.t 1)⟩, 
          ⟨some 11, none, .idx 1 (.t 9) (.t 10)⟩, 
          ⟨some 12, none, .ld false 1 (.t 11)⟩, 
          ⟨some 4, none, .mv (.t 12)⟩])
      (.ret))
    (.skip)))
  (.seq (.reg [⟨some 4, none, .mv (.k (.i .i64 0))⟩])
  (.ret)))
theorem dat_spec (a : List Nat) (i : Nat) : AFun Try.prog J0 96 [.l 1 (D a), .i .i64 i] (.i .i64 ((a.getD i 0 : Nat) : Int)) := by
  refine AFun.mk fol J0s Try.func96 rfl (ac := a96) (by kernel_rfl) rfl rfl ?_
  apply vm_start
  unfold a96
  simp only [init_eq, initE]
  by_cases h : (i : Int) < a.length
  · repeat first
      | (refine hK _ ?_; clear hK K)
      | ((first | refine vm_reg (fun K hK => ?_) | refine vm_dreg (fun K hK => ?_)); simp (disch := (first | omega | assumption)) only [S1, ↓reduceIte, Nat.reduceEqDiff, Nat.reduceAdd, Nat.reduceMul, Nat.reduceDiv, AOp.sb, AOp.mut, ↓Bool.false_eq_true, beq_self_eq_true, ite_self, Nat.reduceLeDiff, Int.reduceEq, Int.reduceSub, Int.reduceAdd, Int.reduceNeg, Int.reduceLT, Int.reduceLE, Nat.reduceLT, W_len, D_len, Nat.div_one, Nat.mul_one, tn_nat, W_nf, D_nf, W_nil, D_nil, h, D_get]; refine hK _ ?_; clear hK K)
      | simp only [Sv, ↓reduceIte, Nat.reduceEqDiff]
    simp (disch := (first | omega | assumption)) only [retOk, retN, ret1, retF, ret1F, V.okArg, and_true, true_and, S1, ↓reduceIte, Nat.reduceEqDiff, Nat.reduceAdd, Nat.reduceMul, Nat.reduceDiv, AOp.sb, AOp.mut, ↓Bool.false_eq_true, beq_self_eq_true, ite_self, Nat.reduceLeDiff, Int.reduceEq, Int.reduceSub, Int.reduceAdd, Int.reduceNeg, Int.reduceLT, Int.reduceLE, Nat.reduceLT, W_len, D_len, Nat.div_one, Nat.mul_one, tn_nat, W_nf, D_nf, W_nil, D_nil]
  · repeat first
      | (refine hK _ ?_; clear hK K)
      | ((first | refine vm_reg (fun K hK => ?_) | refine vm_dreg (fun K hK => ?_)); simp (disch := (first | omega | assumption)) only [S1, ↓reduceIte, Nat.reduceEqDiff, Nat.reduceAdd, Nat.reduceMul, Nat.reduceDiv, AOp.sb, AOp.mut, ↓Bool.false_eq_true, beq_self_eq_true, ite_self, Nat.reduceLeDiff, Int.reduceEq, Int.reduceSub, Int.reduceAdd, Int.reduceNeg, Int.reduceLT, Int.reduceLE, Nat.reduceLT, W_len, D_len, Nat.div_one, Nat.mul_one, tn_nat, W_nf, D_nf, W_nil, D_nil, h]; refine hK _ ?_; clear hK K)
      | simp only [Sv, ↓reduceIte, Nat.reduceEqDiff]
    simp (disch := (first | omega | assumption)) only [retOk, retN, ret1, retF, ret1F, V.okArg, and_true, true_and, S1, ↓reduceIte, Nat.reduceEqDiff, Nat.reduceAdd, Nat.reduceMul, Nat.reduceDiv, AOp.sb, AOp.mut, ↓Bool.false_eq_true, beq_self_eq_true, ite_self, Nat.reduceLeDiff, Int.reduceEq, Int.reduceSub, Int.reduceAdd, Int.reduceNeg, Int.reduceLT, Int.reduceLE, Nat.reduceLT, W_len, D_len, Nat.div_one, Nat.mul_one, tn_nat, W_nf, D_nf, W_nil, D_nil, i_eq]
    rw [List.getD_eq_getElem?_getD, List.getElem?_eq_none (by omega)]; rfl

-- surd/surdref02.cmp
def a75 : AC := .seq (.reg [⟨some 4, none, .mv (.k (.i .i64 0))⟩])
  (.seq (.seq (.reg [⟨some 6, none, .mv (.t 0)⟩, 
        ⟨some 7, none, .len (.t 6)⟩, 
        ⟨some 8, none, .mv (.t 1)⟩, 
        ⟨some 9, none, .len (.t 8)⟩, 
        ⟨some 10, none, .mm true (.t 7) (.t 9)⟩, 
        ⟨some 11, none, .bin .sub (.t 10) (.k (.i .i64 1))⟩, 
        ⟨some 5, none, .mv (.t 11)⟩])
    (.blk 0
    (.loop
      (.seq (.seq (.reg [⟨some 12, none, .mv (.t 5)⟩, 
              ⟨some 13, none, .bin .geq (.t 12) (.k (.i .i64 0))⟩])
          (.cond (.t 13)
          (.skip)
          (.exit 0)))
        (.seq (.blk 1
          (.seq (.reg [⟨some 16, none, .mv (.t 0)⟩, 
                ⟨some 17, none, .mv (.t 5)⟩, 
                ⟨some 18, none, .call 96 [(1, (.t 16)), (1, (.t 17))]⟩, 
                ⟨some 19, none, .mv (.t 1)⟩, 
                ⟨some 20, none, .mv (.t 5)⟩, 
                ⟨some 21, none, .call 96 [(1, (.t 19)), (1, (.t 20))]⟩, 
                ⟨some 22, none, .bin .neq (.t 18) (.t 21)⟩])
            (.cond (.t 22)
            (.seq (.seq (.reg [⟨some 23, none, .mv (.t 0)⟩, 
                    ⟨some 24, none, .mv (.t 5)⟩, 
                    ⟨some 25, none, .call 96 [(1, (.t 23)), (1, (.t 24))]⟩, 
                    ⟨some 26, none, .mv (.t 1)⟩, 
                    ⟨some 27, none, .mv (.t 5)⟩, 
                    ⟨some 28, none, .call 96 [(1, (.t 26)), (1, (.t 27))]⟩, 
                    ⟨some 29, none, .bin .lss (.t 25) (.t 28)⟩])
                (.cond (.t 29)
                (.seq (.reg [⟨some 4, none, .mv (.k (.i .i64 (-1)))⟩])
                  (.ret))
                (.skip)))
              (.seq (.reg [⟨some 4, none, .mv (.k (.i .i64 1))⟩])
              (.ret)))
            (.skip))))
        (.reg [⟨some 14, none, .mv (.t 5)⟩, 
          ⟨some 15, none, .bin .sub (.t 14) (.k (.i .i64 1))⟩, 
          ⟨some 5, none, .mv (.t 15)⟩]))))))
  (.seq (.reg [⟨some 4, none, .mv (.k (.i .i64 0))⟩])
  (.ret)))
theorem dcmp_spec (a b : List Nat) (ha : Lt 256 a) (hb : Lt 256 b) (la : a.length ≤ 1099511627776) (lb : b.length ≤ 1099511627776) :
    AFun Try.prog J0 75 [.l 1 (D a), .l 1 (D b)] (.i .i64 (sg (nv 256 a) (nv 256 b))) := by
  refine AFun.mk fol J0s Try.func75 rfl (ac := a75) (by kernel_rfl) rfl rfl ?_
  apply vm_start
  unfold a75
  simp only [init_eq, initE]
  generalize hm : max a.length b.length = m
  repeat first
    | (refine hK _ ?_; clear hK K)
    | ((first | refine vm_reg (fun K hK => ?_) | refine vm_dreg (fun K hK => ?_)); simp (disch := (first | omega | assumption)) only [S1, ↓reduceIte, Nat.reduceEqDiff, Nat.reduceAdd, Nat.reduceMul, Nat.reduceDiv, AOp.sb, AOp.mut, ↓Bool.false_eq_true, beq_self_eq_true, ite_self, Nat.reduceLeDiff, Int.reduceEq, Int.reduceSub, Int.reduceAdd, Int.reduceNeg, Int.reduceLT, Int.reduceLE, Nat.reduceLT, W_len, D_len, Nat.div_one, Nat.mul_one, tn_nat, W_nf, D_nf, W_nil, D_nil, mx, hm, wi]; refine hK _ ?_; clear hK K)
    | simp only [Sv, ↓reduceIte, Nat.reduceEqDiff]
  refine vm_loop Nat (fun i => ⟨[(0, .l 1 (D a)), (1, .l 1 (D b)), (5, .i .i64 ((i : Int) - 1))], [], 0⟩)
    (fun i => i ≤ m ∧ ∀ j, i ≤ j → a.getD j 0 = b.getD j 0) (fun i => i) m [] ⟨Nat.le_refl _, fun j hj => by rw [List.getD_eq_getElem?_getD, List.getD_eq_getElem?_getD, List.getElem?_eq_none (by omega), List.getElem?_eq_none (by omega)]⟩ (by simp (disch := (first | omega | assumption)) only [Sl, Sa, Sw, ↓reduceIte, Nat.reduceEqDiff, Nat.reduceLT, List.all_nil, List.all_cons, Nat.reduceBneDiff, Nat.reduceAdd, bne_iff_ne, ne_eq, reduceCtorEq, not_false_eq_true, not_true_eq_false, Bool.and_true, Bool.true_and, and_true, true_and, and_self]) ?_
  intro i ⟨hi, hj⟩ Q' hQ he hr
  by_cases h : (0 : Int) ≤ (i : Int) - 1
  · obtain ⟨n, rfl⟩ : ∃ n, i = n + 1 := ⟨i - 1, by omega⟩
    have e : ((n + 1 : Nat) : Int) - 1 = (n : Int) := by omega
    have h : (0 : Int) ≤ (n : Int) := by omega
    simp only [e]
    repeat first
      | (refine hK _ ?_; clear hK K)
      | ((first | refine vm_reg (fun K hK => ?_) | refine vm_dreg (fun K hK => ?_)); simp (disch := (first | omega | assumption)) only [S1, ↓reduceIte, Nat.reduceEqDiff, Nat.reduceAdd, Nat.reduceMul, Nat.reduceDiv, AOp.sb, AOp.mut, ↓Bool.false_eq_true, beq_self_eq_true, ite_self, Nat.reduceLeDiff, Int.reduceEq, Int.reduceSub, Int.reduceAdd, Int.reduceNeg, Int.reduceLT, Int.reduceLE, Nat.reduceLT, W_len, D_len, Nat.div_one, Nat.mul_one, tn_nat, W_nf, D_nf, W_nil, D_nil, h]; refine hK _ ?_; clear hK K)
      | simp only [Sv, ↓reduceIte, Nat.reduceEqDiff]
    try simp only [Sv, ↓reduceIte, Nat.reduceEqDiff]
    refine vm_reg (fun K hK => ?_)
    simp (disch := (first | omega | assumption)) only [S1, ↓reduceIte, Nat.reduceEqDiff, Nat.reduceAdd, Nat.reduceMul, Nat.reduceDiv, AOp.sb, AOp.mut, ↓Bool.false_eq_true, beq_self_eq_true, ite_self, Nat.reduceLeDiff, Int.reduceEq, Int.reduceSub, Int.reduceAdd, Int.reduceNeg, Int.reduceLT, Int.reduceLE, Nat.reduceLT, W_len, D_len, Nat.div_one, Nat.mul_one, tn_nat, W_nf, D_nf, W_nil, D_nil]
    refine clp_mk _ _ ?_ ?_ ?_ (dat_spec a n) ?_
    · simp (disch := (first | omega | assumption)) only [S1, ↓reduceIte, Nat.reduceEqDiff, Nat.reduceAdd, Nat.reduceMul, Nat.reduceDiv, AOp.sb, AOp.mut, ↓Bool.false_eq_true, beq_self_eq_true, ite_self, Nat.reduceLeDiff, Int.reduceEq, Int.reduceSub, Int.reduceAdd, Int.reduceNeg, Int.reduceLT, Int.reduceLE, Nat.reduceLT, W_len, D_len, Nat.div_one, Nat.mul_one, tn_nat, W_nf, D_nf, W_nil, D_nil]
    · simp (disch := (first | omega | assumption)) only [S1, ↓reduceIte, Nat.reduceEqDiff, Nat.reduceAdd, Nat.reduceMul, Nat.reduceDiv, AOp.sb, AOp.mut, ↓Bool.false_eq_true, beq_self_eq_true, ite_self, Nat.reduceLeDiff, Int.reduceEq, Int.reduceSub, Int.reduceAdd, Int.reduceNeg, Int.reduceLT, Int.reduceLE, Nat.reduceLT, W_len, D_len, Nat.div_one, Nat.mul_one, tn_nat, W_nf, D_nf, W_nil, D_nil]
    · first | rfl | (simp (disch := (first | omega | assumption)) only [S1, ↓reduceIte, Nat.reduceEqDiff, Nat.reduceAdd, Nat.reduceMul, Nat.reduceDiv, AOp.sb, AOp.mut, ↓Bool.false_eq_true, beq_self_eq_true, ite_self, Nat.reduceLeDiff, Int.reduceEq, Int.reduceSub, Int.reduceAdd, Int.reduceNeg, Int.reduceLT, Int.reduceLE, Nat.reduceLT, W_len, D_len, Nat.div_one, Nat.mul_one, tn_nat, W_nf, D_nf, W_nil, D_nil])
    simp (disch := (first | omega | assumption)) only [S1, ↓reduceIte, Nat.reduceEqDiff, Nat.reduceAdd, Nat.reduceMul, Nat.reduceDiv, AOp.sb, AOp.mut, ↓Bool.false_eq_true, beq_self_eq_true, ite_self, Nat.reduceLeDiff, Int.reduceEq, Int.reduceSub, Int.reduceAdd, Int.reduceNeg, Int.reduceLT, Int.reduceLE, Nat.reduceLT, W_len, D_len, Nat.div_one, Nat.mul_one, tn_nat, W_nf, D_nf, W_nil, D_nil]
    refine clp_mk _ _ ?_ ?_ ?_ (dat_spec b n) ?_
    · simp (disch := (first | omega | assumption)) only [S1, ↓reduceIte, Nat.reduceEqDiff, Nat.reduceAdd, Nat.reduceMul, Nat.reduceDiv, AOp.sb, AOp.mut, ↓Bool.false_eq_true, beq_self_eq_true, ite_self, Nat.reduceLeDiff, Int.reduceEq, Int.reduceSub, Int.reduceAdd, Int.reduceNeg, Int.reduceLT, Int.reduceLE, Nat.reduceLT, W_len, D_len, Nat.div_one, Nat.mul_one, tn_nat, W_nf, D_nf, W_nil, D_nil]
    · simp (disch := (first | omega | assumption)) only [S1, ↓reduceIte, Nat.reduceEqDiff, Nat.reduceAdd, Nat.reduceMul, Nat.reduceDiv, AOp.sb, AOp.mut, ↓Bool.false_eq_true, beq_self_eq_true, ite_self, Nat.reduceLeDiff, Int.reduceEq, Int.reduceSub, Int.reduceAdd, Int.reduceNeg, Int.reduceLT, Int.reduceLE, Nat.reduceLT, W_len, D_len, Nat.div_one, Nat.mul_one, tn_nat, W_nf, D_nf, W_nil, D_nil]
    · first | rfl | (simp (disch := (first | omega | assumption)) only [S1, ↓reduceIte, Nat.reduceEqDiff, Nat.reduceAdd, Nat.reduceMul, Nat.reduceDiv, AOp.sb, AOp.mut, ↓Bool.false_eq_true, beq_self_eq_true, ite_self, Nat.reduceLeDiff, Int.reduceEq, Int.reduceSub, Int.reduceAdd, Int.reduceNeg, Int.reduceLT, Int.reduceLE, Nat.reduceLT, W_len, D_len, Nat.div_one, Nat.mul_one, tn_nat, W_nf, D_nf, W_nil, D_nil])
    by_cases h1 : ((a.getD n 0 : Nat) : Int) = ((b.getD n 0 : Nat) : Int)
    · have hj' : ∀ j, n ≤ j → a.getD j 0 = b.getD j 0 := fun j h3 => by
        rcases Nat.lt_or_ge n j with h4 | h4
        · exact hj j h4
        · obtain rfl : j = n := by omega
          omega
      simp (disch := (first | omega | assumption)) only [S1, ↓reduceIte, Nat.reduceEqDiff, Nat.reduceAdd, Nat.reduceMul, Nat.reduceDiv, AOp.sb, AOp.mut, ↓Bool.false_eq_true, beq_self_eq_true, ite_self, Nat.reduceLeDiff, Int.reduceEq, Int.reduceSub, Int.reduceAdd, Int.reduceNeg, Int.reduceLT, Int.reduceLE, Nat.reduceLT, W_len, D_len, Nat.div_one, Nat.mul_one, tn_nat, W_nf, D_nf, W_nil, D_nil, h1]
      refine hK _ ?_
      clear hK K
      repeat first
        | (refine hK _ ?_; clear hK K)
        | ((first | refine vm_reg (fun K hK => ?_) | refine vm_dreg (fun K hK => ?_)); simp (disch := (first | omega | assumption)) only [S1, ↓reduceIte, Nat.reduceEqDiff, Nat.reduceAdd, Nat.reduceMul, Nat.reduceDiv, AOp.sb, AOp.mut, ↓Bool.false_eq_true, beq_self_eq_true, ite_self, Nat.reduceLeDiff, Int.reduceEq, Int.reduceSub, Int.reduceAdd, Int.reduceNeg, Int.reduceLT, Int.reduceLE, Nat.reduceLT, W_len, D_len, Nat.div_one, Nat.mul_one, tn_nat, W_nf, D_nf, W_nil, D_nil, wi]; refine hK _ ?_; clear hK K)
        | simp only [Sv, ↓reduceIte, Nat.reduceEqDiff]
      exact hQ _ n [] ⟨by omega, hj'⟩ (by omega) (by simp (disch := (first | omega | assumption)) only [Sl, Sa, Sw, ↓reduceIte, Nat.reduceEqDiff, Nat.reduceLT, List.all_nil, List.all_cons, Nat.reduceBneDiff, Nat.reduceAdd, bne_iff_ne, ne_eq, reduceCtorEq, not_false_eq_true, not_true_eq_false, Bool.and_true, Bool.true_and, and_true, true_and, and_self])
    · have c1 := (nv_eq_of (B := 256) (n + 1) hj).1
      have c2 := (nv_eq_of (B := 256) (n + 1) hj).2
      simp (disch := (first | omega | assumption)) only [S1, ↓reduceIte, Nat.reduceEqDiff, Nat.reduceAdd, Nat.reduceMul, Nat.reduceDiv, AOp.sb, AOp.mut, ↓Bool.false_eq_true, beq_self_eq_true, ite_self, Nat.reduceLeDiff, Int.reduceEq, Int.reduceSub, Int.reduceAdd, Int.reduceNeg, Int.reduceLT, Int.reduceLE, Nat.reduceLT, W_len, D_len, Nat.div_one, Nat.mul_one, tn_nat, W_nf, D_nf, W_nil, D_nil, h1]
      refine hK _ ?_
      clear hK K
      repeat first
        | (refine hK _ ?_; clear hK K)
        | ((first | refine vm_reg (fun K hK => ?_) | refine vm_dreg (fun K hK => ?_)); simp (disch := (first | omega | assumption)) only [S1, ↓reduceIte, Nat.reduceEqDiff, Nat.reduceAdd, Nat.reduceMul, Nat.reduceDiv, AOp.sb, AOp.mut, ↓Bool.false_eq_true, beq_self_eq_true, ite_self, Nat.reduceLeDiff, Int.reduceEq, Int.reduceSub, Int.reduceAdd, Int.reduceNeg, Int.reduceLT, Int.reduceLE, Nat.reduceLT, W_len, D_len, Nat.div_one, Nat.mul_one, tn_nat, W_nf, D_nf, W_nil, D_nil]; refine hK _ ?_; clear hK K)
        | simp only [Sv, ↓reduceIte, Nat.reduceEqDiff]
      try simp only [Sv, ↓reduceIte, Nat.reduceEqDiff]
      refine vm_reg (fun K hK => ?_)
      simp (disch := (first | omega | assumption)) only [S1, ↓reduceIte, Nat.reduceEqDiff, Nat.reduceAdd, Nat.reduceMul, Nat.reduceDiv, AOp.sb, AOp.mut, ↓Bool.false_eq_true, beq_self_eq_true, ite_self, Nat.reduceLeDiff, Int.reduceEq, Int.reduceSub, Int.reduceAdd, Int.reduceNeg, Int.reduceLT, Int.reduceLE, Nat.reduceLT, W_len, D_len, Nat.div_one, Nat.mul_one, tn_nat, W_nf, D_nf, W_nil, D_nil]
      refine clp_mk _ _ ?_ ?_ ?_ (dat_spec a n) ?_
      · simp (disch := (first | omega | assumption)) only [S1, ↓reduceIte, Nat.reduceEqDiff, Nat.reduceAdd, Nat.reduceMul, Nat.reduceDiv, AOp.sb, AOp.mut, ↓Bool.false_eq_true, beq_self_eq_true, ite_self, Nat.reduceLeDiff, Int.reduceEq, Int.reduceSub, Int.reduceAdd, Int.reduceNeg, Int.reduceLT, Int.reduceLE, Nat.reduceLT, W_len, D_len, Nat.div_one, Nat.mul_one, tn_nat, W_nf, D_nf, W_nil, D_nil]
      · simp (disch := (first | omega | assumption)) only [S1, ↓reduceIte, Nat.reduceEqDiff, Nat.reduceAdd, Nat.reduceMul, Nat.reduceDiv, AOp.sb, AOp.mut, ↓Bool.false_eq_true, beq_self_eq_true, ite_self, Nat.reduceLeDiff, Int.reduceEq, Int.reduceSub, Int.reduceAdd, Int.reduceNeg, Int.reduceLT, Int.reduceLE, Nat.reduceLT, W_len, D_len, Nat.div_one, Nat.mul_one, tn_nat, W_nf, D_nf, W_nil, D_nil]
      · first | rfl | (simp (disch := (first | omega | assumption)) only [S1, ↓reduceIte, Nat.reduceEqDiff, Nat.reduceAdd, Nat.reduceMul, Nat.reduceDiv, AOp.sb, AOp.mut, ↓Bool.false_eq_true, beq_self_eq_true, ite_self, Nat.reduceLeDiff, Int.reduceEq, Int.reduceSub, Int.reduceAdd, Int.reduceNeg, Int.reduceLT, Int.reduceLE, Nat.reduceLT, W_len, D_len, Nat.div_one, Nat.mul_one, tn_nat, W_nf, D_nf, W_nil, D_nil])
      simp (disch := (first | omega | assumption)) only [S1, ↓reduceIte, Nat.reduceEqDiff, Nat.reduceAdd, Nat.reduceMul, Nat.reduceDiv, AOp.sb, AOp.mut, ↓Bool.false_eq_true, beq_self_eq_true, ite_self, Nat.reduceLeDiff, Int.reduceEq, Int.reduceSub, Int.reduceAdd, Int.reduceNeg, Int.reduceLT, Int.reduceLE, Nat.reduceLT, W_len, D_len, Nat.div_one, Nat.mul_one, tn_nat, W_nf, D_nf, W_nil, D_nil]
      refine clp_mk _ _ ?_ ?_ ?_ (dat_spec b n) ?_
      · simp (disch := (first | omega | assumption)) only [S1, ↓reduceIte, Nat.reduceEqDiff, Nat.reduceAdd, Nat.reduceMul, Nat.reduceDiv, AOp.sb, AOp.mut, ↓Bool.false_eq_true, beq_self_eq_true, ite_self, Nat.reduceLeDiff, Int.reduceEq, Int.reduceSub, Int.reduceAdd, Int.reduceNeg, Int.reduceLT, Int.reduceLE, Nat.reduceLT, W_len, D_len, Nat.div_one, Nat.mul_one, tn_nat, W_nf, D_nf, W_nil, D_nil]
      · simp (disch := (first | omega | assumption)) only [S1, ↓reduceIte, Nat.reduceEqDiff, Nat.reduceAdd, Nat.reduceMul, Nat.reduceDiv, AOp.sb, AOp.mut, ↓Bool.false_eq_true, beq_self_eq_true, ite_self, Nat.reduceLeDiff, Int.reduceEq, Int.reduceSub, Int.reduceAdd, Int.reduceNeg, Int.reduceLT, Int.reduceLE, Nat.reduceLT, W_len, D_len, Nat.div_one, Nat.mul_one, tn_nat, W_nf, D_nf, W_nil, D_nil]
      · first | rfl | (simp (disch := (first | omega | assumption)) only [S1, ↓reduceIte, Nat.reduceEqDiff, Nat.reduceAdd, Nat.reduceMul, Nat.reduceDiv, AOp.sb, AOp.mut, ↓Bool.false_eq_true, beq_self_eq_true, ite_self, Nat.reduceLeDiff, Int.reduceEq, Int.reduceSub, Int.reduceAdd, Int.reduceNeg, Int.reduceLT, Int.reduceLE, Nat.reduceLT, W_len, D_len, Nat.div_one, Nat.mul_one, tn_nat, W_nf, D_nf, W_nil, D_nil])
      simp (disch := (first | omega | assumption)) only [S1, ↓reduceIte, Nat.reduceEqDiff, Nat.reduceAdd, Nat.reduceMul, Nat.reduceDiv, AOp.sb, AOp.mut, ↓Bool.false_eq_true, beq_self_eq_true, ite_self, Nat.reduceLeDiff, Int.reduceEq, Int.reduceSub, Int.reduceAdd, Int.reduceNeg, Int.reduceLT, Int.reduceLE, Nat.reduceLT, W_len, D_len, Nat.div_one, Nat.mul_one, tn_nat, W_nf, D_nf, W_nil, D_nil]
      refine hK _ ?_
      clear hK K
      by_cases h2 : ((a.getD n 0 : Nat) : Int) < ((b.getD n 0 : Nat) : Int)
      · simp only [h2, decide_true, decide_false]
        repeat first
          | (refine hK _ ?_; clear hK K)
          | ((first | refine vm_reg (fun K hK => ?_) | refine vm_dreg (fun K hK => ?_)); simp (disch := (first | omega | assumption)) only [S1, ↓reduceIte, Nat.reduceEqDiff, Nat.reduceAdd, Nat.reduceMul, Nat.reduceDiv, AOp.sb, AOp.mut, ↓Bool.false_eq_true, beq_self_eq_true, ite_self, Nat.reduceLeDiff, Int.reduceEq, Int.reduceSub, Int.reduceAdd, Int.reduceNeg, Int.reduceLT, Int.reduceLE, Nat.reduceLT, W_len, D_len, Nat.div_one, Nat.mul_one, tn_nat, W_nf, D_nf, W_nil, D_nil]; refine hK _ ?_; clear hK K)
          | simp only [Sv, ↓reduceIte, Nat.reduceEqDiff]
        refine hr _ ?_
        have c3 := cmp_lt (b := 256) (by decide) ha hb n (by omega)
        have c4 : nv 256 a < nv 256 b := c1.1 c3
        simp (disch := (first | omega | assumption)) only [retOk, retN, ret1, retF, ret1F, V.okArg, and_true, true_and, S1, ↓reduceIte, Nat.reduceEqDiff, Nat.reduceAdd, Nat.reduceMul, Nat.reduceDiv, AOp.sb, AOp.mut, ↓Bool.false_eq_true, beq_self_eq_true, ite_self, Nat.reduceLeDiff, Int.reduceEq, Int.reduceSub, Int.reduceAdd, Int.reduceNeg, Int.reduceLT, Int.reduceLE, Nat.reduceLT, W_len, D_len, Nat.div_one, Nat.mul_one, tn_nat, W_nf, D_nf, W_nil, D_nil, i_eq]
        simp [sg, c4]
      · simp only [h2, decide_true, decide_false]
        repeat first
          | (refine hK _ ?_; clear hK K)
          | ((first | refine vm_reg (fun K hK => ?_) | refine vm_dreg (fun K hK => ?_)); simp (disch := (first | omega | assumption)) only [S1, ↓reduceIte, Nat.reduceEqDiff, Nat.reduceAdd, Nat.reduceMul, Nat.reduceDiv, AOp.sb, AOp.mut, ↓Bool.false_eq_true, beq_self_eq_true, ite_self, Nat.reduceLeDiff, Int.reduceEq, Int.reduceSub, Int.reduceAdd, Int.reduceNeg, Int.reduceLT, Int.reduceLE, Nat.reduceLT, W_len, D_len, Nat.div_one, Nat.mul_one, tn_nat, W_nf, D_nf, W_nil, D_nil]; refine hK _ ?_; clear hK K)
          | simp only [Sv, ↓reduceIte, Nat.reduceEqDiff]
        refine hr _ ?_
        have c3 := cmp_lt (b := 256) (by decide) hb ha n (by omega)
        have c4 : ¬ nv 256 a < nv 256 b := fun h => by have := c1.2 h; omega
        have c5 : ¬ nv 256 a = nv 256 b := fun h => by have := c2.2 h; omega
        simp (disch := (first | omega | assumption)) only [retOk, retN, ret1, retF, ret1F, V.okArg, and_true, true_and, S1, ↓reduceIte, Nat.reduceEqDiff, Nat.reduceAdd, Nat.reduceMul, Nat.reduceDiv, AOp.sb, AOp.mut, ↓Bool.false_eq_true, beq_self_eq_true, ite_self, Nat.reduceLeDiff, Int.reduceEq, Int.reduceSub, Int.reduceAdd, Int.reduceNeg, Int.reduceLT, Int.reduceLE, Nat.reduceLT, W_len, D_len, Nat.div_one, Nat.mul_one, tn_nat, W_nf, D_nf, W_nil, D_nil, i_eq]
        simp [sg, c4, c5]
  · obtain rfl : i = 0 := by omega
    repeat first
      | (refine hK _ ?_; clear hK K)
      | ((first | refine vm_reg (fun K hK => ?_) | refine vm_dreg (fun K hK => ?_)); simp (disch := (first | omega | assumption)) only [S1, ↓reduceIte, Nat.reduceEqDiff, Nat.reduceAdd, Nat.reduceMul, Nat.reduceDiv, AOp.sb, AOp.mut, ↓Bool.false_eq_true, beq_self_eq_true, ite_self, Nat.reduceLeDiff, Int.reduceEq, Int.reduceSub, Int.reduceAdd, Int.reduceNeg, Int.reduceLT, Int.reduceLE, Nat.reduceLT, W_len, D_len, Nat.div_one, Nat.mul_one, tn_nat, W_nf, D_nf, W_nil, D_nil, h]; refine hK _ ?_; clear hK K)
      | simp only [Sv, ↓reduceIte, Nat.reduceEqDiff]
    refine he _ _ ?_
    repeat first
      | (refine hK _ ?_; clear hK K)
      | ((first | refine vm_reg (fun K hK => ?_) | refine vm_dreg (fun K hK => ?_)); simp (disch := (first | omega | assumption)) only [S1, ↓reduceIte, Nat.reduceEqDiff, Nat.reduceAdd, Nat.reduceMul, Nat.reduceDiv, AOp.sb, AOp.mut, ↓Bool.false_eq_true, beq_self_eq_true, ite_self, Nat.reduceLeDiff, Int.reduceEq, Int.reduceSub, Int.reduceAdd, Int.reduceNeg, Int.reduceLT, Int.reduceLE, Nat.reduceLT, W_len, D_len, Nat.div_one, Nat.mul_one, tn_nat, W_nf, D_nf, W_nil, D_nil]; refine hK _ ?_; clear hK K)
      | simp only [Sv, ↓reduceIte, Nat.reduceEqDiff]
    have c2 := (nv_eq_of (B := 256) 0 hj).2.1 rfl
    simp (disch := (first | omega | assumption)) only [retOk, retN, ret1, retF, ret1F, V.okArg, and_true, true_and, S1, ↓reduceIte, Nat.reduceEqDiff, Nat.reduceAdd, Nat.reduceMul, Nat.reduceDiv, AOp.sb, AOp.mut, ↓Bool.false_eq_true, beq_self_eq_true, ite_self, Nat.reduceLeDiff, Int.reduceEq, Int.reduceSub, Int.reduceAdd, Int.reduceNeg, Int.reduceLT, Int.reduceLE, Nat.reduceLT, W_len, D_len, Nat.div_one, Nat.mul_one, tn_nat, W_nf, D_nf, W_nil, D_nil, i_eq]
    simp [sg, c2]
end Go.Proofs.Ytngohbpgdeiodaa
