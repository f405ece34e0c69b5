/-
  surdref01, surdref05: digits to the base 65536.
-/
import Derived.Test.YtfkldohgiifgbaaGD
import Derived.Test.YtfkldohgiifgbaaGC
namespace Go.Proofs.Ytfkldohgiifgbaa
open Go Go.RowKit Ab
set_option linter.unusedSimpArgs false
set_option linter.unusedVariables false
set_option maxHeartbeats 10000000
theorem bz_F1 : type_of% (And.intro @W_len (And.intro @D_len (And.intro @Nat.div_one (And.intro @Nat.mul_one (And.intro @tn_nat (And.intro @W_nf (And.intro @D_nf (And.intro @W_nil (And.intro @D_nil (And.intro @wi (@D_get))))))))))) := And.intro @W_len (And.intro @D_len (And.intro @Nat.div_one (And.intro @Nat.mul_one (And.intro @tn_nat (And.intro @W_nf (And.intro @D_nf (And.intro @W_nil (And.intro @D_nil (And.intro @wi (@D_get))))))))))

theorem H2 : 2 ≤ 65536 := by decide
theorem B_H (i : Nat) : B ^ i = 65536 ^ (4 * i) := by rw [Nat.pow_mul]; rfl
theorem tmod_H (a : Nat) : (a : Int).tmod 65536 = ((a % 65536 : Nat) : Int) := rfl
theorem tdiv_H (a : Nat) : (a : Int).tdiv 65536 = ((a / 65536 : Nat) : Int) := rfl
theorem D_cat5 (a : List Nat) (x : Nat) : D a ++ [V.i .i64 (x : Int)] = D (a ++ [x]) := by simp [D]
theorem D_set5 (a : List Nat) (i x : Nat) : (D a).set i (.i .i64 (x : Int)) = D (a.set i x) := by simp [D]
theorem mk_D5 (n : Nat) : (List.replicate n [V.i .i64 0]).flatten = D (List.replicate n 0) := by
  induction n with
  | zero => rfl
  | succ n ih => rw [List.replicate_succ, List.flatten_cons, ih, List.replicate_succ]; rfl
theorem mk_W5 (n : Nat) : (List.replicate n [V.i .u64 0]).flatten = W (List.replicate n 0) := by
  induction n with
  | zero => rfl
  | succ n ih => rw [List.replicate_succ, List.flatten_cons, ih, List.replicate_succ]; rfl
theorem dgH_len {a : List Nat} (ha : Wd a) : (dg 65536 (nv B a)).length ≤ 4 * a.length := dg_len H2 (by rw [← B_H]; exact nv_lt ha)
theorem dgH_lt {v m : Nat} (h : v < B ^ m) : (dg 65536 v).length ≤ 4 * m := dg_len H2 (by rw [← B_H]; exact h)

-- surd/surdref05.cut
def a105 : AC := .seq (.reg [⟨some 2, none, .mv (.k .nl)⟩])
  (.seq (.reg [⟨some 4, none, .mv (.t 0)⟩, 
      ⟨some 5, none, .len (.t 4)⟩, 
      ⟨some 3, none, .mv (.t 5)⟩])
  (.seq (.blk 0
    (.loop
      (.seq (.seq (.reg [⟨some 6, none, .mv (.t 3)⟩, 
              ⟨some 7, none, .bin .gtr (.t 6) (.k (.i .i64 0))⟩, 
              ⟨some 8, none, .mv (.t 7)⟩, 
              ⟨some 9, some (8, true), .mv (.t 0)⟩, 
              ⟨some 10, some (8, true), .mv (.t 3)⟩, 
              ⟨some 11, some (8, true), .bin .sub (.t 10) (.k (.i .i64 1))⟩, 
              ⟨some 12, some (8, true), .idx 1 (.t 9) (.t 11)⟩, 
              ⟨some 13, some (8, true), .ld false 1 (.t 12)⟩, 
              ⟨some 14, some (8, true), .bin .eql (.t 13) (.k (.i .i64 0))⟩, 
              ⟨some 15, none, .pick (.t 8) (.t 14) (.k (.b false))⟩])
          (.cond (.t 15)
          (.skip)
          (.exit 0)))
        (.blk 1
        (.reg [⟨some 16, none, .mv (.t 3)⟩, 
            ⟨some 17, none, .bin .sub (.t 16) (.k (.i .i64 1))⟩, 
            ⟨some 3, none, .mv (.t 17)⟩])))))
  (.seq (.reg [⟨some 18, none, .mv (.t 0)⟩, 
      ⟨some 19, none, .mv (.t 3)⟩, 
      ⟨some 20, none, .sub 1 (.t 18) none (some (.t 19))⟩, 
      ⟨some 2, none, .mv (.t 20)⟩])
  (.ret))))
theorem hcut_spec (a : List Nat) (ha : a.length ≤ 9223372036854775807) : AFun Try.prog J0 105 [.l 1 (D a)] (.l 1 (D (tz a))) := by
  refine AFun.mk fol J0s Try.func105 rfl (ac := a105) (by kernel_rfl) rfl rfl ?_
  apply vm_start
  unfold a105
  simp only [init_eq, initE]
  repeat first
    | (refine hK _ ?_; clear hK K)
    | ((first | refine vm_reg (fun K hK => ?_) | refine vm_dreg (fun K hK => ?_)); simp (disch := (first | omega | assumption)) only [S1, ↓reduceIte, Nat.reduceEqDiff, Nat.reduceAdd, Nat.reduceMul, Nat.reduceDiv, AOp.sb, AOp.mut, ↓Bool.false_eq_true, beq_self_eq_true, ite_self, Nat.reduceLeDiff, Int.reduceEq, Int.reduceSub, Int.reduceAdd, Int.reduceNeg, Int.reduceLT, Int.reduceLE, Nat.reduceLT, bz_F1]; refine hK _ ?_; clear hK K)
    | simp only [Sv, ↓reduceIte, Nat.reduceEqDiff]
  refine vm_loopA [] Nat (fun n => ⟨[(0, .l 1 (D a)), (3, .i .i64 (n : Int))], [], 0⟩) (fun n => n ≤ a.length ∧ tz a = tz (a.take n)) (fun n => n) a.length ⟨by omega, by rw [List.take_length]⟩ (by simp (disch := (first | omega | assumption)) only [Sl, Sa, Sw, ↓reduceIte, Nat.reduceEqDiff, Nat.reduceLT, List.all_nil, List.all_cons, Nat.reduceBneDiff, Nat.reduceAdd, bne_iff_ne, ne_eq, reduceCtorEq, not_false_eq_true, not_true_eq_false, Bool.and_true, Bool.true_and, and_true, true_and, and_self]) (by
    simp (disch := (first | omega | assumption)) only [Sl, Sa, Sw, ↓reduceIte, Nat.reduceEqDiff, Nat.reduceLT, List.all_nil, List.all_cons, Nat.reduceBneDiff, Nat.reduceAdd, bne_iff_ne, ne_eq, reduceCtorEq, not_false_eq_true, not_true_eq_false, Bool.and_true, Bool.true_and, and_true, true_and, and_self, i_eq]
    try rfl) ?_
  intro n ⟨hn, ht⟩ Q' hQ he hr
  by_cases h0 : 0 < (n : Int)
  · obtain ⟨m, rfl⟩ : ∃ m, n = m + 1 := ⟨n - 1, by omega⟩
    by_cases h1 : ((a.getD m 0 : Nat) : Int) = 0
    · repeat first
        | (refine hK _ ?_; clear hK K)
        | ((first | refine vm_reg (fun K hK => ?_) | refine vm_dreg (fun K hK => ?_)); simp (disch := (first | omega | assumption)) only [S1, ↓reduceIte, Nat.reduceEqDiff, Nat.reduceAdd, Nat.reduceMul, Nat.reduceDiv, AOp.sb, AOp.mut, ↓Bool.false_eq_true, beq_self_eq_true, ite_self, Nat.reduceLeDiff, Int.reduceEq, Int.reduceSub, Int.reduceAdd, Int.reduceNeg, Int.reduceLT, Int.reduceLE, Nat.reduceLT, bz_F1, h0, h1, D_get, wi, tn_sub1, Nat.add_sub_cancel]; refine hK _ ?_; clear hK K)
        | simp only [Sv, ↓reduceIte, Nat.reduceEqDiff]
      refine hQ _ m ⟨by omega, ?_⟩ (by omega) ?_
      · rw [ht]; exact tz_zero a m (by omega) (by omega)
      · simp (disch := (first | omega | assumption)) only [Sl, Sa, Sw, ↓reduceIte, Nat.reduceEqDiff, Nat.reduceLT, List.all_nil, List.all_cons, Nat.reduceBneDiff, Nat.reduceAdd, bne_iff_ne, ne_eq, reduceCtorEq, not_false_eq_true, not_true_eq_false, Bool.and_true, Bool.true_and, and_true, true_and, and_self, i_eq]
        omega
    · repeat first
        | (refine hK _ ?_; clear hK K)
        | ((first | refine vm_reg (fun K hK => ?_) | refine vm_dreg (fun K hK => ?_)); simp (disch := (first | omega | assumption)) only [S1, ↓reduceIte, Nat.reduceEqDiff, Nat.reduceAdd, Nat.reduceMul, Nat.reduceDiv, AOp.sb, AOp.mut, ↓Bool.false_eq_true, beq_self_eq_true, ite_self, Nat.reduceLeDiff, Int.reduceEq, Int.reduceSub, Int.reduceAdd, Int.reduceNeg, Int.reduceLT, Int.reduceLE, Nat.reduceLT, bz_F1, h0, h1, D_get, wi, tn_sub1, Nat.add_sub_cancel]; refine hK _ ?_; clear hK K)
        | simp only [Sv, ↓reduceIte, Nat.reduceEqDiff]
      refine he _ _ ?_
      repeat first
        | (refine hK _ ?_; clear hK K)
        | ((first | refine vm_reg (fun K hK => ?_) | refine vm_dreg (fun K hK => ?_)); simp (disch := (first | omega | assumption)) only [S1, ↓reduceIte, Nat.reduceEqDiff, Nat.reduceAdd, Nat.reduceMul, Nat.reduceDiv, AOp.sb, AOp.mut, ↓Bool.false_eq_true, beq_self_eq_true, ite_self, Nat.reduceLeDiff, Int.reduceEq, Int.reduceSub, Int.reduceAdd, Int.reduceNeg, Int.reduceLT, Int.reduceLE, Nat.reduceLT, bz_F1, D_take]; refine hK _ ?_; clear hK K)
        | simp only [Sv, ↓reduceIte, Nat.reduceEqDiff]
      have e := tz_take a
      rw [ht, tz_top a m (by omega) (by omega)] at e
      simp (disch := (first | omega | assumption)) only [retOk, retN, ret1, retF, ret1F, V.okArg, and_true, true_and, S1, ↓reduceIte, Nat.reduceEqDiff, Nat.reduceAdd, Nat.reduceMul, Nat.reduceDiv, AOp.sb, AOp.mut, ↓Bool.false_eq_true, beq_self_eq_true, ite_self, Nat.reduceLeDiff, Int.reduceEq, Int.reduceSub, Int.reduceAdd, Int.reduceNeg, Int.reduceLT, Int.reduceLE, Nat.reduceLT, bz_F1]
      rw [e, ht]
  · repeat first
      | (refine hK _ ?_; clear hK K)
      | ((first | refine vm_reg (fun K hK => ?_) | refine vm_dreg (fun K hK => ?_)); simp (disch := (first | omega | assumption)) only [S1, ↓reduceIte, Nat.reduceEqDiff, Nat.reduceAdd, Nat.reduceMul, Nat.reduceDiv, AOp.sb, AOp.mut, ↓Bool.false_eq_true, beq_self_eq_true, ite_self, Nat.reduceLeDiff, Int.reduceEq, Int.reduceSub, Int.reduceAdd, Int.reduceNeg, Int.reduceLT, Int.reduceLE, Nat.reduceLT, bz_F1, h0]; refine hK _ ?_; clear hK K)
      | simp only [Sv, ↓reduceIte, Nat.reduceEqDiff]
    refine he _ _ ?_
    obtain rfl : n = 0 := by omega
    repeat first
      | (refine hK _ ?_; clear hK K)
      | ((first | refine vm_reg (fun K hK => ?_) | refine vm_dreg (fun K hK => ?_)); simp (disch := (first | omega | assumption)) only [S1, ↓reduceIte, Nat.reduceEqDiff, Nat.reduceAdd, Nat.reduceMul, Nat.reduceDiv, AOp.sb, AOp.mut, ↓Bool.false_eq_true, beq_self_eq_true, ite_self, Nat.reduceLeDiff, Int.reduceEq, Int.reduceSub, Int.reduceAdd, Int.reduceNeg, Int.reduceLT, Int.reduceLE, Nat.reduceLT, bz_F1, D_take]; refine hK _ ?_; clear hK K)
      | simp only [Sv, ↓reduceIte, Nat.reduceEqDiff]
    simp (disch := (first | omega | assumption)) only [retOk, retN, ret1, retF, ret1F, V.okArg, and_true, true_and, S1, ↓reduceIte, Nat.reduceEqDiff, Nat.reduceAdd, Nat.reduceMul, Nat.reduceDiv, AOp.sb, AOp.mut, ↓Bool.false_eq_true, beq_self_eq_true, ite_self, Nat.reduceLeDiff, Int.reduceEq, Int.reduceSub, Int.reduceAdd, Int.reduceNeg, Int.reduceLT, Int.reduceLE, Nat.reduceLT, bz_F1, ht]
    rfl

-- surd/surdref01.Digits
def a106 : AC := .seq (.reg [⟨some 2, none, .mv (.k .nl)⟩])
  (.seq (.reg [⟨some 3, none, .mv (.k .nl)⟩])
  (.seq (.seq (.reg [⟨some 4, none, .mv (.k (.i .i64 0))⟩])
    (.blk 0
    (.loop
      (.seq (.seq (.reg [⟨some 7, none, .mv (.t 4)⟩, 
              ⟨some 8, none, .mv (.t 0)⟩, 
              ⟨some 9, none, .len (.t 8)⟩, 
              ⟨some 10, none, .bin .lss (.t 7) (.t 9)⟩])
          (.cond (.t 10)
          (.skip)
          (.exit 0)))
        (.seq (.blk 1
          (.seq (.reg [⟨some 13, none, .mv (.t 0)⟩, 
                ⟨some 14, none, .mv (.t 4)⟩, 
                ⟨some 15, none, .idx 1 (.t 13) (.t 14)⟩, 
                ⟨some 16, none, .ld false 1 (.t 15)⟩, 
                ⟨some 5, none, .mv (.t 16)⟩])
            (.seq (.reg [⟨some 6, none, .mv (.k (.i .i64 0))⟩])
            (.blk 2
            (.loop
              (.seq (.seq (.reg [⟨some 17, none, .mv (.t 6)⟩, 
                      ⟨some 18, none, .bin .lss (.t 17) (.k (.i .i64 4))⟩])
                  (.cond (.t 18)
                  (.skip)
                  (.exit 2)))
                (.seq (.blk 3
                  (.seq (.reg [⟨some 21, none, .mv (.t 3)⟩, 
                        ⟨some 22, none, .mv (.t 5)⟩, 
                        ⟨some 23, none, .bin .rem (.t 22) (.k (.i .u64 65536))⟩, 
                        ⟨some 24, none, .cvt .i64 (.t 23)⟩, 
                        ⟨some 25, none, .bsl 3 1 1 [(.i .i64 0)] [(0, (.t 24))]⟩, 
                        ⟨some 26, none, .app 3 1 8 (.t 21) (.t 25)⟩, 
                        ⟨some 3, none, .mv (.t 26)⟩])
                    (.reg [⟨some 27, none, .mv (.t 5)⟩, 
                      ⟨some 28, none, .bin .quo (.t 27) (.k (.i .u64 65536))⟩, 
                      ⟨some 5, none, .mv (.t 28)⟩])))
                (.reg [⟨some 19, none, .mv (.t 6)⟩, 
                  ⟨some 20, none, .bin .add (.t 19) (.k (.i .i64 1))⟩, 
                  ⟨some 6, none, .mv (.t 20)⟩]))))))))
        (.reg [⟨some 11, none, .mv (.t 4)⟩, 
          ⟨some 12, none, .bin .add (.t 11) (.k (.i .i64 1))⟩, 
          ⟨some 4, none, .mv (.t 12)⟩]))))))
  (.seq (.reg [⟨some 29, none, .mv (.t 3)⟩, 
      ⟨some 2, none, .mv (.t 29)⟩])
  (.ret))))
theorem hDigits_spec (a : List Nat) (ha : Wd a) (la : a.length ≤ 100000000000) : AFun Try.prog J0 106 [.l 1 (W a)] (.l 1 (D (fl 65536 (4 * a.length) (nv B a)))) := by
  refine AFun.mk fol J0s Try.func106 rfl (ac := a106) (by kernel_rfl) rfl rfl ?_
  apply vm_start
  unfold a106
  simp only [init_eq, initE]
  repeat first
    | (refine hK _ ?_; clear hK K)
    | ((first | refine vm_reg (fun K hK => ?_) | refine vm_dreg (fun K hK => ?_)); simp (disch := (first | omega | assumption)) only [S1, ↓reduceIte, Nat.reduceEqDiff, Nat.reduceAdd, Nat.reduceMul, Nat.reduceDiv, AOp.sb, AOp.mut, ↓Bool.false_eq_true, beq_self_eq_true, ite_self, Nat.reduceLeDiff, Int.reduceEq, Int.reduceSub, Int.reduceAdd, Int.reduceNeg, Int.reduceLT, Int.reduceLE, Nat.reduceLT, bz_F1]; refine hK _ ?_; clear hK K)
    | simp only [Sv, ↓reduceIte, Nat.reduceEqDiff]
  refine vm_loopA [(3, 3, 1)] Nat (fun i => ⟨[(0, .l 1 (W a)), (3, .ow 1 0 (4 * i)), (4, .i .i64 (i : Int))], [(0, some ⟨3, 1, D (fl 65536 (4 * i) (nv B (a.take i))), true, false⟩)], 1⟩)
    (fun i => i ≤ a.length) (fun i => a.length - i) 0 (Nat.zero_le _) (by simp (disch := (first | omega | assumption)) only [Sl, Sa, Sw, ↓reduceIte, Nat.reduceEqDiff, Nat.reduceLT, List.all_nil, List.all_cons, Nat.reduceBneDiff, Nat.reduceAdd, bne_iff_ne, ne_eq, reduceCtorEq, not_false_eq_true, not_true_eq_false, Bool.and_true, Bool.true_and, and_true, true_and, and_self]) (by
    simp (disch := (first | omega | assumption)) only [Sl, Sa, Sw, ↓reduceIte, Nat.reduceEqDiff, Nat.reduceLT, List.all_nil, List.all_cons, Nat.reduceBneDiff, Nat.reduceAdd, bne_iff_ne, ne_eq, reduceCtorEq, not_false_eq_true, not_true_eq_false, Bool.and_true, Bool.true_and, and_true, true_and, and_self, i_eq]
    exact ⟨rfl, rfl⟩) ?_
  intro i hi Q' hQ he hr
  by_cases h : (i : Int) < a.length
  · repeat first
      | (refine hK _ ?_; clear hK K)
      | ((first | refine vm_reg (fun K hK => ?_) | refine vm_dreg (fun K hK => ?_)); simp (disch := (first | omega | assumption)) only [S1, ↓reduceIte, Nat.reduceEqDiff, Nat.reduceAdd, Nat.reduceMul, Nat.reduceDiv, AOp.sb, AOp.mut, ↓Bool.false_eq_true, beq_self_eq_true, ite_self, Nat.reduceLeDiff, Int.reduceEq, Int.reduceSub, Int.reduceAdd, Int.reduceNeg, Int.reduceLT, Int.reduceLE, Nat.reduceLT, bz_F1, h, W_get]; refine hK _ ?_; clear hK K)
      | simp only [Sv, ↓reduceIte, Nat.reduceEqDiff]
    refine vm_loopA [] Nat (fun k => ⟨[(0, .l 1 (W a)), (3, .ow 1 0 (4 * i + k)), (4, .i .i64 (i : Int)), (5, .i .u64 ((a.getD i 0 / 65536 ^ k : Nat) : Int)), (6, .i .i64 (k : Int))], [(0, some ⟨3, 1, D (fl 65536 (4 * i) (nv B (a.take i)) ++ fl 65536 k (a.getD i 0)), true, false⟩)], 1⟩)
      (fun k => k ≤ 4) (fun k => 4 - k) 0 (Nat.zero_le _) (by simp (disch := (first | omega | assumption)) only [Sl, Sa, Sw, ↓reduceIte, Nat.reduceEqDiff, Nat.reduceLT, List.all_nil, List.all_cons, Nat.reduceBneDiff, Nat.reduceAdd, bne_iff_ne, ne_eq, reduceCtorEq, not_false_eq_true, not_true_eq_false, Bool.and_true, Bool.true_and, and_true, true_and, and_self]) (by
      simp (disch := (first | omega | assumption)) only [Sl, Sa, Sw, ↓reduceIte, Nat.reduceEqDiff, Nat.reduceLT, List.all_nil, List.all_cons, Nat.reduceBneDiff, Nat.reduceAdd, bne_iff_ne, ne_eq, reduceCtorEq, not_false_eq_true, not_true_eq_false, Bool.and_true, Bool.true_and, and_true, true_and, and_self, i_eq]
      exact ⟨⟨rfl, by simp, rfl⟩, by simp [fl]⟩) ?_
    intro k hk Q'' hQ' he' hr'
    by_cases h1 : (k : Int) < 4
    · have hq : a.getD i 0 / 65536 ^ k < 18446744073709551616 := Nat.lt_of_le_of_lt (Nat.div_le_self _ _) (Wd_get ha i)
      have hw : IntKind.u64.wrap ((a.getD i 0 / 65536 ^ k / 65536 : Nat) : Int) = ((a.getD i 0 / 65536 ^ k / 65536 : Nat) : Int) := by
        generalize a.getD i 0 / 65536 ^ k = q at hq ⊢
        exact wu (by omega)
      repeat first
        | (refine hK _ ?_; clear hK K)
        | ((first | refine vm_reg (fun K hK => ?_) | refine vm_dreg (fun K hK => ?_)); simp (disch := (first | omega | assumption)) only [S1, ↓reduceIte, Nat.reduceEqDiff, Nat.reduceAdd, Nat.reduceMul, Nat.reduceDiv, AOp.sb, AOp.mut, ↓Bool.false_eq_true, beq_self_eq_true, ite_self, Nat.reduceLeDiff, Int.reduceEq, Int.reduceSub, Int.reduceAdd, Int.reduceNeg, Int.reduceLT, Int.reduceLE, Nat.reduceLT, bz_F1, h1, tmod_H, tdiv_H, wi, hw, D_cat5]; refine hK _ ?_; clear hK K)
        | simp only [Sv, ↓reduceIte, Nat.reduceEqDiff]
      refine hQ' _ (k + 1) (by omega) (by omega) ?_
      simp (disch := (first | omega | assumption)) only [Sl, Sa, Sw, ↓reduceIte, Nat.reduceEqDiff, Nat.reduceLT, List.all_nil, List.all_cons, Nat.reduceBneDiff, Nat.reduceAdd, bne_iff_ne, ne_eq, reduceCtorEq, not_false_eq_true, not_true_eq_false, Bool.and_true, Bool.true_and, and_true, true_and, and_self, i_eq]
      exact ⟨⟨by omega, by rw [Nat.div_div_eq_div_mul, ← Nat.pow_succ], rfl⟩, by rw [fl_succ, List.append_assoc]⟩
    · obtain rfl : k = 4 := by omega
      repeat first
        | (refine hK _ ?_; clear hK K)
        | ((first | refine vm_reg (fun K hK => ?_) | refine vm_dreg (fun K hK => ?_)); simp (disch := (first | omega | assumption)) only [S1, ↓reduceIte, Nat.reduceEqDiff, Nat.reduceAdd, Nat.reduceMul, Nat.reduceDiv, AOp.sb, AOp.mut, ↓Bool.false_eq_true, beq_self_eq_true, ite_self, Nat.reduceLeDiff, Int.reduceEq, Int.reduceSub, Int.reduceAdd, Int.reduceNeg, Int.reduceLT, Int.reduceLE, Nat.reduceLT, bz_F1, h1]; refine hK _ ?_; clear hK K)
        | simp only [Sv, ↓reduceIte, Nat.reduceEqDiff]
      refine he' _ _ ?_
      repeat first
        | (refine hK _ ?_; clear hK K)
        | ((first | refine vm_reg (fun K hK => ?_) | refine vm_dreg (fun K hK => ?_)); simp (disch := (first | omega | assumption)) only [S1, ↓reduceIte, Nat.reduceEqDiff, Nat.reduceAdd, Nat.reduceMul, Nat.reduceDiv, AOp.sb, AOp.mut, ↓Bool.false_eq_true, beq_self_eq_true, ite_self, Nat.reduceLeDiff, Int.reduceEq, Int.reduceSub, Int.reduceAdd, Int.reduceNeg, Int.reduceLT, Int.reduceLE, Nat.reduceLT, bz_F1, wi]; refine hK _ ?_; clear hK K)
        | simp only [Sv, ↓reduceIte, Nat.reduceEqDiff]
      refine hQ _ (i + 1) (by omega) (by omega) ?_
      simp (disch := (first | omega | assumption)) only [Sl, Sa, Sw, ↓reduceIte, Nat.reduceEqDiff, Nat.reduceLT, List.all_nil, List.all_cons, Nat.reduceBneDiff, Nat.reduceAdd, bne_iff_ne, ne_eq, reduceCtorEq, not_false_eq_true, not_true_eq_false, Bool.and_true, Bool.true_and, and_true, true_and, and_self, i_eq]
      refine ⟨⟨by omega, rfl⟩, ?_⟩
      rw [show 4 * (i + 1) = 4 * i + 4 from by omega, fl_add, nv_take_succ', B_H]
      have hlt := nv_take_lt (b := B) (by decide) ha i
      rw [B_H] at hlt
      rw [Nat.add_mul_div_left _ _ (Nat.pow_pos (by decide)), Nat.div_eq_of_lt hlt, Nat.zero_add, fl_congr (b := 65536) (by decide) (n := 4 * i) (v := nv B (a.take i) + 65536 ^ (4 * i) * a.getD i 0) (u := nv B (a.take i)) (by rw [Nat.add_mul_mod_self_left])]
  · obtain rfl : i = a.length := by omega
    repeat first
      | (refine hK _ ?_; clear hK K)
      | ((first | refine vm_reg (fun K hK => ?_) | refine vm_dreg (fun K hK => ?_)); simp (disch := (first | omega | assumption)) only [S1, ↓reduceIte, Nat.reduceEqDiff, Nat.reduceAdd, Nat.reduceMul, Nat.reduceDiv, AOp.sb, AOp.mut, ↓Bool.false_eq_true, beq_self_eq_true, ite_self, Nat.reduceLeDiff, Int.reduceEq, Int.reduceSub, Int.reduceAdd, Int.reduceNeg, Int.reduceLT, Int.reduceLE, Nat.reduceLT, bz_F1, h]; refine hK _ ?_; clear hK K)
      | simp only [Sv, ↓reduceIte, Nat.reduceEqDiff]
    refine he _ _ ?_
    repeat first
      | (refine hK _ ?_; clear hK K)
      | ((first | refine vm_reg (fun K hK => ?_) | refine vm_dreg (fun K hK => ?_)); simp (disch := (first | omega | assumption)) only [S1, ↓reduceIte, Nat.reduceEqDiff, Nat.reduceAdd, Nat.reduceMul, Nat.reduceDiv, AOp.sb, AOp.mut, ↓Bool.false_eq_true, beq_self_eq_true, ite_self, Nat.reduceLeDiff, Int.reduceEq, Int.reduceSub, Int.reduceAdd, Int.reduceNeg, Int.reduceLT, Int.reduceLE, Nat.reduceLT, bz_F1]; refine hK _ ?_; clear hK K)
      | simp only [Sv, ↓reduceIte, Nat.reduceEqDiff]
    simp (disch := (first | omega | assumption)) only [retOk, retN, ret1, retF, ret1F, V.okArg, and_true, true_and, S1, ↓reduceIte, Nat.reduceEqDiff, Nat.reduceAdd, Nat.reduceMul, Nat.reduceDiv, AOp.sb, AOp.mut, ↓Bool.false_eq_true, beq_self_eq_true, ite_self, Nat.reduceLeDiff, Int.reduceEq, Int.reduceSub, Int.reduceAdd, Int.reduceNeg, Int.reduceLT, Int.reduceLE, Nat.reduceLT, bz_F1]
    rw [List.take_length]

-- surd/surdref05.digits
def a83 : AC := .seq (.reg [⟨some 2, none, .mv (.k .nl)⟩])
  (.seq (.reg [⟨some 3, none, .mv (.t 0)⟩, 
      ⟨some 4, none, .call 106 [(1, (.t 3))]⟩, 
      ⟨some 5, none, .call 105 [(1, (.t 4))]⟩, 
      ⟨some 2, none, .mv (.t 5)⟩])
  (.ret))
theorem hdigits_spec (a : List Nat) (ha : Wd a) (la : a.length ≤ 100000000000) : AFun Try.prog J0 83 [.l 1 (W a)] (.l 1 (D (dg 65536 (nv B a)))) := by
  have h1 := hDigits_spec a ha la
  have h2 := hcut_spec (fl 65536 (4 * a.length) (nv B a)) (by rw [fl_len]; omega)
  rw [dg_fl H2 (by rw [← B_H]; exact nv_lt ha)] at h2
  refine AFun.mk fol J0s Try.func83 rfl (ac := a83) (by kernel_rfl) rfl rfl ?_
  apply vm_start
  unfold a83
  simp only [init_eq, initE]
  have zc1 := h1
  have zc2 := h2
  repeat first | (refine hK _ ?_; clear hK K) | simp only [Sv, ↓reduceIte, Nat.reduceEqDiff] | ((first | refine vm_reg (fun K hK => ?_) | refine vm_dreg (fun K hK => ?_) | refine clp_q ?_ | refine clq_mk (by assumption) ?_); simp (disch := (first | omega | assumption)) only [S1, ↓reduceIte, Nat.reduceEqDiff, Nat.reduceAdd, Nat.reduceMul, Nat.reduceDiv, AOp.sb, AOp.mut, ↓Bool.false_eq_true, beq_self_eq_true, ite_self, Nat.reduceLeDiff, Int.reduceEq, Int.reduceSub, Int.reduceAdd, Int.reduceNeg, Int.reduceLT, Int.reduceLE, Nat.reduceLT, bz_F1])
  simp (disch := (first | omega | assumption)) only [retOk, retN, ret1, retF, ret1F, V.okArg, and_true, true_and, S1, ↓reduceIte, Nat.reduceEqDiff, Nat.reduceAdd, Nat.reduceMul, Nat.reduceDiv, AOp.sb, AOp.mut, ↓Bool.false_eq_true, beq_self_eq_true, ite_self, Nat.reduceLeDiff, Int.reduceEq, Int.reduceSub, Int.reduceAdd, Int.reduceNeg, Int.reduceLT, Int.reduceLE, Nat.reduceLT, bz_F1]

-- surd/surdref01.digit
def a109 : AC := .seq (.reg [⟨some 4, none, .mv (.k (.i .i64 0))⟩])
  (.seq (.seq (.reg [⟨some 5, none, .mv (.t 1)⟩, 
        ⟨some 6, none, .mv (.t 0)⟩, 
        ⟨some 7, none, .len (.t 6)⟩, 
        ⟨some 8, none, .bin .lss (.t 5) (.t 7)⟩])
    (.cond (.t 8)
    (.seq (.reg [⟨some 9, none, .mv (.t 0)⟩, 
          ⟨some 10, none, .mv (.t 1)⟩, 
          ⟨some 11, none, .idx 1 (.t 9) (.t 10)⟩, 
          ⟨some 12, none, .ld false 1 (.t 11)⟩, 
          ⟨some 4, none, .mv (.t 12)⟩])
      (.ret))
    (.skip)))
  (.seq (.reg [⟨some 4, none, .mv (.k (.i .i64 0))⟩])
  (.ret)))
theorem hdigit_spec (a : List Nat) (i : Nat) : AFun Try.prog J0 109 [.l 1 (D a), .i .i64 i] (.i .i64 ((a.getD i 0 : Nat) : Int)) := by
  refine AFun.mk fol J0s Try.func109 rfl (ac := a109) (by kernel_rfl) rfl rfl ?_
  apply vm_start
  unfold a109
  simp only [init_eq, initE]
  by_cases h : (i : Int) < a.length
  · repeat first
      | (refine hK _ ?_; clear hK K)
      | ((first | refine vm_reg (fun K hK => ?_) | refine vm_dreg (fun K hK => ?_)); simp (disch := (first | omega | assumption)) only [S1, ↓reduceIte, Nat.reduceEqDiff, Nat.reduceAdd, Nat.reduceMul, Nat.reduceDiv, AOp.sb, AOp.mut, ↓Bool.false_eq_true, beq_self_eq_true, ite_self, Nat.reduceLeDiff, Int.reduceEq, Int.reduceSub, Int.reduceAdd, Int.reduceNeg, Int.reduceLT, Int.reduceLE, Nat.reduceLT, bz_F1, h, D_get]; refine hK _ ?_; clear hK K)
      | simp only [Sv, ↓reduceIte, Nat.reduceEqDiff]
    simp (disch := (first | omega | assumption)) only [retOk, retN, ret1, retF, ret1F, V.okArg, and_true, true_and, S1, ↓reduceIte, Nat.reduceEqDiff, Nat.reduceAdd, Nat.reduceMul, Nat.reduceDiv, AOp.sb, AOp.mut, ↓Bool.false_eq_true, beq_self_eq_true, ite_self, Nat.reduceLeDiff, Int.reduceEq, Int.reduceSub, Int.reduceAdd, Int.reduceNeg, Int.reduceLT, Int.reduceLE, Nat.reduceLT, bz_F1]
  · repeat first
      | (refine hK _ ?_; clear hK K)
      | ((first | refine vm_reg (fun K hK => ?_) | refine vm_dreg (fun K hK => ?_)); simp (disch := (first | omega | assumption)) only [S1, ↓reduceIte, Nat.reduceEqDiff, Nat.reduceAdd, Nat.reduceMul, Nat.reduceDiv, AOp.sb, AOp.mut, ↓Bool.false_eq_true, beq_self_eq_true, ite_self, Nat.reduceLeDiff, Int.reduceEq, Int.reduceSub, Int.reduceAdd, Int.reduceNeg, Int.reduceLT, Int.reduceLE, Nat.reduceLT, bz_F1, h]; refine hK _ ?_; clear hK K)
      | simp only [Sv, ↓reduceIte, Nat.reduceEqDiff]
    simp (disch := (first | omega | assumption)) only [retOk, retN, ret1, retF, ret1F, V.okArg, and_true, true_and, S1, ↓reduceIte, Nat.reduceEqDiff, Nat.reduceAdd, Nat.reduceMul, Nat.reduceDiv, AOp.sb, AOp.mut, ↓Bool.false_eq_true, beq_self_eq_true, ite_self, Nat.reduceLeDiff, Int.reduceEq, Int.reduceSub, Int.reduceAdd, Int.reduceNeg, Int.reduceLT, Int.reduceLE, Nat.reduceLT, bz_F1, i_eq]
    rw [List.getD_eq_getElem?_getD, List.getElem?_eq_none (by omega)]; rfl

end Go.Proofs.Ytfkldohgiifgbaa
