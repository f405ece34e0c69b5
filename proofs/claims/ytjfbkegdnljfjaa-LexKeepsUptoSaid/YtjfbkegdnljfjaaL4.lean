/-
  lex: kinds; quiet lines.
-/
import Derived.Test.YtjfbkegdnljfjaaL3
namespace Go.Proofs.Ytjfbkegdnljfjaa
open Go Go.RowKit Ab
set_option linter.unusedSimpArgs false
set_option linter.unusedVariables false
set_option maxHeartbeats 10000000
theorem bz_L4 : type_of% (And.intro @wi (And.intro @tn_nat (And.intro @tn0 (And.intro @Nat.div_one (@Nat.mul_one))))) := And.intro @wi (And.intro @tn_nat (And.intro @tn0 (And.intro @Nat.div_one (@Nat.mul_one))))
theorem s_nil (s : List UInt8) : (s == []) = decide (s = []) := by cases s <;> simp
theorem u8_48 (c : UInt8) : (((c.toNat : Nat) : Int) = 48) = (c.toNat = 48) := by simp only [eq_iff_iff]; omega
def a22 : AC := .seq (.reg [⟨some 2, none, .mv (.k (.i .i64 0))⟩])
 (.seq (.seq (.reg [⟨some 7, none, .mv (.t 0)⟩,
 ⟨some 8, none, .bin .eql (.t 7) (.k (.s []))⟩,
 ⟨some 9, none, .mv (.t 8)⟩,
 ⟨some 10, some (9, false), .mv (.t 0)⟩,
 ⟨some 11, some (9, false), .call 21 [(1, (.t 10))]⟩,
 ⟨some 12, some (9, false), .mv (.t 0)⟩,
 ⟨some 13, some (9, false), .slen (.t 12)⟩,
 ⟨some 14, some (9, false), .bin .neq (.t 11) (.t 13)⟩,
 ⟨some 15, none, .pick (.t 9) (.k (.b true)) (.t 14)⟩])
 (.cond (.t 15)
 (.seq (.reg [⟨some 2, none, .mv (.k (.i .i64 0))⟩])
 (.ret))
 (.skip)))
 (.seq (.blk 0
 (.seq (.reg [⟨some 17, none, .mv (.t 0)⟩,
 ⟨some 18, none, .six (.t 17) (.k (.i .i64 0))⟩,
 ⟨some 19, none, .call 36 [(1, (.t 18))]⟩,
 ⟨some 16, none, .mv (.t 19)⟩])
 (.cond (.t 16)
 (.seq (.seq (.reg [⟨some 20, none, .mv (.t 0)⟩,
 ⟨some 21, none, .six (.t 20) (.k (.i .i64 0))⟩,
 ⟨some 22, none, .bin .eql (.t 21) (.k (.i .u8 48))⟩,
 ⟨some 23, none, .mv (.t 22)⟩,
 ⟨some 24, some (23, true), .mv (.t 0)⟩,
 ⟨some 25, some (23, true), .slen (.t 24)⟩,
 ⟨some 26, some (23, true), .bin .gtr (.t 25) (.k (.i .i64 1))⟩,
 ⟨some 27, none, .pick (.t 23) (.t 26) (.k (.b false))⟩])
 (.cond (.t 27)
 (.seq (.reg [⟨some 2, none, .mv (.k (.i .i64 0))⟩])
 (.ret))
 (.skip)))
 (.seq (.reg [⟨some 2, none, .mv (.k (.i .i64 1))⟩])
 (.ret)))
 (.seq (.reg [⟨some 29, none, .mv (.t 0)⟩,
 ⟨some 30, none, .six (.t 29) (.k (.i .i64 0))⟩,
 ⟨some 31, none, .call 37 [(1, (.t 30))]⟩,
 ⟨some 32, none, .un .not (.t 31)⟩,
 ⟨some 28, none, .mv (.t 32)⟩])
 (.cond (.t 28)
 (.seq (.reg [⟨some 2, none, .mv (.k (.i .i64 5))⟩])
 (.ret))
 (.skip))))))
 (.seq (.reg [⟨some 3, none, .mv (.k (.i .i64 0))⟩,
 ⟨some 4, none, .mv (.k (.i .i64 0))⟩])
 (.seq (.seq (.reg [⟨some 33, none, .mv (.t 0)⟩,
 ⟨some 34, none, .pur (.s2b 5) [(.t 33)]⟩,
 ⟨some 35, none, .len (.t 34)⟩,
 ⟨some 36, none, .mv (.k (.i .i64 0))⟩])
 (.blk 1
 (.loop
 (.seq (.reg [⟨some 37, none, .bin .lss (.t 36) (.t 35)⟩])
 (.seq (.cond (.t 37)
 (.skip)
 (.exit 1))
 (.seq (.blk 2
 (.seq (.reg [⟨some 38, none, .idx 1 (.t 34) (.t 36)⟩,
 ⟨some 39, none, .ld false 1 (.t 38)⟩,
 ⟨some 6, none, .mv (.t 39)⟩])
 (.blk 3
 (.seq (.reg [⟨some 41, none, .mv (.t 6)⟩,
 ⟨some 42, none, .call 39 [(1, (.t 41))]⟩,
 ⟨some 40, none, .mv (.t 42)⟩])
 (.cond (.t 40)
 (.reg [⟨some 43, none, .mv (.t 3)⟩,
 ⟨some 44, none, .bin .add (.t 43) (.k (.i .i64 1))⟩,
 ⟨some 3, none, .mv (.t 44)⟩])
 (.seq (.reg [⟨some 46, none, .mv (.t 6)⟩,
 ⟨some 47, none, .call 40 [(1, (.t 46))]⟩,
 ⟨some 45, none, .mv (.t 47)⟩])
 (.cond (.t 45)
 (.reg [⟨some 48, none, .mv (.t 4)⟩,
 ⟨some 49, none, .bin .add (.t 48) (.k (.i .i64 1))⟩,
 ⟨some 4, none, .mv (.t 49)⟩])
 (.skip))))))))
 (.reg [⟨some 50, none, .bin .add (.t 36) (.k (.i .i64 1))⟩,
 ⟨some 36, none, .mv (.t 50)⟩])))))))
 (.seq (.blk 4
 (.seq (.reg [⟨some 52, none, .mv (.t 4)⟩,
 ⟨some 53, none, .bin .eql (.t 52) (.k (.i .i64 0))⟩,
 ⟨some 51, none, .mv (.t 53)⟩])
 (.cond (.t 51)
 (.seq (.reg [⟨some 2, none, .mv (.k (.i .i64 2))⟩])
 (.ret))
 (.seq (.reg [⟨some 55, none, .mv (.t 4)⟩,
 ⟨some 56, none, .mv (.t 0)⟩,
 ⟨some 57, none, .slen (.t 56)⟩,
 ⟨some 58, none, .bin .eql (.t 55) (.t 57)⟩,
 ⟨some 54, none, .mv (.t 58)⟩])
 (.cond (.t 54)
 (.seq (.reg [⟨some 2, none, .mv (.k (.i .i64 3))⟩])
 (.ret))
 (.skip))))))
 (.seq (.reg [⟨some 2, none, .mv (.k (.i .i64 4))⟩])
 (.ret)))))))
theorem kind_spec (s : List UInt8) (hm : s.length ≤ 9223372036854775807) : AFun Try.prog J0 22 [.s s] (.i .i64 (kind s : Nat)) := by
  refine AFun.mk fol J0s Try.func22 rfl (ac := a22) (by kernel_rfl) rfl rfl rfl ?_
  apply vm_start
  unfold a22
  simp only [init_eq, initE]
  by_cases h0 : s = []
  · subst h0
    repeat first | (refine hK _ ?_; clear hK K) | simp only [Sv, ↓reduceIte, Nat.reduceEqDiff] | ((first | refine vm_reg (fun K hK => ?_) | refine vm_dreg (fun K hK => ?_) | refine vm_dregx (fun K hK => ?_)); simp (disch := (first | omega | assumption)) only [S1, ↓reduceIte, Nat.reduceEqDiff, Nat.reduceAdd, Nat.reduceMul, Nat.reduceDiv, AOp.sb, AOp.mut, frzf, ↓Bool.false_eq_true, beq_self_eq_true, ite_self, Nat.reduceLeDiff, Int.reduceEq, Int.reduceSub, Int.reduceAdd, Int.reduceNeg, Int.reduceLT, Int.reduceLE, Nat.reduceLT, bz_L4, i_eq])
    simp (disch := (first | omega | assumption)) only [retOk, retN, ret1, retF, ret1F, V.okArg, and_true, true_and, S1, ↓reduceIte, Nat.reduceEqDiff, Nat.reduceAdd, Nat.reduceMul, Nat.reduceDiv, AOp.sb, AOp.mut, frzf, ↓Bool.false_eq_true, beq_self_eq_true, ite_self, Nat.reduceLeDiff, Int.reduceEq, Int.reduceSub, Int.reduceAdd, Int.reduceNeg, Int.reduceLT, Int.reduceLE, Nat.reduceLT, bz_L4, i_eq]
    rfl
  · have hp : 0 < s.length := List.length_pos_iff.2 h0
    have hp' : ¬ (s.length : Int) = 0 := by omega
    by_cases h1 : ((rowLen s : Nat) : Int) = (s.length : Int)
    · have hr1 : ¬ (s = [] ∨ rowLen s ≠ s.length) := by rintro (h | h); exact h0 h; exact h (by omega)
      cases hd : isDig (s.getD 0 0)
      · cases hl : isLet (s.getD 0 0)
        · have hk : kind s = 5 := by unfold kind; rw [if_neg hr1, hd, hl]; rfl
          have zc1 := length_spec s hp hm
          have zc2 := isDigit_spec (s.getD 0 0)
          have zc3 := isLetter_spec (s.getD 0 0)
          repeat first | (refine hK _ ?_; clear hK K) | simp only [Sv, ↓reduceIte, Nat.reduceEqDiff] | ((first | refine vm_reg (fun K hK => ?_) | refine vm_dreg (fun K hK => ?_) | refine vm_dregx (fun K hK => ?_) | refine clp_q ?_ | refine clq_mk (by assumption) ?_ | refine mcq_q ?_ | (apply mcr_mk; assumption) | (apply ocr_mk; assumption)); simp (disch := (first | omega | assumption)) only [S1, ↓reduceIte, Nat.reduceEqDiff, Nat.reduceAdd, Nat.reduceMul, Nat.reduceDiv, AOp.sb, AOp.mut, frzf, ↓Bool.false_eq_true, beq_self_eq_true, ite_self, Nat.reduceLeDiff, Int.reduceEq, Int.reduceSub, Int.reduceAdd, Int.reduceNeg, Int.reduceLT, Int.reduceLE, Nat.reduceLT, bz_L4, s_nil, h0, h1, hd, hl, i_eq, hk])
          simp (disch := (first | omega | assumption)) only [retOk, retN, ret1, retF, ret1F, V.okArg, and_true, true_and, S1, ↓reduceIte, Nat.reduceEqDiff, Nat.reduceAdd, Nat.reduceMul, Nat.reduceDiv, AOp.sb, AOp.mut, frzf, ↓Bool.false_eq_true, beq_self_eq_true, ite_self, Nat.reduceLeDiff, Int.reduceEq, Int.reduceSub, Int.reduceAdd, Int.reduceNeg, Int.reduceLT, Int.reduceLE, Nat.reduceLT, bz_L4, s_nil, h0, h1, hd, hl, i_eq, hk]
        · have hk : kind s = if cnt isCap s = 0 then 2 else if cnt isCap s = s.length then 3 else 4 := by unfold kind; rw [if_neg hr1, hd, hl]; rfl
          have zc4 := length_spec s hp hm
          have zc5 := isDigit_spec (s.getD 0 0)
          have zc6 := isLetter_spec (s.getD 0 0)
          repeat first | (refine hK _ ?_; clear hK K) | simp only [Sv, ↓reduceIte, Nat.reduceEqDiff] | ((first | refine vm_reg (fun K hK => ?_) | refine vm_dreg (fun K hK => ?_) | refine vm_dregx (fun K hK => ?_) | refine clp_q ?_ | refine clq_mk (by assumption) ?_ | refine mcq_q ?_ | (apply mcr_mk; assumption) | (apply ocr_mk; assumption)); simp (disch := (first | omega | assumption)) only [S1, ↓reduceIte, Nat.reduceEqDiff, Nat.reduceAdd, Nat.reduceMul, Nat.reduceDiv, AOp.sb, AOp.mut, frzf, ↓Bool.false_eq_true, beq_self_eq_true, ite_self, Nat.reduceLeDiff, Int.reduceEq, Int.reduceSub, Int.reduceAdd, Int.reduceNeg, Int.reduceLT, Int.reduceLE, Nat.reduceLT, bz_L4, s_nil, h0, h1, hd, hl])
          refine vm_loop Nat (fun i => ⟨[(0, .s s), (34, .l 1 (Bt s)), (35, .i .i64 (s.length : Int)), (36, .i .i64 (i : Int)), (3, .i .i64 (cnt isSm (s.take i) : Nat)), (4, .i .i64 (cnt isCap (s.take i) : Nat))], [], 0⟩) (fun i => i ≤ s.length) (fun i => s.length - i) 0 [] (Nat.zero_le _) (by
            simp (disch := (first | omega | assumption)) only [Sl, Sa, Sw, ↓reduceIte, Nat.reduceEqDiff, Nat.reduceLT, List.all_nil, List.all_cons, Nat.reduceBneDiff, Nat.reduceAdd, bne_iff_ne, ne_eq, reduceCtorEq, not_false_eq_true, not_true_eq_false, Bool.and_true, Bool.true_and, and_true, true_and, and_self, i_eq]
            exact ⟨rfl, rfl, rfl⟩) ?_
          intro i hi Q' hQ he hr
          have b1 := cnt_take_le isSm s i
          have b2 := cnt_take_le isCap s i
          by_cases hlt : (i : Int) < s.length
          · have hlt' : i < s.length := by omega
            cases hx : isSm (s.getD i 0)
            · cases hy : isCap (s.getD i 0)
              · have zc7 := isSmall_spec (s.getD i 0)
                have zc8 := isCapital_spec (s.getD i 0)
                repeat first | (refine hK _ ?_; clear hK K) | simp only [Sv, ↓reduceIte, Nat.reduceEqDiff] | ((first | refine vm_reg (fun K hK => ?_) | refine vm_dreg (fun K hK => ?_) | refine vm_dregx (fun K hK => ?_) | refine clp_q ?_ | refine clq_mk (by assumption) ?_ | refine mcq_q ?_ | (apply mcr_mk; assumption) | (apply ocr_mk; assumption)); simp (disch := (first | omega | assumption)) only [S1, ↓reduceIte, Nat.reduceEqDiff, Nat.reduceAdd, Nat.reduceMul, Nat.reduceDiv, AOp.sb, AOp.mut, frzf, ↓Bool.false_eq_true, beq_self_eq_true, ite_self, Nat.reduceLeDiff, Int.reduceEq, Int.reduceSub, Int.reduceAdd, Int.reduceNeg, Int.reduceLT, Int.reduceLE, Nat.reduceLT, bz_L4, hlt, hx, Bt_get, hy])
                refine hQ _ (i + 1) [] (by omega) (by omega) ?_
                simp (disch := (first | omega | assumption)) only [Sl, Sa, Sw, ↓reduceIte, Nat.reduceEqDiff, Nat.reduceLT, List.all_nil, List.all_cons, Nat.reduceBneDiff, Nat.reduceAdd, bne_iff_ne, ne_eq, reduceCtorEq, not_false_eq_true, not_true_eq_false, Bool.and_true, Bool.true_and, and_true, true_and, and_self, i_eq, cnt_take_f hlt' hx, cnt_take_f hlt' hy]
                omega
              · have zc9 := isSmall_spec (s.getD i 0)
                have zc10 := isCapital_spec (s.getD i 0)
                repeat first | (refine hK _ ?_; clear hK K) | simp only [Sv, ↓reduceIte, Nat.reduceEqDiff] | ((first | refine vm_reg (fun K hK => ?_) | refine vm_dreg (fun K hK => ?_) | refine vm_dregx (fun K hK => ?_) | refine clp_q ?_ | refine clq_mk (by assumption) ?_ | refine mcq_q ?_ | (apply mcr_mk; assumption) | (apply ocr_mk; assumption)); simp (disch := (first | omega | assumption)) only [S1, ↓reduceIte, Nat.reduceEqDiff, Nat.reduceAdd, Nat.reduceMul, Nat.reduceDiv, AOp.sb, AOp.mut, frzf, ↓Bool.false_eq_true, beq_self_eq_true, ite_self, Nat.reduceLeDiff, Int.reduceEq, Int.reduceSub, Int.reduceAdd, Int.reduceNeg, Int.reduceLT, Int.reduceLE, Nat.reduceLT, bz_L4, hlt, hx, Bt_get, hy])
                refine hQ _ (i + 1) [] (by omega) (by omega) ?_
                simp (disch := (first | omega | assumption)) only [Sl, Sa, Sw, ↓reduceIte, Nat.reduceEqDiff, Nat.reduceLT, List.all_nil, List.all_cons, Nat.reduceBneDiff, Nat.reduceAdd, bne_iff_ne, ne_eq, reduceCtorEq, not_false_eq_true, not_true_eq_false, Bool.and_true, Bool.true_and, and_true, true_and, and_self, i_eq, cnt_take_f hlt' hx, cnt_take_t hlt' hy]
                omega
            · have zc11 := isSmall_spec (s.getD i 0)
              repeat first | (refine hK _ ?_; clear hK K) | simp only [Sv, ↓reduceIte, Nat.reduceEqDiff] | ((first | refine vm_reg (fun K hK => ?_) | refine vm_dreg (fun K hK => ?_) | refine vm_dregx (fun K hK => ?_) | refine clp_q ?_ | refine clq_mk (by assumption) ?_ | refine mcq_q ?_ | (apply mcr_mk; assumption) | (apply ocr_mk; assumption)); simp (disch := (first | omega | assumption)) only [S1, ↓reduceIte, Nat.reduceEqDiff, Nat.reduceAdd, Nat.reduceMul, Nat.reduceDiv, AOp.sb, AOp.mut, frzf, ↓Bool.false_eq_true, beq_self_eq_true, ite_self, Nat.reduceLeDiff, Int.reduceEq, Int.reduceSub, Int.reduceAdd, Int.reduceNeg, Int.reduceLT, Int.reduceLE, Nat.reduceLT, bz_L4, hlt, hx, Bt_get])
              refine hQ _ (i + 1) [] (by omega) (by omega) ?_
              simp (disch := (first | omega | assumption)) only [Sl, Sa, Sw, ↓reduceIte, Nat.reduceEqDiff, Nat.reduceLT, List.all_nil, List.all_cons, Nat.reduceBneDiff, Nat.reduceAdd, bne_iff_ne, ne_eq, reduceCtorEq, not_false_eq_true, not_true_eq_false, Bool.and_true, Bool.true_and, and_true, true_and, and_self, i_eq, cnt_take_t hlt' hx, cnt_take_f hlt' (sm_cap hx)]
              omega
          · obtain rfl : i = s.length := by omega
            have hk' := hk
            repeat first
              | (refine hK _ ?_; clear hK K)
              | ((first | refine vm_reg (fun K hK => ?_) | refine vm_dreg (fun K hK => ?_) | refine vm_dregx (fun K hK => ?_)); simp (disch := (first | omega | assumption)) only [S1, ↓reduceIte, Nat.reduceEqDiff, Nat.reduceAdd, Nat.reduceMul, Nat.reduceDiv, AOp.sb, AOp.mut, frzf, ↓Bool.false_eq_true, beq_self_eq_true, ite_self, Nat.reduceLeDiff, Int.reduceEq, Int.reduceSub, Int.reduceAdd, Int.reduceNeg, Int.reduceLT, Int.reduceLE, Nat.reduceLT, bz_L4, hlt]; refine hK _ ?_; clear hK K)
              | simp only [Sv, ↓reduceIte, Nat.reduceEqDiff]
            refine he _ _ ?_
            rw [List.take_length]
            by_cases c0' : ((cnt isCap s : Nat) : Int) = 0
            · rw [if_pos (by omega)] at hk
              repeat first
                | (refine hK _ ?_; clear hK K)
                | ((first | refine vm_reg (fun K hK => ?_) | refine vm_dreg (fun K hK => ?_) | refine vm_dregx (fun K hK => ?_)); simp (disch := (first | omega | assumption)) only [S1, ↓reduceIte, Nat.reduceEqDiff, Nat.reduceAdd, Nat.reduceMul, Nat.reduceDiv, AOp.sb, AOp.mut, frzf, ↓Bool.false_eq_true, beq_self_eq_true, ite_self, Nat.reduceLeDiff, Int.reduceEq, Int.reduceSub, Int.reduceAdd, Int.reduceNeg, Int.reduceLT, Int.reduceLE, Nat.reduceLT, bz_L4, c0']; refine hK _ ?_; clear hK K)
                | simp only [Sv, ↓reduceIte, Nat.reduceEqDiff]
              simp (disch := (first | omega | assumption)) only [retOk, retN, ret1, retF, ret1F, V.okArg, and_true, true_and, S1, ↓reduceIte, Nat.reduceEqDiff, Nat.reduceAdd, Nat.reduceMul, Nat.reduceDiv, AOp.sb, AOp.mut, frzf, ↓Bool.false_eq_true, beq_self_eq_true, ite_self, Nat.reduceLeDiff, Int.reduceEq, Int.reduceSub, Int.reduceAdd, Int.reduceNeg, Int.reduceLT, Int.reduceLE, Nat.reduceLT, bz_L4, i_eq, hk]
            · rw [if_neg (by omega)] at hk
              by_cases c1' : ((cnt isCap s : Nat) : Int) = (s.length : Int)
              · rw [if_pos (by omega)] at hk
                repeat first
                  | (refine hK _ ?_; clear hK K)
                  | ((first | refine vm_reg (fun K hK => ?_) | refine vm_dreg (fun K hK => ?_) | refine vm_dregx (fun K hK => ?_)); simp (disch := (first | omega | assumption)) only [S1, ↓reduceIte, Nat.reduceEqDiff, Nat.reduceAdd, Nat.reduceMul, Nat.reduceDiv, AOp.sb, AOp.mut, frzf, ↓Bool.false_eq_true, beq_self_eq_true, ite_self, Nat.reduceLeDiff, Int.reduceEq, Int.reduceSub, Int.reduceAdd, Int.reduceNeg, Int.reduceLT, Int.reduceLE, Nat.reduceLT, bz_L4, c0', c1', hp']; refine hK _ ?_; clear hK K)
                  | simp only [Sv, ↓reduceIte, Nat.reduceEqDiff]
                simp (disch := (first | omega | assumption)) only [retOk, retN, ret1, retF, ret1F, V.okArg, and_true, true_and, S1, ↓reduceIte, Nat.reduceEqDiff, Nat.reduceAdd, Nat.reduceMul, Nat.reduceDiv, AOp.sb, AOp.mut, frzf, ↓Bool.false_eq_true, beq_self_eq_true, ite_self, Nat.reduceLeDiff, Int.reduceEq, Int.reduceSub, Int.reduceAdd, Int.reduceNeg, Int.reduceLT, Int.reduceLE, Nat.reduceLT, bz_L4, i_eq, hk]
              · rw [if_neg (by omega)] at hk
                repeat first
                  | (refine hK _ ?_; clear hK K)
                  | ((first | refine vm_reg (fun K hK => ?_) | refine vm_dreg (fun K hK => ?_) | refine vm_dregx (fun K hK => ?_)); simp (disch := (first | omega | assumption)) only [S1, ↓reduceIte, Nat.reduceEqDiff, Nat.reduceAdd, Nat.reduceMul, Nat.reduceDiv, AOp.sb, AOp.mut, frzf, ↓Bool.false_eq_true, beq_self_eq_true, ite_self, Nat.reduceLeDiff, Int.reduceEq, Int.reduceSub, Int.reduceAdd, Int.reduceNeg, Int.reduceLT, Int.reduceLE, Nat.reduceLT, bz_L4, c0', c1', hp']; refine hK _ ?_; clear hK K)
                  | simp only [Sv, ↓reduceIte, Nat.reduceEqDiff]
                simp (disch := (first | omega | assumption)) only [retOk, retN, ret1, retF, ret1F, V.okArg, and_true, true_and, S1, ↓reduceIte, Nat.reduceEqDiff, Nat.reduceAdd, Nat.reduceMul, Nat.reduceDiv, AOp.sb, AOp.mut, frzf, ↓Bool.false_eq_true, beq_self_eq_true, ite_self, Nat.reduceLeDiff, Int.reduceEq, Int.reduceSub, Int.reduceAdd, Int.reduceNeg, Int.reduceLT, Int.reduceLE, Nat.reduceLT, bz_L4, i_eq, hk]
      · have hk : kind s = if (s.getD 0 0).toNat = 48 ∧ 1 < s.length then 0 else 1 := by unfold kind; rw [if_neg hr1, hd]; rfl
        by_cases g1 : (s.getD 0 0).toNat = 48
        · have dd : AFun Try.prog J0 36 [.i .u8 48] (.b true) := by
            have h9 := isDigit_spec (s.getD 0 0)
            rw [g1, hd] at h9
            exact h9
          by_cases g2 : 1 < (s.length : Int)
          · rw [if_pos ⟨g1, by omega⟩] at hk
            have zc12 := length_spec s hp hm
            have zc13 := dd
            repeat first | (refine hK _ ?_; clear hK K) | simp only [Sv, ↓reduceIte, Nat.reduceEqDiff] | ((first | refine vm_reg (fun K hK => ?_) | refine vm_dreg (fun K hK => ?_) | refine vm_dregx (fun K hK => ?_) | refine clp_q ?_ | refine clq_mk (by assumption) ?_ | refine mcq_q ?_ | (apply mcr_mk; assumption) | (apply ocr_mk; assumption)); simp (disch := (first | omega | assumption)) only [S1, ↓reduceIte, Nat.reduceEqDiff, Nat.reduceAdd, Nat.reduceMul, Nat.reduceDiv, AOp.sb, AOp.mut, frzf, ↓Bool.false_eq_true, beq_self_eq_true, ite_self, Nat.reduceLeDiff, Int.reduceEq, Int.reduceSub, Int.reduceAdd, Int.reduceNeg, Int.reduceLT, Int.reduceLE, Nat.reduceLT, bz_L4, s_nil, h0, h1, i_eq, u8_48, g1, g2, hk])
            simp (disch := (first | omega | assumption)) only [retOk, retN, ret1, retF, ret1F, V.okArg, and_true, true_and, S1, ↓reduceIte, Nat.reduceEqDiff, Nat.reduceAdd, Nat.reduceMul, Nat.reduceDiv, AOp.sb, AOp.mut, frzf, ↓Bool.false_eq_true, beq_self_eq_true, ite_self, Nat.reduceLeDiff, Int.reduceEq, Int.reduceSub, Int.reduceAdd, Int.reduceNeg, Int.reduceLT, Int.reduceLE, Nat.reduceLT, bz_L4, s_nil, h0, h1, i_eq, u8_48, g1, g2, hk]
          · rw [if_neg (by omega)] at hk
            have zc14 := length_spec s hp hm
            have zc15 := dd
            repeat first | (refine hK _ ?_; clear hK K) | simp only [Sv, ↓reduceIte, Nat.reduceEqDiff] | ((first | refine vm_reg (fun K hK => ?_) | refine vm_dreg (fun K hK => ?_) | refine vm_dregx (fun K hK => ?_) | refine clp_q ?_ | refine clq_mk (by assumption) ?_ | refine mcq_q ?_ | (apply mcr_mk; assumption) | (apply ocr_mk; assumption)); simp (disch := (first | omega | assumption)) only [S1, ↓reduceIte, Nat.reduceEqDiff, Nat.reduceAdd, Nat.reduceMul, Nat.reduceDiv, AOp.sb, AOp.mut, frzf, ↓Bool.false_eq_true, beq_self_eq_true, ite_self, Nat.reduceLeDiff, Int.reduceEq, Int.reduceSub, Int.reduceAdd, Int.reduceNeg, Int.reduceLT, Int.reduceLE, Nat.reduceLT, bz_L4, s_nil, h0, h1, i_eq, u8_48, g1, g2, hk])
            simp (disch := (first | omega | assumption)) only [retOk, retN, ret1, retF, ret1F, V.okArg, and_true, true_and, S1, ↓reduceIte, Nat.reduceEqDiff, Nat.reduceAdd, Nat.reduceMul, Nat.reduceDiv, AOp.sb, AOp.mut, frzf, ↓Bool.false_eq_true, beq_self_eq_true, ite_self, Nat.reduceLeDiff, Int.reduceEq, Int.reduceSub, Int.reduceAdd, Int.reduceNeg, Int.reduceLT, Int.reduceLE, Nat.reduceLT, bz_L4, s_nil, h0, h1, i_eq, u8_48, g1, g2, hk]
        · rw [if_neg (by omega)] at hk
          have zc16 := length_spec s hp hm
          have zc17 := isDigit_spec (s.getD 0 0)
          repeat first | (refine hK _ ?_; clear hK K) | simp only [Sv, ↓reduceIte, Nat.reduceEqDiff] | ((first | refine vm_reg (fun K hK => ?_) | refine vm_dreg (fun K hK => ?_) | refine vm_dregx (fun K hK => ?_) | refine clp_q ?_ | refine clq_mk (by assumption) ?_ | refine mcq_q ?_ | (apply mcr_mk; assumption) | (apply ocr_mk; assumption)); simp (disch := (first | omega | assumption)) only [S1, ↓reduceIte, Nat.reduceEqDiff, Nat.reduceAdd, Nat.reduceMul, Nat.reduceDiv, AOp.sb, AOp.mut, frzf, ↓Bool.false_eq_true, beq_self_eq_true, ite_self, Nat.reduceLeDiff, Int.reduceEq, Int.reduceSub, Int.reduceAdd, Int.reduceNeg, Int.reduceLT, Int.reduceLE, Nat.reduceLT, bz_L4, s_nil, h0, h1, hd, i_eq, u8_48, g1, hk])
          simp (disch := (first | omega | assumption)) only [retOk, retN, ret1, retF, ret1F, V.okArg, and_true, true_and, S1, ↓reduceIte, Nat.reduceEqDiff, Nat.reduceAdd, Nat.reduceMul, Nat.reduceDiv, AOp.sb, AOp.mut, frzf, ↓Bool.false_eq_true, beq_self_eq_true, ite_self, Nat.reduceLeDiff, Int.reduceEq, Int.reduceSub, Int.reduceAdd, Int.reduceNeg, Int.reduceLT, Int.reduceLE, Nat.reduceLT, bz_L4, s_nil, h0, h1, hd, i_eq, u8_48, g1, hk]
    · have hk : kind s = 0 := by unfold kind; rw [if_pos (.inr (by omega))]
      have zc18 := length_spec s hp hm
      repeat first | (refine hK _ ?_; clear hK K) | simp only [Sv, ↓reduceIte, Nat.reduceEqDiff] | ((first | refine vm_reg (fun K hK => ?_) | refine vm_dreg (fun K hK => ?_) | refine vm_dregx (fun K hK => ?_) | refine clp_q ?_ | refine clq_mk (by assumption) ?_ | refine mcq_q ?_ | (apply mcr_mk; assumption) | (apply ocr_mk; assumption)); simp (disch := (first | omega | assumption)) only [S1, ↓reduceIte, Nat.reduceEqDiff, Nat.reduceAdd, Nat.reduceMul, Nat.reduceDiv, AOp.sb, AOp.mut, frzf, ↓Bool.false_eq_true, beq_self_eq_true, ite_self, Nat.reduceLeDiff, Int.reduceEq, Int.reduceSub, Int.reduceAdd, Int.reduceNeg, Int.reduceLT, Int.reduceLE, Nat.reduceLT, bz_L4, s_nil, h0, h1, i_eq, hk])
      simp (disch := (first | omega | assumption)) only [retOk, retN, ret1, retF, ret1F, V.okArg, and_true, true_and, S1, ↓reduceIte, Nat.reduceEqDiff, Nat.reduceAdd, Nat.reduceMul, Nat.reduceDiv, AOp.sb, AOp.mut, frzf, ↓Bool.false_eq_true, beq_self_eq_true, ite_self, Nat.reduceLeDiff, Int.reduceEq, Int.reduceSub, Int.reduceAdd, Int.reduceNeg, Int.reduceLT, Int.reduceLE, Nat.reduceLT, bz_L4, s_nil, h0, h1, i_eq, hk]
theorem all_take {p : UInt8 → Bool} {s : List UInt8} {i : Nat} (hi : i < s.length) (h : (s.take i).all p = true) (h2 : p (s.getD i 0) = true) : (s.take (i + 1)).all p = true := by
  rw [List.getD_eq_getElem?_getD, List.getElem?_eq_getElem hi] at h2
  rw [List.take_succ_eq_append_getElem hi, List.all_append, h]
  simpa using h2
theorem all_not {p : UInt8 → Bool} {s : List UInt8} {i : Nat} (hi : i < s.length) (h2 : p (s.getD i 0) = false) : s.all p = false := by
  rw [List.getD_eq_getElem?_getD, List.getElem?_eq_getElem hi] at h2
  simp only [Option.getD_some] at h2
  rw [List.all_eq_false]
  exact ⟨s[i], List.getElem_mem _, by simp [h2]⟩
def a17 : AC := .seq (.reg [⟨some 2, none, .mv (.k (.i .i64 0))⟩])
 (.seq (.seq (.reg [⟨some 7, none, .mv (.t 0)⟩,
 ⟨some 8, none, .slen (.t 7)⟩,
 ⟨some 9, none, .bin .eql (.t 8) (.k (.i .i64 0))⟩])
 (.cond (.t 9)
 (.seq (.reg [⟨some 2, none, .mv (.k (.i .i64 0))⟩])
 (.ret))
 (.skip)))
 (.seq (.seq (.reg [⟨some 10, none, .mv (.t 0)⟩,
 ⟨some 11, none, .slen (.t 10)⟩,
 ⟨some 12, none, .bin .eql (.t 11) (.k (.i .i64 1))⟩,
 ⟨some 13, none, .mv (.t 12)⟩,
 ⟨some 14, some (13, true), .mv (.t 0)⟩,
 ⟨some 15, some (13, true), .six (.t 14) (.k (.i .i64 0))⟩,
 ⟨some 16, some (13, true), .call 35 [(1, (.t 15))]⟩,
 ⟨some 17, none, .pick (.t 13) (.t 16) (.k (.b false))⟩])
 (.cond (.t 17)
 (.seq (.reg [⟨some 2, none, .mv (.k (.i .i64 5))⟩])
 (.ret))
 (.skip)))
 (.seq (.reg [⟨some 3, none, .mv (.k (.i .i64 0))⟩,
 ⟨some 4, none, .mv (.k (.i .i64 0))⟩,
 ⟨some 5, none, .mv (.k (.i .i64 0))⟩])
 (.seq (.seq (.reg [⟨some 6, none, .mv (.k (.i .i64 0))⟩])
 (.blk 0
 (.loop
 (.seq (.seq (.reg [⟨some 18, none, .mv (.t 6)⟩,
 ⟨some 19, none, .mv (.t 0)⟩,
 ⟨some 20, none, .slen (.t 19)⟩,
 ⟨some 21, none, .bin .lss (.t 18) (.t 20)⟩])
 (.cond (.t 21)
 (.skip)
 (.exit 0)))
 (.seq (.blk 1
 (.blk 2
 (.seq (.reg [⟨some 25, none, .mv (.t 0)⟩,
 ⟨some 26, none, .mv (.t 6)⟩,
 ⟨some 27, none, .six (.t 25) (.t 26)⟩,
 ⟨some 28, none, .call 32 [(1, (.t 27))]⟩,
 ⟨some 24, none, .mv (.t 28)⟩])
 (.cond (.t 24)
 (.reg [⟨some 29, none, .mv (.t 3)⟩,
 ⟨some 30, none, .bin .add (.t 29) (.k (.i .i64 1))⟩,
 ⟨some 3, none, .mv (.t 30)⟩])
 (.seq (.reg [⟨some 32, none, .mv (.t 0)⟩,
 ⟨some 33, none, .mv (.t 6)⟩,
 ⟨some 34, none, .six (.t 32) (.t 33)⟩,
 ⟨some 35, none, .call 33 [(1, (.t 34))]⟩,
 ⟨some 31, none, .mv (.t 35)⟩])
 (.cond (.t 31)
 (.reg [⟨some 36, none, .mv (.t 4)⟩,
 ⟨some 37, none, .bin .add (.t 36) (.k (.i .i64 1))⟩,
 ⟨some 4, none, .mv (.t 37)⟩])
 (.seq (.reg [⟨some 39, none, .mv (.t 0)⟩,
 ⟨some 40, none, .mv (.t 6)⟩,
 ⟨some 41, none, .six (.t 39) (.t 40)⟩,
 ⟨some 42, none, .call 34 [(1, (.t 41))]⟩,
 ⟨some 38, none, .mv (.t 42)⟩])
 (.cond (.t 38)
 (.reg [⟨some 43, none, .mv (.t 5)⟩,
 ⟨some 44, none, .bin .add (.t 43) (.k (.i .i64 1))⟩,
 ⟨some 5, none, .mv (.t 44)⟩])
 (.seq (.reg [⟨some 2, none, .mv (.k (.i .i64 0))⟩])
 (.ret))))))))))
 (.reg [⟨some 22, none, .mv (.t 6)⟩,
 ⟨some 23, none, .bin .add (.t 22) (.k (.i .i64 1))⟩,
 ⟨some 6, none, .mv (.t 23)⟩]))))))
 (.seq (.blk 3
 (.seq (.reg [⟨some 46, none, .mv (.t 3)⟩,
 ⟨some 47, none, .mv (.t 0)⟩,
 ⟨some 48, none, .slen (.t 47)⟩,
 ⟨some 49, none, .bin .eql (.t 46) (.t 48)⟩,
 ⟨some 45, none, .mv (.t 49)⟩])
 (.cond (.t 45)
 (.seq (.seq (.reg [⟨some 50, none, .mv (.t 0)⟩,
 ⟨some 51, none, .six (.t 50) (.k (.i .i64 0))⟩,
 ⟨some 52, none, .bin .eql (.t 51) (.k (.i .u8 48))⟩,
 ⟨some 53, none, .mv (.t 52)⟩,
 ⟨some 54, some (53, true), .mv (.t 0)⟩,
 ⟨some 55, some (53, true), .slen (.t 54)⟩,
 ⟨some 56, some (53, true), .bin .gtr (.t 55) (.k (.i .i64 1))⟩,
 ⟨some 57, none, .pick (.t 53) (.t 56) (.k (.b false))⟩])
 (.cond (.t 57)
 (.seq (.reg [⟨some 2, none, .mv (.k (.i .i64 0))⟩])
 (.ret))
 (.skip)))
 (.seq (.reg [⟨some 2, none, .mv (.k (.i .i64 1))⟩])
 (.ret)))
 (.seq (.reg [⟨some 59, none, .mv (.t 0)⟩,
 ⟨some 60, none, .six (.t 59) (.k (.i .i64 0))⟩,
 ⟨some 61, none, .call 32 [(1, (.t 60))]⟩,
 ⟨some 58, none, .mv (.t 61)⟩])
 (.cond (.t 58)
 (.seq (.reg [⟨some 2, none, .mv (.k (.i .i64 0))⟩])
 (.ret))
 (.seq (.reg [⟨some 63, none, .mv (.t 5)⟩,
 ⟨some 64, none, .bin .eql (.t 63) (.k (.i .i64 0))⟩,
 ⟨some 62, none, .mv (.t 64)⟩])
 (.cond (.t 62)
 (.seq (.reg [⟨some 2, none, .mv (.k (.i .i64 2))⟩])
 (.ret))
 (.seq (.reg [⟨some 66, none, .mv (.t 5)⟩,
 ⟨some 67, none, .mv (.t 0)⟩,
 ⟨some 68, none, .slen (.t 67)⟩,
 ⟨some 69, none, .bin .eql (.t 66) (.t 68)⟩,
 ⟨some 65, none, .mv (.t 69)⟩])
 (.cond (.t 65)
 (.seq (.reg [⟨some 2, none, .mv (.k (.i .i64 3))⟩])
 (.ret))
 (.skip))))))))))
 (.seq (.reg [⟨some 2, none, .mv (.k (.i .i64 4))⟩])
 (.ret)))))))
theorem rKind_spec (s : List UInt8) (hm : s.length ≤ 9223372036854775807) : AFun Try.prog J0 17 [.s s] (.i .i64 (kind s : Nat)) := by
  rw [← rkind_eq]
  refine AFun.mk fol J0s Try.func17 rfl (ac := a17) (by kernel_rfl) rfl rfl rfl ?_
  apply vm_start
  unfold a17
  simp only [init_eq, initE]
  by_cases h0 : s = []
  · subst h0
    repeat first | (refine hK _ ?_; clear hK K) | simp only [Sv, ↓reduceIte, Nat.reduceEqDiff] | ((first | refine vm_reg (fun K hK => ?_) | refine vm_dreg (fun K hK => ?_) | refine vm_dregx (fun K hK => ?_)); simp (disch := (first | omega | assumption)) only [S1, ↓reduceIte, Nat.reduceEqDiff, Nat.reduceAdd, Nat.reduceMul, Nat.reduceDiv, AOp.sb, AOp.mut, frzf, ↓Bool.false_eq_true, beq_self_eq_true, ite_self, Nat.reduceLeDiff, Int.reduceEq, Int.reduceSub, Int.reduceAdd, Int.reduceNeg, Int.reduceLT, Int.reduceLE, Nat.reduceLT, bz_L4, i_eq, List.length_nil])
    simp (disch := (first | omega | assumption)) only [retOk, retN, ret1, retF, ret1F, V.okArg, and_true, true_and, S1, ↓reduceIte, Nat.reduceEqDiff, Nat.reduceAdd, Nat.reduceMul, Nat.reduceDiv, AOp.sb, AOp.mut, frzf, ↓Bool.false_eq_true, beq_self_eq_true, ite_self, Nat.reduceLeDiff, Int.reduceEq, Int.reduceSub, Int.reduceAdd, Int.reduceNeg, Int.reduceLT, Int.reduceLE, Nat.reduceLT, bz_L4, i_eq, List.length_nil]
    rfl
  have hp : 0 < s.length := List.length_pos_iff.2 h0
  have hp' : ¬ (s.length : Int) = 0 := by omega
  by_cases h5 : s.length = 1 ∧ isSym (s.getD 0 0) = true
  · have hk : rkind s = 5 := by unfold rkind; rw [if_neg h0, if_pos h5]
    have h5' : (s.length : Int) = 1 := by omega
    have zc19 := rsymbol_spec (s.getD 0 0)
    repeat first | (refine hK _ ?_; clear hK K) | simp only [Sv, ↓reduceIte, Nat.reduceEqDiff] | ((first | refine vm_reg (fun K hK => ?_) | refine vm_dreg (fun K hK => ?_) | refine vm_dregx (fun K hK => ?_) | refine clp_q ?_ | refine clq_mk (by assumption) ?_ | refine mcq_q ?_ | (apply mcr_mk; assumption) | (apply ocr_mk; assumption)); simp (disch := (first | omega | assumption)) only [S1, ↓reduceIte, Nat.reduceEqDiff, Nat.reduceAdd, Nat.reduceMul, Nat.reduceDiv, AOp.sb, AOp.mut, frzf, ↓Bool.false_eq_true, beq_self_eq_true, ite_self, Nat.reduceLeDiff, Int.reduceEq, Int.reduceSub, Int.reduceAdd, Int.reduceNeg, Int.reduceLT, Int.reduceLE, Nat.reduceLT, bz_L4, hp', h5', h5.2, i_eq, hk])
    simp (disch := (first | omega | assumption)) only [retOk, retN, ret1, retF, ret1F, V.okArg, and_true, true_and, S1, ↓reduceIte, Nat.reduceEqDiff, Nat.reduceAdd, Nat.reduceMul, Nat.reduceDiv, AOp.sb, AOp.mut, frzf, ↓Bool.false_eq_true, beq_self_eq_true, ite_self, Nat.reduceLeDiff, Int.reduceEq, Int.reduceSub, Int.reduceAdd, Int.reduceNeg, Int.reduceLT, Int.reduceLE, Nat.reduceLT, bz_L4, hp', h5', h5.2, i_eq, hk]
  · have hk : rkind s = if s.all isAl = true then
        (if cnt isDig s = s.length then (if (s.getD 0 0).toNat = 48 ∧ 1 < s.length then 0 else 1)
         else if isDig (s.getD 0 0) = true then 0
         else if cnt isCap s = 0 then 2 else if cnt isCap s = s.length then 3 else 4)
      else 0 := by unfold rkind; rw [if_neg h0, if_neg h5]
    by_cases h6 : (s.length : Int) = 1
    · have h7 : isSym (s.getD 0 0) = false := by
        cases e : isSym (s.getD 0 0)
        · rfl
        · exact absurd ⟨by omega, e⟩ h5
      have zc20 := rsymbol_spec (s.getD 0 0)
      repeat first | (refine hK _ ?_; clear hK K) | simp only [Sv, ↓reduceIte, Nat.reduceEqDiff] | ((first | refine vm_reg (fun K hK => ?_) | refine vm_dreg (fun K hK => ?_) | refine vm_dregx (fun K hK => ?_) | refine clp_q ?_ | refine clq_mk (by assumption) ?_ | refine mcq_q ?_ | (apply mcr_mk; assumption) | (apply ocr_mk; assumption)); simp (disch := (first | omega | assumption)) only [S1, ↓reduceIte, Nat.reduceEqDiff, Nat.reduceAdd, Nat.reduceMul, Nat.reduceDiv, AOp.sb, AOp.mut, frzf, ↓Bool.false_eq_true, beq_self_eq_true, ite_self, Nat.reduceLeDiff, Int.reduceEq, Int.reduceSub, Int.reduceAdd, Int.reduceNeg, Int.reduceLT, Int.reduceLE, Nat.reduceLT, bz_L4, hp', h6, h7])
      refine vm_loop Nat (fun i => ⟨[(0, .s s), (6, .i .i64 (i : Int)), (3, .i .i64 (cnt isDig (s.take i) : Nat)), (4, .i .i64 (cnt isSm (s.take i) : Nat)), (5, .i .i64 (cnt isCap (s.take i) : Nat))], [], 0⟩) (fun i => i ≤ s.length ∧ (s.take i).all isAl = true) (fun i => s.length - i) 0 [] ⟨Nat.zero_le _, rfl⟩ (by
        simp (disch := (first | omega | assumption)) only [Sl, Sa, Sw, ↓reduceIte, Nat.reduceEqDiff, Nat.reduceLT, List.all_nil, List.all_cons, Nat.reduceBneDiff, Nat.reduceAdd, bne_iff_ne, ne_eq, reduceCtorEq, not_false_eq_true, not_true_eq_false, Bool.and_true, Bool.true_and, and_true, true_and, and_self, i_eq]
        exact ⟨rfl, rfl, rfl, rfl⟩) ?_
      intro i ⟨hi, hal⟩ Q' hQ he hr
      have b0 := cnt_take_le isDig s i
      have b1 := cnt_take_le isSm s i
      have b2 := cnt_take_le isCap s i
      by_cases hlt : (i : Int) < s.length
      · have hlt' : i < s.length := by omega
        cases hw : isDig (s.getD i 0)
        · cases hx : isSm (s.getD i 0)
          · cases hy : isCap (s.getD i 0)
            · have zc21 := rdigit_spec (s.getD i 0)
              have zc22 := rsmall_spec (s.getD i 0)
              have zc23 := rcapital_spec (s.getD i 0)
              repeat first | (refine hK _ ?_; clear hK K) | simp only [Sv, ↓reduceIte, Nat.reduceEqDiff] | ((first | refine vm_reg (fun K hK => ?_) | refine vm_dreg (fun K hK => ?_) | refine vm_dregx (fun K hK => ?_) | refine clp_q ?_ | refine clq_mk (by assumption) ?_ | refine mcq_q ?_ | (apply mcr_mk; assumption) | (apply ocr_mk; assumption)); simp (disch := (first | omega | assumption)) only [S1, ↓reduceIte, Nat.reduceEqDiff, Nat.reduceAdd, Nat.reduceMul, Nat.reduceDiv, AOp.sb, AOp.mut, frzf, ↓Bool.false_eq_true, beq_self_eq_true, ite_self, Nat.reduceLeDiff, Int.reduceEq, Int.reduceSub, Int.reduceAdd, Int.reduceNeg, Int.reduceLT, Int.reduceLE, Nat.reduceLT, bz_L4, hlt, hw, hx, hy])
              refine hr _ ?_
              rw [if_neg (by rw [all_not hlt' (by simp only [isAl, isLet, hw, hx, hy]; rfl)]; simp)] at hk
              simp (disch := (first | omega | assumption)) only [retOk, retN, ret1, retF, ret1F, V.okArg, and_true, true_and, S1, ↓reduceIte, Nat.reduceEqDiff, Nat.reduceAdd, Nat.reduceMul, Nat.reduceDiv, AOp.sb, AOp.mut, frzf, ↓Bool.false_eq_true, beq_self_eq_true, ite_self, Nat.reduceLeDiff, Int.reduceEq, Int.reduceSub, Int.reduceAdd, Int.reduceNeg, Int.reduceLT, Int.reduceLE, Nat.reduceLT, bz_L4, i_eq, hk]
            · have zc24 := rdigit_spec (s.getD i 0)
              have zc25 := rsmall_spec (s.getD i 0)
              have zc26 := rcapital_spec (s.getD i 0)
              repeat first | (refine hK _ ?_; clear hK K) | simp only [Sv, ↓reduceIte, Nat.reduceEqDiff] | ((first | refine vm_reg (fun K hK => ?_) | refine vm_dreg (fun K hK => ?_) | refine vm_dregx (fun K hK => ?_) | refine clp_q ?_ | refine clq_mk (by assumption) ?_ | refine mcq_q ?_ | (apply mcr_mk; assumption) | (apply ocr_mk; assumption)); simp (disch := (first | omega | assumption)) only [S1, ↓reduceIte, Nat.reduceEqDiff, Nat.reduceAdd, Nat.reduceMul, Nat.reduceDiv, AOp.sb, AOp.mut, frzf, ↓Bool.false_eq_true, beq_self_eq_true, ite_self, Nat.reduceLeDiff, Int.reduceEq, Int.reduceSub, Int.reduceAdd, Int.reduceNeg, Int.reduceLT, Int.reduceLE, Nat.reduceLT, bz_L4, hlt, hw, hx, hy])
              refine hQ _ (i + 1) [] ⟨by omega, all_take hlt' hal (by simp only [isAl, isLet, hw, hx, hy]; rfl)⟩ (by omega) ?_
              simp (disch := (first | omega | assumption)) only [Sl, Sa, Sw, ↓reduceIte, Nat.reduceEqDiff, Nat.reduceLT, List.all_nil, List.all_cons, Nat.reduceBneDiff, Nat.reduceAdd, bne_iff_ne, ne_eq, reduceCtorEq, not_false_eq_true, not_true_eq_false, Bool.and_true, Bool.true_and, and_true, true_and, and_self, i_eq, cnt_take_f hlt' hw, cnt_take_f hlt' hx, cnt_take_t hlt' hy]
              omega
          · have zc27 := rdigit_spec (s.getD i 0)
            have zc28 := rsmall_spec (s.getD i 0)
            repeat first | (refine hK _ ?_; clear hK K) | simp only [Sv, ↓reduceIte, Nat.reduceEqDiff] | ((first | refine vm_reg (fun K hK => ?_) | refine vm_dreg (fun K hK => ?_) | refine vm_dregx (fun K hK => ?_) | refine clp_q ?_ | refine clq_mk (by assumption) ?_ | refine mcq_q ?_ | (apply mcr_mk; assumption) | (apply ocr_mk; assumption)); simp (disch := (first | omega | assumption)) only [S1, ↓reduceIte, Nat.reduceEqDiff, Nat.reduceAdd, Nat.reduceMul, Nat.reduceDiv, AOp.sb, AOp.mut, frzf, ↓Bool.false_eq_true, beq_self_eq_true, ite_self, Nat.reduceLeDiff, Int.reduceEq, Int.reduceSub, Int.reduceAdd, Int.reduceNeg, Int.reduceLT, Int.reduceLE, Nat.reduceLT, bz_L4, hlt, hw, hx])
            refine hQ _ (i + 1) [] ⟨by omega, all_take hlt' hal (by simp only [isAl, isLet, hw, hx]; rfl)⟩ (by omega) ?_
            simp (disch := (first | omega | assumption)) only [Sl, Sa, Sw, ↓reduceIte, Nat.reduceEqDiff, Nat.reduceLT, List.all_nil, List.all_cons, Nat.reduceBneDiff, Nat.reduceAdd, bne_iff_ne, ne_eq, reduceCtorEq, not_false_eq_true, not_true_eq_false, Bool.and_true, Bool.true_and, and_true, true_and, and_self, i_eq, cnt_take_f hlt' hw, cnt_take_t hlt' hx, cnt_take_f hlt' (sm_cap hx)]
            omega
        · have zc29 := rdigit_spec (s.getD i 0)
          repeat first | (refine hK _ ?_; clear hK K) | simp only [Sv, ↓reduceIte, Nat.reduceEqDiff] | ((first | refine vm_reg (fun K hK => ?_) | refine vm_dreg (fun K hK => ?_) | refine vm_dregx (fun K hK => ?_) | refine clp_q ?_ | refine clq_mk (by assumption) ?_ | refine mcq_q ?_ | (apply mcr_mk; assumption) | (apply ocr_mk; assumption)); simp (disch := (first | omega | assumption)) only [S1, ↓reduceIte, Nat.reduceEqDiff, Nat.reduceAdd, Nat.reduceMul, Nat.reduceDiv, AOp.sb, AOp.mut, frzf, ↓Bool.false_eq_true, beq_self_eq_true, ite_self, Nat.reduceLeDiff, Int.reduceEq, Int.reduceSub, Int.reduceAdd, Int.reduceNeg, Int.reduceLT, Int.reduceLE, Nat.reduceLT, bz_L4, hlt, hw])
          refine hQ _ (i + 1) [] ⟨by omega, all_take hlt' hal (by simp only [isAl, hw, Bool.true_or])⟩ (by omega) ?_
          simp (disch := (first | omega | assumption)) only [Sl, Sa, Sw, ↓reduceIte, Nat.reduceEqDiff, Nat.reduceLT, List.all_nil, List.all_cons, Nat.reduceBneDiff, Nat.reduceAdd, bne_iff_ne, ne_eq, reduceCtorEq, not_false_eq_true, not_true_eq_false, Bool.and_true, Bool.true_and, and_true, true_and, and_self, i_eq, cnt_take_t hlt' hw, cnt_take_f hlt' (dig_let hw).1, cnt_take_f hlt' (dig_let hw).2]
          omega
      · obtain rfl : i = s.length := by omega
        repeat first
          | (refine hK _ ?_; clear hK K)
          | ((first | refine vm_reg (fun K hK => ?_) | refine vm_dreg (fun K hK => ?_) | refine vm_dregx (fun K hK => ?_)); simp (disch := (first | omega | assumption)) only [S1, ↓reduceIte, Nat.reduceEqDiff, Nat.reduceAdd, Nat.reduceMul, Nat.reduceDiv, AOp.sb, AOp.mut, frzf, ↓Bool.false_eq_true, beq_self_eq_true, ite_self, Nat.reduceLeDiff, Int.reduceEq, Int.reduceSub, Int.reduceAdd, Int.reduceNeg, Int.reduceLT, Int.reduceLE, Nat.reduceLT, bz_L4, hlt]; refine hK _ ?_; clear hK K)
          | simp only [Sv, ↓reduceIte, Nat.reduceEqDiff]
        refine he _ _ ?_
        rw [List.take_length] at hal
        rw [List.take_length]
        rw [if_pos hal] at hk
        by_cases g0 : ((cnt isDig s : Nat) : Int) = (s.length : Int)
        · rw [if_pos (by omega)] at hk
          by_cases g1 : (s.getD 0 0).toNat = 48
          · by_cases g2 : 1 < (s.length : Int)
            · rw [if_pos ⟨g1, by omega⟩] at hk
              repeat first
                | (refine hK _ ?_; clear hK K)
                | ((first | refine vm_reg (fun K hK => ?_) | refine vm_dreg (fun K hK => ?_) | refine vm_dregx (fun K hK => ?_)); simp (disch := (first | omega | assumption)) only [S1, ↓reduceIte, Nat.reduceEqDiff, Nat.reduceAdd, Nat.reduceMul, Nat.reduceDiv, AOp.sb, AOp.mut, frzf, ↓Bool.false_eq_true, beq_self_eq_true, ite_self, Nat.reduceLeDiff, Int.reduceEq, Int.reduceSub, Int.reduceAdd, Int.reduceNeg, Int.reduceLT, Int.reduceLE, Nat.reduceLT, bz_L4, g0, u8_48, g1, g2]; refine hK _ ?_; clear hK K)
                | simp only [Sv, ↓reduceIte, Nat.reduceEqDiff]
              simp (disch := (first | omega | assumption)) only [retOk, retN, ret1, retF, ret1F, V.okArg, and_true, true_and, S1, ↓reduceIte, Nat.reduceEqDiff, Nat.reduceAdd, Nat.reduceMul, Nat.reduceDiv, AOp.sb, AOp.mut, frzf, ↓Bool.false_eq_true, beq_self_eq_true, ite_self, Nat.reduceLeDiff, Int.reduceEq, Int.reduceSub, Int.reduceAdd, Int.reduceNeg, Int.reduceLT, Int.reduceLE, Nat.reduceLT, bz_L4, i_eq, hk]
            · rw [if_neg (by omega)] at hk
              repeat first
                | (refine hK _ ?_; clear hK K)
                | ((first | refine vm_reg (fun K hK => ?_) | refine vm_dreg (fun K hK => ?_) | refine vm_dregx (fun K hK => ?_)); simp (disch := (first | omega | assumption)) only [S1, ↓reduceIte, Nat.reduceEqDiff, Nat.reduceAdd, Nat.reduceMul, Nat.reduceDiv, AOp.sb, AOp.mut, frzf, ↓Bool.false_eq_true, beq_self_eq_true, ite_self, Nat.reduceLeDiff, Int.reduceEq, Int.reduceSub, Int.reduceAdd, Int.reduceNeg, Int.reduceLT, Int.reduceLE, Nat.reduceLT, bz_L4, g0, u8_48, g1, g2]; refine hK _ ?_; clear hK K)
                | simp only [Sv, ↓reduceIte, Nat.reduceEqDiff]
              simp (disch := (first | omega | assumption)) only [retOk, retN, ret1, retF, ret1F, V.okArg, and_true, true_and, S1, ↓reduceIte, Nat.reduceEqDiff, Nat.reduceAdd, Nat.reduceMul, Nat.reduceDiv, AOp.sb, AOp.mut, frzf, ↓Bool.false_eq_true, beq_self_eq_true, ite_self, Nat.reduceLeDiff, Int.reduceEq, Int.reduceSub, Int.reduceAdd, Int.reduceNeg, Int.reduceLT, Int.reduceLE, Nat.reduceLT, bz_L4, i_eq, hk]
          · rw [if_neg (by omega)] at hk
            repeat first
              | (refine hK _ ?_; clear hK K)
              | ((first | refine vm_reg (fun K hK => ?_) | refine vm_dreg (fun K hK => ?_) | refine vm_dregx (fun K hK => ?_)); simp (disch := (first | omega | assumption)) only [S1, ↓reduceIte, Nat.reduceEqDiff, Nat.reduceAdd, Nat.reduceMul, Nat.reduceDiv, AOp.sb, AOp.mut, frzf, ↓Bool.false_eq_true, beq_self_eq_true, ite_self, Nat.reduceLeDiff, Int.reduceEq, Int.reduceSub, Int.reduceAdd, Int.reduceNeg, Int.reduceLT, Int.reduceLE, Nat.reduceLT, bz_L4, g0, u8_48, g1]; refine hK _ ?_; clear hK K)
              | simp only [Sv, ↓reduceIte, Nat.reduceEqDiff]
            simp (disch := (first | omega | assumption)) only [retOk, retN, ret1, retF, ret1F, V.okArg, and_true, true_and, S1, ↓reduceIte, Nat.reduceEqDiff, Nat.reduceAdd, Nat.reduceMul, Nat.reduceDiv, AOp.sb, AOp.mut, frzf, ↓Bool.false_eq_true, beq_self_eq_true, ite_self, Nat.reduceLeDiff, Int.reduceEq, Int.reduceSub, Int.reduceAdd, Int.reduceNeg, Int.reduceLT, Int.reduceLE, Nat.reduceLT, bz_L4, i_eq, hk]
        · rw [if_neg (by omega)] at hk
          cases g3 : isDig (s.getD 0 0)
          · rw [g3, if_neg (by simp)] at hk
            by_cases c0' : ((cnt isCap s : Nat) : Int) = 0
            · rw [if_pos (by omega)] at hk
              repeat first
                | (refine hK _ ?_; clear hK K)
                | ((first | refine vm_reg (fun K hK => ?_) | refine vm_dreg (fun K hK => ?_) | refine vm_dregx (fun K hK => ?_)); simp (disch := (first | omega | assumption)) only [S1, ↓reduceIte, Nat.reduceEqDiff, Nat.reduceAdd, Nat.reduceMul, Nat.reduceDiv, AOp.sb, AOp.mut, frzf, ↓Bool.false_eq_true, beq_self_eq_true, ite_self, Nat.reduceLeDiff, Int.reduceEq, Int.reduceSub, Int.reduceAdd, Int.reduceNeg, Int.reduceLT, Int.reduceLE, Nat.reduceLT, bz_L4, g0]; refine hK _ ?_; clear hK K)
                | simp only [Sv, ↓reduceIte, Nat.reduceEqDiff]
              have zc30 := rdigit_spec (s.getD 0 0)
              repeat first | (refine hK _ ?_; clear hK K) | simp only [Sv, ↓reduceIte, Nat.reduceEqDiff] | ((first | refine vm_reg (fun K hK => ?_) | refine vm_dreg (fun K hK => ?_) | refine vm_dregx (fun K hK => ?_) | refine clp_q ?_ | refine clq_mk (by assumption) ?_ | refine mcq_q ?_ | (apply mcr_mk; assumption) | (apply ocr_mk; assumption)); simp (disch := (first | omega | assumption)) only [S1, ↓reduceIte, Nat.reduceEqDiff, Nat.reduceAdd, Nat.reduceMul, Nat.reduceDiv, AOp.sb, AOp.mut, frzf, ↓Bool.false_eq_true, beq_self_eq_true, ite_self, Nat.reduceLeDiff, Int.reduceEq, Int.reduceSub, Int.reduceAdd, Int.reduceNeg, Int.reduceLT, Int.reduceLE, Nat.reduceLT, bz_L4, g0, g3, c0'])
              simp (disch := (first | omega | assumption)) only [retOk, retN, ret1, retF, ret1F, V.okArg, and_true, true_and, S1, ↓reduceIte, Nat.reduceEqDiff, Nat.reduceAdd, Nat.reduceMul, Nat.reduceDiv, AOp.sb, AOp.mut, frzf, ↓Bool.false_eq_true, beq_self_eq_true, ite_self, Nat.reduceLeDiff, Int.reduceEq, Int.reduceSub, Int.reduceAdd, Int.reduceNeg, Int.reduceLT, Int.reduceLE, Nat.reduceLT, bz_L4, i_eq, hk]
            · rw [if_neg (by omega)] at hk
              by_cases c1' : ((cnt isCap s : Nat) : Int) = (s.length : Int)
              · rw [if_pos (by omega)] at hk
                repeat first
                  | (refine hK _ ?_; clear hK K)
                  | ((first | refine vm_reg (fun K hK => ?_) | refine vm_dreg (fun K hK => ?_) | refine vm_dregx (fun K hK => ?_)); simp (disch := (first | omega | assumption)) only [S1, ↓reduceIte, Nat.reduceEqDiff, Nat.reduceAdd, Nat.reduceMul, Nat.reduceDiv, AOp.sb, AOp.mut, frzf, ↓Bool.false_eq_true, beq_self_eq_true, ite_self, Nat.reduceLeDiff, Int.reduceEq, Int.reduceSub, Int.reduceAdd, Int.reduceNeg, Int.reduceLT, Int.reduceLE, Nat.reduceLT, bz_L4, g0]; refine hK _ ?_; clear hK K)
                  | simp only [Sv, ↓reduceIte, Nat.reduceEqDiff]
                have zc31 := rdigit_spec (s.getD 0 0)
                repeat first | (refine hK _ ?_; clear hK K) | simp only [Sv, ↓reduceIte, Nat.reduceEqDiff] | ((first | refine vm_reg (fun K hK => ?_) | refine vm_dreg (fun K hK => ?_) | refine vm_dregx (fun K hK => ?_) | refine clp_q ?_ | refine clq_mk (by assumption) ?_ | refine mcq_q ?_ | (apply mcr_mk; assumption) | (apply ocr_mk; assumption)); simp (disch := (first | omega | assumption)) only [S1, ↓reduceIte, Nat.reduceEqDiff, Nat.reduceAdd, Nat.reduceMul, Nat.reduceDiv, AOp.sb, AOp.mut, frzf, ↓Bool.false_eq_true, beq_self_eq_true, ite_self, Nat.reduceLeDiff, Int.reduceEq, Int.reduceSub, Int.reduceAdd, Int.reduceNeg, Int.reduceLT, Int.reduceLE, Nat.reduceLT, bz_L4, g0, g3, c0', c1', hp'])
                simp (disch := (first | omega | assumption)) only [retOk, retN, ret1, retF, ret1F, V.okArg, and_true, true_and, S1, ↓reduceIte, Nat.reduceEqDiff, Nat.reduceAdd, Nat.reduceMul, Nat.reduceDiv, AOp.sb, AOp.mut, frzf, ↓Bool.false_eq_true, beq_self_eq_true, ite_self, Nat.reduceLeDiff, Int.reduceEq, Int.reduceSub, Int.reduceAdd, Int.reduceNeg, Int.reduceLT, Int.reduceLE, Nat.reduceLT, bz_L4, i_eq, hk]
              · rw [if_neg (by omega)] at hk
                repeat first
                  | (refine hK _ ?_; clear hK K)
                  | ((first | refine vm_reg (fun K hK => ?_) | refine vm_dreg (fun K hK => ?_) | refine vm_dregx (fun K hK => ?_)); simp (disch := (first | omega | assumption)) only [S1, ↓reduceIte, Nat.reduceEqDiff, Nat.reduceAdd, Nat.reduceMul, Nat.reduceDiv, AOp.sb, AOp.mut, frzf, ↓Bool.false_eq_true, beq_self_eq_true, ite_self, Nat.reduceLeDiff, Int.reduceEq, Int.reduceSub, Int.reduceAdd, Int.reduceNeg, Int.reduceLT, Int.reduceLE, Nat.reduceLT, bz_L4, g0]; refine hK _ ?_; clear hK K)
                  | simp only [Sv, ↓reduceIte, Nat.reduceEqDiff]
                have zc32 := rdigit_spec (s.getD 0 0)
                repeat first | (refine hK _ ?_; clear hK K) | simp only [Sv, ↓reduceIte, Nat.reduceEqDiff] | ((first | refine vm_reg (fun K hK => ?_) | refine vm_dreg (fun K hK => ?_) | refine vm_dregx (fun K hK => ?_) | refine clp_q ?_ | refine clq_mk (by assumption) ?_ | refine mcq_q ?_ | (apply mcr_mk; assumption) | (apply ocr_mk; assumption)); simp (disch := (first | omega | assumption)) only [S1, ↓reduceIte, Nat.reduceEqDiff, Nat.reduceAdd, Nat.reduceMul, Nat.reduceDiv, AOp.sb, AOp.mut, frzf, ↓Bool.false_eq_true, beq_self_eq_true, ite_self, Nat.reduceLeDiff, Int.reduceEq, Int.reduceSub, Int.reduceAdd, Int.reduceNeg, Int.reduceLT, Int.reduceLE, Nat.reduceLT, bz_L4, g0, g3, c0', c1', hp'])
                simp (disch := (first | omega | assumption)) only [retOk, retN, ret1, retF, ret1F, V.okArg, and_true, true_and, S1, ↓reduceIte, Nat.reduceEqDiff, Nat.reduceAdd, Nat.reduceMul, Nat.reduceDiv, AOp.sb, AOp.mut, frzf, ↓Bool.false_eq_true, beq_self_eq_true, ite_self, Nat.reduceLeDiff, Int.reduceEq, Int.reduceSub, Int.reduceAdd, Int.reduceNeg, Int.reduceLT, Int.reduceLE, Nat.reduceLT, bz_L4, i_eq, hk]
          · rw [g3, if_pos rfl] at hk
            repeat first
              | (refine hK _ ?_; clear hK K)
              | ((first | refine vm_reg (fun K hK => ?_) | refine vm_dreg (fun K hK => ?_) | refine vm_dregx (fun K hK => ?_)); simp (disch := (first | omega | assumption)) only [S1, ↓reduceIte, Nat.reduceEqDiff, Nat.reduceAdd, Nat.reduceMul, Nat.reduceDiv, AOp.sb, AOp.mut, frzf, ↓Bool.false_eq_true, beq_self_eq_true, ite_self, Nat.reduceLeDiff, Int.reduceEq, Int.reduceSub, Int.reduceAdd, Int.reduceNeg, Int.reduceLT, Int.reduceLE, Nat.reduceLT, bz_L4, g0]; refine hK _ ?_; clear hK K)
              | simp only [Sv, ↓reduceIte, Nat.reduceEqDiff]
            have zc33 := rdigit_spec (s.getD 0 0)
            repeat first | (refine hK _ ?_; clear hK K) | simp only [Sv, ↓reduceIte, Nat.reduceEqDiff] | ((first | refine vm_reg (fun K hK => ?_) | refine vm_dreg (fun K hK => ?_) | refine vm_dregx (fun K hK => ?_) | refine clp_q ?_ | refine clq_mk (by assumption) ?_ | refine mcq_q ?_ | (apply mcr_mk; assumption) | (apply ocr_mk; assumption)); simp (disch := (first | omega | assumption)) only [S1, ↓reduceIte, Nat.reduceEqDiff, Nat.reduceAdd, Nat.reduceMul, Nat.reduceDiv, AOp.sb, AOp.mut, frzf, ↓Bool.false_eq_true, beq_self_eq_true, ite_self, Nat.reduceLeDiff, Int.reduceEq, Int.reduceSub, Int.reduceAdd, Int.reduceNeg, Int.reduceLT, Int.reduceLE, Nat.reduceLT, bz_L4, g0, g3])
            simp (disch := (first | omega | assumption)) only [retOk, retN, ret1, retF, ret1F, V.okArg, and_true, true_and, S1, ↓reduceIte, Nat.reduceEqDiff, Nat.reduceAdd, Nat.reduceMul, Nat.reduceDiv, AOp.sb, AOp.mut, frzf, ↓Bool.false_eq_true, beq_self_eq_true, ite_self, Nat.reduceLeDiff, Int.reduceEq, Int.reduceSub, Int.reduceAdd, Int.reduceNeg, Int.reduceLT, Int.reduceLE, Nat.reduceLT, bz_L4, i_eq, hk]
    · repeat first
        | (refine hK _ ?_; clear hK K)
        | ((first | refine vm_reg (fun K hK => ?_) | refine vm_dreg (fun K hK => ?_) | refine vm_dregx (fun K hK => ?_)); simp (disch := (first | omega | assumption)) only [S1, ↓reduceIte, Nat.reduceEqDiff, Nat.reduceAdd, Nat.reduceMul, Nat.reduceDiv, AOp.sb, AOp.mut, frzf, ↓Bool.false_eq_true, beq_self_eq_true, ite_self, Nat.reduceLeDiff, Int.reduceEq, Int.reduceSub, Int.reduceAdd, Int.reduceNeg, Int.reduceLT, Int.reduceLE, Nat.reduceLT, bz_L4, hp', h6]; refine hK _ ?_; clear hK K)
        | simp only [Sv, ↓reduceIte, Nat.reduceEqDiff]
      refine vm_loop Nat (fun i => ⟨[(0, .s s), (6, .i .i64 (i : Int)), (3, .i .i64 (cnt isDig (s.take i) : Nat)), (4, .i .i64 (cnt isSm (s.take i) : Nat)), (5, .i .i64 (cnt isCap (s.take i) : Nat))], [], 0⟩) (fun i => i ≤ s.length ∧ (s.take i).all isAl = true) (fun i => s.length - i) 0 [] ⟨Nat.zero_le _, rfl⟩ (by
        simp (disch := (first | omega | assumption)) only [Sl, Sa, Sw, ↓reduceIte, Nat.reduceEqDiff, Nat.reduceLT, List.all_nil, List.all_cons, Nat.reduceBneDiff, Nat.reduceAdd, bne_iff_ne, ne_eq, reduceCtorEq, not_false_eq_true, not_true_eq_false, Bool.and_true, Bool.true_and, and_true, true_and, and_self, i_eq]
        exact ⟨rfl, rfl, rfl, rfl⟩) ?_
      intro i ⟨hi, hal⟩ Q' hQ he hr
      have b0 := cnt_take_le isDig s i
      have b1 := cnt_take_le isSm s i
      have b2 := cnt_take_le isCap s i
      by_cases hlt : (i : Int) < s.length
      · have hlt' : i < s.length := by omega
        cases hw : isDig (s.getD i 0)
        · cases hx : isSm (s.getD i 0)
          · cases hy : isCap (s.getD i 0)
            · have zc34 := rdigit_spec (s.getD i 0)
              have zc35 := rsmall_spec (s.getD i 0)
              have zc36 := rcapital_spec (s.getD i 0)
              repeat first | (refine hK _ ?_; clear hK K) | simp only [Sv, ↓reduceIte, Nat.reduceEqDiff] | ((first | refine vm_reg (fun K hK => ?_) | refine vm_dreg (fun K hK => ?_) | refine vm_dregx (fun K hK => ?_) | refine clp_q ?_ | refine clq_mk (by assumption) ?_ | refine mcq_q ?_ | (apply mcr_mk; assumption) | (apply ocr_mk; assumption)); simp (disch := (first | omega | assumption)) only [S1, ↓reduceIte, Nat.reduceEqDiff, Nat.reduceAdd, Nat.reduceMul, Nat.reduceDiv, AOp.sb, AOp.mut, frzf, ↓Bool.false_eq_true, beq_self_eq_true, ite_self, Nat.reduceLeDiff, Int.reduceEq, Int.reduceSub, Int.reduceAdd, Int.reduceNeg, Int.reduceLT, Int.reduceLE, Nat.reduceLT, bz_L4, hlt, hw, hx, hy])
              refine hr _ ?_
              rw [if_neg (by rw [all_not hlt' (by simp only [isAl, isLet, hw, hx, hy]; rfl)]; simp)] at hk
              simp (disch := (first | omega | assumption)) only [retOk, retN, ret1, retF, ret1F, V.okArg, and_true, true_and, S1, ↓reduceIte, Nat.reduceEqDiff, Nat.reduceAdd, Nat.reduceMul, Nat.reduceDiv, AOp.sb, AOp.mut, frzf, ↓Bool.false_eq_true, beq_self_eq_true, ite_self, Nat.reduceLeDiff, Int.reduceEq, Int.reduceSub, Int.reduceAdd, Int.reduceNeg, Int.reduceLT, Int.reduceLE, Nat.reduceLT, bz_L4, i_eq, hk]
            · have zc37 := rdigit_spec (s.getD i 0)
              have zc38 := rsmall_spec (s.getD i 0)
              have zc39 := rcapital_spec (s.getD i 0)
              repeat first | (refine hK _ ?_; clear hK K) | simp only [Sv, ↓reduceIte, Nat.reduceEqDiff] | ((first | refine vm_reg (fun K hK => ?_) | refine vm_dreg (fun K hK => ?_) | refine vm_dregx (fun K hK => ?_) | refine clp_q ?_ | refine clq_mk (by assumption) ?_ | refine mcq_q ?_ | (apply mcr_mk; assumption) | (apply ocr_mk; assumption)); simp (disch := (first | omega | assumption)) only [S1, ↓reduceIte, Nat.reduceEqDiff, Nat.reduceAdd, Nat.reduceMul, Nat.reduceDiv, AOp.sb, AOp.mut, frzf, ↓Bool.false_eq_true, beq_self_eq_true, ite_self, Nat.reduceLeDiff, Int.reduceEq, Int.reduceSub, Int.reduceAdd, Int.reduceNeg, Int.reduceLT, Int.reduceLE, Nat.reduceLT, bz_L4, hlt, hw, hx, hy])
              refine hQ _ (i + 1) [] ⟨by omega, all_take hlt' hal (by simp only [isAl, isLet, hw, hx, hy]; rfl)⟩ (by omega) ?_
              simp (disch := (first | omega | assumption)) only [Sl, Sa, Sw, ↓reduceIte, Nat.reduceEqDiff, Nat.reduceLT, List.all_nil, List.all_cons, Nat.reduceBneDiff, Nat.reduceAdd, bne_iff_ne, ne_eq, reduceCtorEq, not_false_eq_true, not_true_eq_false, Bool.and_true, Bool.true_and, and_true, true_and, and_self, i_eq, cnt_take_f hlt' hw, cnt_take_f hlt' hx, cnt_take_t hlt' hy]
              omega
          · have zc40 := rdigit_spec (s.getD i 0)
            have zc41 := rsmall_spec (s.getD i 0)
            repeat first | (refine hK _ ?_; clear hK K) | simp only [Sv, ↓reduceIte, Nat.reduceEqDiff] | ((first | refine vm_reg (fun K hK => ?_) | refine vm_dreg (fun K hK => ?_) | refine vm_dregx (fun K hK => ?_) | refine clp_q ?_ | refine clq_mk (by assumption) ?_ | refine mcq_q ?_ | (apply mcr_mk; assumption) | (apply ocr_mk; assumption)); simp (disch := (first | omega | assumption)) only [S1, ↓reduceIte, Nat.reduceEqDiff, Nat.reduceAdd, Nat.reduceMul, Nat.reduceDiv, AOp.sb, AOp.mut, frzf, ↓Bool.false_eq_true, beq_self_eq_true, ite_self, Nat.reduceLeDiff, Int.reduceEq, Int.reduceSub, Int.reduceAdd, Int.reduceNeg, Int.reduceLT, Int.reduceLE, Nat.reduceLT, bz_L4, hlt, hw, hx])
            refine hQ _ (i + 1) [] ⟨by omega, all_take hlt' hal (by simp only [isAl, isLet, hw, hx]; rfl)⟩ (by omega) ?_
            simp (disch := (first | omega | assumption)) only [Sl, Sa, Sw, ↓reduceIte, Nat.reduceEqDiff, Nat.reduceLT, List.all_nil, List.all_cons, Nat.reduceBneDiff, Nat.reduceAdd, bne_iff_ne, ne_eq, reduceCtorEq, not_false_eq_true, not_true_eq_false, Bool.and_true, Bool.true_and, and_true, true_and, and_self, i_eq, cnt_take_f hlt' hw, cnt_take_t hlt' hx, cnt_take_f hlt' (sm_cap hx)]
            omega
        · have zc42 := rdigit_spec (s.getD i 0)
          repeat first | (refine hK _ ?_; clear hK K) | simp only [Sv, ↓reduceIte, Nat.reduceEqDiff] | ((first | refine vm_reg (fun K hK => ?_) | refine vm_dreg (fun K hK => ?_) | refine vm_dregx (fun K hK => ?_) | refine clp_q ?_ | refine clq_mk (by assumption) ?_ | refine mcq_q ?_ | (apply mcr_mk; assumption) | (apply ocr_mk; assumption)); simp (disch := (first | omega | assumption)) only [S1, ↓reduceIte, Nat.reduceEqDiff, Nat.reduceAdd, Nat.reduceMul, Nat.reduceDiv, AOp.sb, AOp.mut, frzf, ↓Bool.false_eq_true, beq_self_eq_true, ite_self, Nat.reduceLeDiff, Int.reduceEq, Int.reduceSub, Int.reduceAdd, Int.reduceNeg, Int.reduceLT, Int.reduceLE, Nat.reduceLT, bz_L4, hlt, hw])
          refine hQ _ (i + 1) [] ⟨by omega, all_take hlt' hal (by simp only [isAl, hw, Bool.true_or])⟩ (by omega) ?_
          simp (disch := (first | omega | assumption)) only [Sl, Sa, Sw, ↓reduceIte, Nat.reduceEqDiff, Nat.reduceLT, List.all_nil, List.all_cons, Nat.reduceBneDiff, Nat.reduceAdd, bne_iff_ne, ne_eq, reduceCtorEq, not_false_eq_true, not_true_eq_false, Bool.and_true, Bool.true_and, and_true, true_and, and_self, i_eq, cnt_take_t hlt' hw, cnt_take_f hlt' (dig_let hw).1, cnt_take_f hlt' (dig_let hw).2]
          omega
      · obtain rfl : i = s.length := by omega
        repeat first
          | (refine hK _ ?_; clear hK K)
          | ((first | refine vm_reg (fun K hK => ?_) | refine vm_dreg (fun K hK => ?_) | refine vm_dregx (fun K hK => ?_)); simp (disch := (first | omega | assumption)) only [S1, ↓reduceIte, Nat.reduceEqDiff, Nat.reduceAdd, Nat.reduceMul, Nat.reduceDiv, AOp.sb, AOp.mut, frzf, ↓Bool.false_eq_true, beq_self_eq_true, ite_self, Nat.reduceLeDiff, Int.reduceEq, Int.reduceSub, Int.reduceAdd, Int.reduceNeg, Int.reduceLT, Int.reduceLE, Nat.reduceLT, bz_L4, hlt]; refine hK _ ?_; clear hK K)
          | simp only [Sv, ↓reduceIte, Nat.reduceEqDiff]
        refine he _ _ ?_
        rw [List.take_length] at hal
        rw [List.take_length]
        rw [if_pos hal] at hk
        by_cases g0 : ((cnt isDig s : Nat) : Int) = (s.length : Int)
        · rw [if_pos (by omega)] at hk
          by_cases g1 : (s.getD 0 0).toNat = 48
          · by_cases g2 : 1 < (s.length : Int)
            · rw [if_pos ⟨g1, by omega⟩] at hk
              repeat first
                | (refine hK _ ?_; clear hK K)
                | ((first | refine vm_reg (fun K hK => ?_) | refine vm_dreg (fun K hK => ?_) | refine vm_dregx (fun K hK => ?_)); simp (disch := (first | omega | assumption)) only [S1, ↓reduceIte, Nat.reduceEqDiff, Nat.reduceAdd, Nat.reduceMul, Nat.reduceDiv, AOp.sb, AOp.mut, frzf, ↓Bool.false_eq_true, beq_self_eq_true, ite_self, Nat.reduceLeDiff, Int.reduceEq, Int.reduceSub, Int.reduceAdd, Int.reduceNeg, Int.reduceLT, Int.reduceLE, Nat.reduceLT, bz_L4, g0, u8_48, g1, g2]; refine hK _ ?_; clear hK K)
                | simp only [Sv, ↓reduceIte, Nat.reduceEqDiff]
              simp (disch := (first | omega | assumption)) only [retOk, retN, ret1, retF, ret1F, V.okArg, and_true, true_and, S1, ↓reduceIte, Nat.reduceEqDiff, Nat.reduceAdd, Nat.reduceMul, Nat.reduceDiv, AOp.sb, AOp.mut, frzf, ↓Bool.false_eq_true, beq_self_eq_true, ite_self, Nat.reduceLeDiff, Int.reduceEq, Int.reduceSub, Int.reduceAdd, Int.reduceNeg, Int.reduceLT, Int.reduceLE, Nat.reduceLT, bz_L4, i_eq, hk]
            · rw [if_neg (by omega)] at hk
              repeat first
                | (refine hK _ ?_; clear hK K)
                | ((first | refine vm_reg (fun K hK => ?_) | refine vm_dreg (fun K hK => ?_) | refine vm_dregx (fun K hK => ?_)); simp (disch := (first | omega | assumption)) only [S1, ↓reduceIte, Nat.reduceEqDiff, Nat.reduceAdd, Nat.reduceMul, Nat.reduceDiv, AOp.sb, AOp.mut, frzf, ↓Bool.false_eq_true, beq_self_eq_true, ite_self, Nat.reduceLeDiff, Int.reduceEq, Int.reduceSub, Int.reduceAdd, Int.reduceNeg, Int.reduceLT, Int.reduceLE, Nat.reduceLT, bz_L4, g0, u8_48, g1, g2]; refine hK _ ?_; clear hK K)
                | simp only [Sv, ↓reduceIte, Nat.reduceEqDiff]
              simp (disch := (first | omega | assumption)) only [retOk, retN, ret1, retF, ret1F, V.okArg, and_true, true_and, S1, ↓reduceIte, Nat.reduceEqDiff, Nat.reduceAdd, Nat.reduceMul, Nat.reduceDiv, AOp.sb, AOp.mut, frzf, ↓Bool.false_eq_true, beq_self_eq_true, ite_self, Nat.reduceLeDiff, Int.reduceEq, Int.reduceSub, Int.reduceAdd, Int.reduceNeg, Int.reduceLT, Int.reduceLE, Nat.reduceLT, bz_L4, i_eq, hk]
          · rw [if_neg (by omega)] at hk
            repeat first
              | (refine hK _ ?_; clear hK K)
              | ((first | refine vm_reg (fun K hK => ?_) | refine vm_dreg (fun K hK => ?_) | refine vm_dregx (fun K hK => ?_)); simp (disch := (first | omega | assumption)) only [S1, ↓reduceIte, Nat.reduceEqDiff, Nat.reduceAdd, Nat.reduceMul, Nat.reduceDiv, AOp.sb, AOp.mut, frzf, ↓Bool.false_eq_true, beq_self_eq_true, ite_self, Nat.reduceLeDiff, Int.reduceEq, Int.reduceSub, Int.reduceAdd, Int.reduceNeg, Int.reduceLT, Int.reduceLE, Nat.reduceLT, bz_L4, g0, u8_48, g1]; refine hK _ ?_; clear hK K)
              | simp only [Sv, ↓reduceIte, Nat.reduceEqDiff]
            simp (disch := (first | omega | assumption)) only [retOk, retN, ret1, retF, ret1F, V.okArg, and_true, true_and, S1, ↓reduceIte, Nat.reduceEqDiff, Nat.reduceAdd, Nat.reduceMul, Nat.reduceDiv, AOp.sb, AOp.mut, frzf, ↓Bool.false_eq_true, beq_self_eq_true, ite_self, Nat.reduceLeDiff, Int.reduceEq, Int.reduceSub, Int.reduceAdd, Int.reduceNeg, Int.reduceLT, Int.reduceLE, Nat.reduceLT, bz_L4, i_eq, hk]
        · rw [if_neg (by omega)] at hk
          cases g3 : isDig (s.getD 0 0)
          · rw [g3, if_neg (by simp)] at hk
            by_cases c0' : ((cnt isCap s : Nat) : Int) = 0
            · rw [if_pos (by omega)] at hk
              repeat first
                | (refine hK _ ?_; clear hK K)
                | ((first | refine vm_reg (fun K hK => ?_) | refine vm_dreg (fun K hK => ?_) | refine vm_dregx (fun K hK => ?_)); simp (disch := (first | omega | assumption)) only [S1, ↓reduceIte, Nat.reduceEqDiff, Nat.reduceAdd, Nat.reduceMul, Nat.reduceDiv, AOp.sb, AOp.mut, frzf, ↓Bool.false_eq_true, beq_self_eq_true, ite_self, Nat.reduceLeDiff, Int.reduceEq, Int.reduceSub, Int.reduceAdd, Int.reduceNeg, Int.reduceLT, Int.reduceLE, Nat.reduceLT, bz_L4, g0]; refine hK _ ?_; clear hK K)
                | simp only [Sv, ↓reduceIte, Nat.reduceEqDiff]
              have zc43 := rdigit_spec (s.getD 0 0)
              repeat first | (refine hK _ ?_; clear hK K) | simp only [Sv, ↓reduceIte, Nat.reduceEqDiff] | ((first | refine vm_reg (fun K hK => ?_) | refine vm_dreg (fun K hK => ?_) | refine vm_dregx (fun K hK => ?_) | refine clp_q ?_ | refine clq_mk (by assumption) ?_ | refine mcq_q ?_ | (apply mcr_mk; assumption) | (apply ocr_mk; assumption)); simp (disch := (first | omega | assumption)) only [S1, ↓reduceIte, Nat.reduceEqDiff, Nat.reduceAdd, Nat.reduceMul, Nat.reduceDiv, AOp.sb, AOp.mut, frzf, ↓Bool.false_eq_true, beq_self_eq_true, ite_self, Nat.reduceLeDiff, Int.reduceEq, Int.reduceSub, Int.reduceAdd, Int.reduceNeg, Int.reduceLT, Int.reduceLE, Nat.reduceLT, bz_L4, g0, g3, c0'])
              simp (disch := (first | omega | assumption)) only [retOk, retN, ret1, retF, ret1F, V.okArg, and_true, true_and, S1, ↓reduceIte, Nat.reduceEqDiff, Nat.reduceAdd, Nat.reduceMul, Nat.reduceDiv, AOp.sb, AOp.mut, frzf, ↓Bool.false_eq_true, beq_self_eq_true, ite_self, Nat.reduceLeDiff, Int.reduceEq, Int.reduceSub, Int.reduceAdd, Int.reduceNeg, Int.reduceLT, Int.reduceLE, Nat.reduceLT, bz_L4, i_eq, hk]
            · rw [if_neg (by omega)] at hk
              by_cases c1' : ((cnt isCap s : Nat) : Int) = (s.length : Int)
              · rw [if_pos (by omega)] at hk
                repeat first
                  | (refine hK _ ?_; clear hK K)
                  | ((first | refine vm_reg (fun K hK => ?_) | refine vm_dreg (fun K hK => ?_) | refine vm_dregx (fun K hK => ?_)); simp (disch := (first | omega | assumption)) only [S1, ↓reduceIte, Nat.reduceEqDiff, Nat.reduceAdd, Nat.reduceMul, Nat.reduceDiv, AOp.sb, AOp.mut, frzf, ↓Bool.false_eq_true, beq_self_eq_true, ite_self, Nat.reduceLeDiff, Int.reduceEq, Int.reduceSub, Int.reduceAdd, Int.reduceNeg, Int.reduceLT, Int.reduceLE, Nat.reduceLT, bz_L4, g0]; refine hK _ ?_; clear hK K)
                  | simp only [Sv, ↓reduceIte, Nat.reduceEqDiff]
                have zc44 := rdigit_spec (s.getD 0 0)
                repeat first | (refine hK _ ?_; clear hK K) | simp only [Sv, ↓reduceIte, Nat.reduceEqDiff] | ((first | refine vm_reg (fun K hK => ?_) | refine vm_dreg (fun K hK => ?_) | refine vm_dregx (fun K hK => ?_) | refine clp_q ?_ | refine clq_mk (by assumption) ?_ | refine mcq_q ?_ | (apply mcr_mk; assumption) | (apply ocr_mk; assumption)); simp (disch := (first | omega | assumption)) only [S1, ↓reduceIte, Nat.reduceEqDiff, Nat.reduceAdd, Nat.reduceMul, Nat.reduceDiv, AOp.sb, AOp.mut, frzf, ↓Bool.false_eq_true, beq_self_eq_true, ite_self, Nat.reduceLeDiff, Int.reduceEq, Int.reduceSub, Int.reduceAdd, Int.reduceNeg, Int.reduceLT, Int.reduceLE, Nat.reduceLT, bz_L4, g0, g3, c0', c1', hp'])
                simp (disch := (first | omega | assumption)) only [retOk, retN, ret1, retF, ret1F, V.okArg, and_true, true_and, S1, ↓reduceIte, Nat.reduceEqDiff, Nat.reduceAdd, Nat.reduceMul, Nat.reduceDiv, AOp.sb, AOp.mut, frzf, ↓Bool.false_eq_true, beq_self_eq_true, ite_self, Nat.reduceLeDiff, Int.reduceEq, Int.reduceSub, Int.reduceAdd, Int.reduceNeg, Int.reduceLT, Int.reduceLE, Nat.reduceLT, bz_L4, i_eq, hk]
              · rw [if_neg (by omega)] at hk
                repeat first
                  | (refine hK _ ?_; clear hK K)
                  | ((first | refine vm_reg (fun K hK => ?_) | refine vm_dreg (fun K hK => ?_) | refine vm_dregx (fun K hK => ?_)); simp (disch := (first | omega | assumption)) only [S1, ↓reduceIte, Nat.reduceEqDiff, Nat.reduceAdd, Nat.reduceMul, Nat.reduceDiv, AOp.sb, AOp.mut, frzf, ↓Bool.false_eq_true, beq_self_eq_true, ite_self, Nat.reduceLeDiff, Int.reduceEq, Int.reduceSub, Int.reduceAdd, Int.reduceNeg, Int.reduceLT, Int.reduceLE, Nat.reduceLT, bz_L4, g0]; refine hK _ ?_; clear hK K)
                  | simp only [Sv, ↓reduceIte, Nat.reduceEqDiff]
                have zc45 := rdigit_spec (s.getD 0 0)
                repeat first | (refine hK _ ?_; clear hK K) | simp only [Sv, ↓reduceIte, Nat.reduceEqDiff] | ((first | refine vm_reg (fun K hK => ?_) | refine vm_dreg (fun K hK => ?_) | refine vm_dregx (fun K hK => ?_) | refine clp_q ?_ | refine clq_mk (by assumption) ?_ | refine mcq_q ?_ | (apply mcr_mk; assumption) | (apply ocr_mk; assumption)); simp (disch := (first | omega | assumption)) only [S1, ↓reduceIte, Nat.reduceEqDiff, Nat.reduceAdd, Nat.reduceMul, Nat.reduceDiv, AOp.sb, AOp.mut, frzf, ↓Bool.false_eq_true, beq_self_eq_true, ite_self, Nat.reduceLeDiff, Int.reduceEq, Int.reduceSub, Int.reduceAdd, Int.reduceNeg, Int.reduceLT, Int.reduceLE, Nat.reduceLT, bz_L4, g0, g3, c0', c1', hp'])
                simp (disch := (first | omega | assumption)) only [retOk, retN, ret1, retF, ret1F, V.okArg, and_true, true_and, S1, ↓reduceIte, Nat.reduceEqDiff, Nat.reduceAdd, Nat.reduceMul, Nat.reduceDiv, AOp.sb, AOp.mut, frzf, ↓Bool.false_eq_true, beq_self_eq_true, ite_self, Nat.reduceLeDiff, Int.reduceEq, Int.reduceSub, Int.reduceAdd, Int.reduceNeg, Int.reduceLT, Int.reduceLE, Nat.reduceLT, bz_L4, i_eq, hk]
          · rw [g3, if_pos rfl] at hk
            repeat first
              | (refine hK _ ?_; clear hK K)
              | ((first | refine vm_reg (fun K hK => ?_) | refine vm_dreg (fun K hK => ?_) | refine vm_dregx (fun K hK => ?_)); simp (disch := (first | omega | assumption)) only [S1, ↓reduceIte, Nat.reduceEqDiff, Nat.reduceAdd, Nat.reduceMul, Nat.reduceDiv, AOp.sb, AOp.mut, frzf, ↓Bool.false_eq_true, beq_self_eq_true, ite_self, Nat.reduceLeDiff, Int.reduceEq, Int.reduceSub, Int.reduceAdd, Int.reduceNeg, Int.reduceLT, Int.reduceLE, Nat.reduceLT, bz_L4, g0]; refine hK _ ?_; clear hK K)
              | simp only [Sv, ↓reduceIte, Nat.reduceEqDiff]
            have zc46 := rdigit_spec (s.getD 0 0)
            repeat first | (refine hK _ ?_; clear hK K) | simp only [Sv, ↓reduceIte, Nat.reduceEqDiff] | ((first | refine vm_reg (fun K hK => ?_) | refine vm_dreg (fun K hK => ?_) | refine vm_dregx (fun K hK => ?_) | refine clp_q ?_ | refine clq_mk (by assumption) ?_ | refine mcq_q ?_ | (apply mcr_mk; assumption) | (apply ocr_mk; assumption)); simp (disch := (first | omega | assumption)) only [S1, ↓reduceIte, Nat.reduceEqDiff, Nat.reduceAdd, Nat.reduceMul, Nat.reduceDiv, AOp.sb, AOp.mut, frzf, ↓Bool.false_eq_true, beq_self_eq_true, ite_self, Nat.reduceLeDiff, Int.reduceEq, Int.reduceSub, Int.reduceAdd, Int.reduceNeg, Int.reduceLT, Int.reduceLE, Nat.reduceLT, bz_L4, g0, g3])
            simp (disch := (first | omega | assumption)) only [retOk, retN, ret1, retF, ret1F, V.okArg, and_true, true_and, S1, ↓reduceIte, Nat.reduceEqDiff, Nat.reduceAdd, Nat.reduceMul, Nat.reduceDiv, AOp.sb, AOp.mut, frzf, ↓Bool.false_eq_true, beq_self_eq_true, ite_self, Nat.reduceLeDiff, Int.reduceEq, Int.reduceSub, Int.reduceAdd, Int.reduceNeg, Int.reduceLT, Int.reduceLE, Nat.reduceLT, bz_L4, i_eq, hk]
end Go.Proofs.Ytjfbkegdnljfjaa
