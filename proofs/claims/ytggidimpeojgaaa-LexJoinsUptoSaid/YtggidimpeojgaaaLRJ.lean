/-
  The document's joining; LexJoins, LexBack: the laws' walks.
-/
import Derived.Test.YtggidimpeojgaaaLJ
import Derived.Test.YtggidimpeojgaaaL6
namespace Go.Proofs.Ytggidimpeojgaaa
open Go Go.RowKit Ab
set_option linter.unusedSimpArgs false
set_option linter.unusedVariables false
set_option maxHeartbeats 10000000
theorem bz_LRJ : type_of% (And.intro @wi (And.intro @tn_nat (And.intro @T_len (And.intro @m3 (And.intro @T_nf (And.intro @T_cell (And.intro @T_k (And.intro @T_k' (And.intro @T_t (@T_a)))))))))) := And.intro @wi (And.intro @tn_nat (And.intro @T_len (And.intro @m3 (And.intro @T_nf (And.intro @T_cell (And.intro @T_k (And.intro @T_k' (And.intro @T_t (@T_a)))))))))
def a14 : AC := .seq (.reg [⟨some 2, none, .bx 40 (.t 0)⟩,
 ⟨some 3, none, .bx 40 (.t 1)⟩,
 ⟨some 4, none, .mv (.k (.b false))⟩])
 (.seq (.seq (.reg [⟨some 5, none, .fad 0 (.t 2)⟩,
 ⟨some 6, none, .ld false 1 (.t 5)⟩,
 ⟨some 7, none, .bin .eql (.t 6) (.k (.i .i64 1))⟩])
 (.cond (.t 7)
 (.seq (.reg [⟨some 8, none, .fad 0 (.t 3)⟩,
 ⟨some 9, none, .ld false 1 (.t 8)⟩,
 ⟨some 10, none, .bin .eql (.t 9) (.k (.i .i64 1))⟩,
 ⟨some 4, none, .mv (.t 10)⟩])
 (.ret))
 (.skip)))
 (.seq (.reg [⟨some 11, none, .fad 0 (.t 2)⟩,
 ⟨some 12, none, .ld false 1 (.t 11)⟩,
 ⟨some 13, none, .bin .neq (.t 12) (.k (.i .i64 5))⟩,
 ⟨some 14, none, .mv (.t 13)⟩,
 ⟨some 15, some (14, true), .fad 0 (.t 3)⟩,
 ⟨some 16, some (14, true), .ld false 1 (.t 15)⟩,
 ⟨some 17, some (14, true), .bin .neq (.t 16) (.k (.i .i64 5))⟩,
 ⟨some 18, none, .pick (.t 14) (.t 17) (.k (.b false))⟩,
 ⟨some 4, none, .mv (.t 18)⟩])
 (.ret)))
theorem rgap_spec (a b : Tk) : AFun Try.prog J0 14 [.g (Tv a), .g (Tv b)] (.b (if a.k = 1 then decide (b.k = 1) else decide (a.k ≠ 5 ∧ b.k ≠ 5))) := by
  by_cases h1 : a.k = 1
  · rw [if_pos h1]
    refine AFun.mk fol J0s Try.func14 rfl (ac := a14) (by kernel_rfl) rfl rfl rfl ?_
    apply vm_start
    unfold a14
    simp only [init_eq, initE]
    repeat first | (refine hK _ ?_; clear hK K) | simp only [Sv, ↓reduceIte, Nat.reduceEqDiff] | ((first | refine vm_reg (fun K hK => ?_) | refine vm_dreg (fun K hK => ?_) | refine vm_dregx (fun K hK => ?_)); simp (disch := (first | omega | assumption)) only [S1, ↓reduceIte, Nat.reduceEqDiff, Nat.reduceAdd, Nat.reduceMul, Nat.reduceDiv, AOp.sb, AOp.mut, frzf, ↓Bool.false_eq_true, beq_self_eq_true, ite_self, Nat.reduceLeDiff, Int.reduceEq, Int.reduceSub, Int.reduceAdd, Int.reduceNeg, Int.reduceLT, Int.reduceLE, Nat.reduceLT, bz_LRJ, h1, Tv])
    simp (disch := (first | omega | assumption)) only [retOk, retN, ret1, retF, ret1F, V.okArg, and_true, true_and, S1, ↓reduceIte, Nat.reduceEqDiff, Nat.reduceAdd, Nat.reduceMul, Nat.reduceDiv, AOp.sb, AOp.mut, frzf, ↓Bool.false_eq_true, beq_self_eq_true, ite_self, Nat.reduceLeDiff, Int.reduceEq, Int.reduceSub, Int.reduceAdd, Int.reduceNeg, Int.reduceLT, Int.reduceLE, Nat.reduceLT, bz_LRJ, h1, Tv]
  · rw [if_neg h1]
    by_cases h2 : a.k = 5
    · rw [decide_eq_false (fun h => h.1 h2)]
      refine AFun.mk fol J0s Try.func14 rfl (ac := a14) (by kernel_rfl) rfl rfl rfl ?_
      apply vm_start
      unfold a14
      simp only [init_eq, initE]
      repeat first | (refine hK _ ?_; clear hK K) | simp only [Sv, ↓reduceIte, Nat.reduceEqDiff] | ((first | refine vm_reg (fun K hK => ?_) | refine vm_dreg (fun K hK => ?_) | refine vm_dregx (fun K hK => ?_)); simp (disch := (first | omega | assumption)) only [S1, ↓reduceIte, Nat.reduceEqDiff, Nat.reduceAdd, Nat.reduceMul, Nat.reduceDiv, AOp.sb, AOp.mut, frzf, ↓Bool.false_eq_true, beq_self_eq_true, ite_self, Nat.reduceLeDiff, Int.reduceEq, Int.reduceSub, Int.reduceAdd, Int.reduceNeg, Int.reduceLT, Int.reduceLE, Nat.reduceLT, bz_LRJ, h1, h2, Tv])
      simp (disch := (first | omega | assumption)) only [retOk, retN, ret1, retF, ret1F, V.okArg, and_true, true_and, S1, ↓reduceIte, Nat.reduceEqDiff, Nat.reduceAdd, Nat.reduceMul, Nat.reduceDiv, AOp.sb, AOp.mut, frzf, ↓Bool.false_eq_true, beq_self_eq_true, ite_self, Nat.reduceLeDiff, Int.reduceEq, Int.reduceSub, Int.reduceAdd, Int.reduceNeg, Int.reduceLT, Int.reduceLE, Nat.reduceLT, bz_LRJ, h1, h2, Tv]
    · by_cases h3 : b.k = 5
      · rw [decide_eq_false (fun h => h.2 h3)]
        refine AFun.mk fol J0s Try.func14 rfl (ac := a14) (by kernel_rfl) rfl rfl rfl ?_
        apply vm_start
        unfold a14
        simp only [init_eq, initE]
        repeat first | (refine hK _ ?_; clear hK K) | simp only [Sv, ↓reduceIte, Nat.reduceEqDiff] | ((first | refine vm_reg (fun K hK => ?_) | refine vm_dreg (fun K hK => ?_) | refine vm_dregx (fun K hK => ?_)); simp (disch := (first | omega | assumption)) only [S1, ↓reduceIte, Nat.reduceEqDiff, Nat.reduceAdd, Nat.reduceMul, Nat.reduceDiv, AOp.sb, AOp.mut, frzf, ↓Bool.false_eq_true, beq_self_eq_true, ite_self, Nat.reduceLeDiff, Int.reduceEq, Int.reduceSub, Int.reduceAdd, Int.reduceNeg, Int.reduceLT, Int.reduceLE, Nat.reduceLT, bz_LRJ, h1, h2, h3, Tv])
        simp (disch := (first | omega | assumption)) only [retOk, retN, ret1, retF, ret1F, V.okArg, and_true, true_and, S1, ↓reduceIte, Nat.reduceEqDiff, Nat.reduceAdd, Nat.reduceMul, Nat.reduceDiv, AOp.sb, AOp.mut, frzf, ↓Bool.false_eq_true, beq_self_eq_true, ite_self, Nat.reduceLeDiff, Int.reduceEq, Int.reduceSub, Int.reduceAdd, Int.reduceNeg, Int.reduceLT, Int.reduceLE, Nat.reduceLT, bz_LRJ, h1, h2, h3, Tv]
      · rw [decide_eq_true ⟨h2, h3⟩]
        refine AFun.mk fol J0s Try.func14 rfl (ac := a14) (by kernel_rfl) rfl rfl rfl ?_
        apply vm_start
        unfold a14
        simp only [init_eq, initE]
        repeat first | (refine hK _ ?_; clear hK K) | simp only [Sv, ↓reduceIte, Nat.reduceEqDiff] | ((first | refine vm_reg (fun K hK => ?_) | refine vm_dreg (fun K hK => ?_) | refine vm_dregx (fun K hK => ?_)); simp (disch := (first | omega | assumption)) only [S1, ↓reduceIte, Nat.reduceEqDiff, Nat.reduceAdd, Nat.reduceMul, Nat.reduceDiv, AOp.sb, AOp.mut, frzf, ↓Bool.false_eq_true, beq_self_eq_true, ite_self, Nat.reduceLeDiff, Int.reduceEq, Int.reduceSub, Int.reduceAdd, Int.reduceNeg, Int.reduceLT, Int.reduceLE, Nat.reduceLT, bz_LRJ, h1, h2, h3, Tv])
        simp (disch := (first | omega | assumption)) only [retOk, retN, ret1, retF, ret1F, V.okArg, and_true, true_and, S1, ↓reduceIte, Nat.reduceEqDiff, Nat.reduceAdd, Nat.reduceMul, Nat.reduceDiv, AOp.sb, AOp.mut, frzf, ↓Bool.false_eq_true, beq_self_eq_true, ite_self, Nat.reduceLeDiff, Int.reduceEq, Int.reduceSub, Int.reduceAdd, Int.reduceNeg, Int.reduceLT, Int.reduceLE, Nat.reduceLT, bz_LRJ, h1, h2, h3, Tv]
theorem kind_le (s : List UInt8) : kind s ≤ 5 := by
  unfold kind
  split <;> (try omega)
  split <;> (try split) <;> (try split) <;> (try split) <;> omega
theorem gap_eq {a b : Tk} (h : okT a = true) : (if a.k = 1 then decide (b.k = 1) else decide (a.k ≠ 5 ∧ b.k ≠ 5)) = gapV a b := by
  obtain ⟨h1, h2⟩ := of_decide_eq_true h
  have h3 := kind_le a.t
  unfold gapV
  by_cases e1 : a.k = 1
  · rw [if_pos e1, if_pos e1]
  · rw [if_neg e1, if_neg e1]
    by_cases e2 : a.k = 5
    · rw [if_neg (by omega), decide_eq_false (fun h => h.1 e2)]
    · rw [if_pos (by omega)]
      exact decide_eq_decide.2 ⟨fun h => h.2, fun h => ⟨e2, h⟩⟩
theorem Bt_app (a b : List UInt8) : Bt a ++ Bt b = Bt (a ++ b) := by simp [Bt]
theorem Bt_32 (a : List UInt8) : Bt a ++ [V.i .u8 32] = Bt (a ++ [32]) := by simp [Bt]
theorem T_row3 (ts : List Tk) (i : Nat) (h : i < ts.length) : ((T ts).drop (i * 3)).take 3 = Tv (ts.getD i default) := T_row ts i h
def a6 : AC := .seq (.reg [⟨some 2, none, .mv (.k (.s []))⟩,
 ⟨some 3, none, .mv (.k (.i .i64 0))⟩])
 (.seq (.seq (.reg [⟨some 4, none, .mv (.k (.i .i64 0))⟩])
 (.blk 0
 (.loop
 (.seq (.seq (.reg [⟨some 7, none, .mv (.t 4)⟩,
 ⟨some 8, none, .mv (.t 0)⟩,
 ⟨some 9, none, .len (.t 8)⟩,
 ⟨some 10, none, .bin .lss (.t 7) (.t 9)⟩])
 (.cond (.t 10)
 (.skip)
 (.exit 0)))
 (.seq (.blk 1
 (.seq (.dreg [⟨some 13, none, .mv (.t 0)⟩,
 ⟨some 14, none, .mv (.t 4)⟩,
 ⟨some 15, none, .idx 3 (.t 13) (.t 14)⟩,
 ⟨some 16, none, .fad 0 (.t 15)⟩,
 ⟨some 17, none, .ld false 1 (.t 16)⟩,
 ⟨some 18, none, .bin .eql (.t 17) (.k (.i .i64 0))⟩,
 ⟨some 19, none, .mv (.t 18)⟩,
 ⟨some 20, some (19, false), .mv (.t 0)⟩,
 ⟨some 21, some (19, false), .mv (.t 4)⟩,
 ⟨some 22, some (19, false), .idx 3 (.t 20) (.t 21)⟩,
 ⟨some 23, some (19, false), .fad 0 (.t 22)⟩,
 ⟨some 24, some (19, false), .ld false 1 (.t 23)⟩,
 ⟨some 25, some (19, false), .mv (.t 0)⟩,
 ⟨some 26, some (19, false), .mv (.t 4)⟩,
 ⟨some 27, some (19, false), .idx 3 (.t 25) (.t 26)⟩,
 ⟨some 28, some (19, false), .fad 1 (.t 27)⟩,
 ⟨some 29, some (19, false), .ld false 1 (.t 28)⟩,
 ⟨some 30, some (19, false), .call 13 [(1, (.t 29))]⟩,
 ⟨some 31, some (19, false), .bin .neq (.t 24) (.t 30)⟩,
 ⟨some 32, none, .pick (.t 19) (.k (.b true)) (.t 31)⟩])
 (.cond (.t 32)
 (.seq (.reg [⟨some 2, none, .mv (.k (.s []))⟩,
 ⟨some 3, none, .mv (.k (.i .i64 5))⟩])
 (.ret))
 (.skip))))
 (.reg [⟨some 11, none, .mv (.t 4)⟩,
 ⟨some 12, none, .bin .add (.t 11) (.k (.i .i64 1))⟩,
 ⟨some 4, none, .mv (.t 12)⟩]))))))
 (.seq (.reg [⟨some 5, none, .mv (.k .nl)⟩])
 (.seq (.seq (.reg [⟨some 6, none, .mv (.k (.i .i64 0))⟩])
 (.blk 2
 (.loop
 (.seq (.seq (.reg [⟨some 33, none, .mv (.t 6)⟩,
 ⟨some 34, none, .mv (.t 0)⟩,
 ⟨some 35, none, .len (.t 34)⟩,
 ⟨some 36, none, .bin .lss (.t 33) (.t 35)⟩])
 (.cond (.t 36)
 (.skip)
 (.exit 2)))
 (.seq (.blk 3
 (.seq (.seq (.dreg [⟨some 39, none, .mv (.t 6)⟩,
 ⟨some 40, none, .bin .gtr (.t 39) (.k (.i .i64 0))⟩,
 ⟨some 41, none, .mv (.t 40)⟩,
 ⟨some 42, some (41, true), .mv (.t 0)⟩,
 ⟨some 43, some (41, true), .mv (.t 6)⟩,
 ⟨some 44, some (41, true), .bin .sub (.t 43) (.k (.i .i64 1))⟩,
 ⟨some 45, some (41, true), .idx 3 (.t 42) (.t 44)⟩,
 ⟨some 46, some (41, true), .ld true 3 (.t 45)⟩,
 ⟨some 47, some (41, true), .mv (.t 0)⟩,
 ⟨some 48, some (41, true), .mv (.t 6)⟩,
 ⟨some 49, some (41, true), .idx 3 (.t 47) (.t 48)⟩,
 ⟨some 50, some (41, true), .ld true 3 (.t 49)⟩,
 ⟨some 51, some (41, true), .call 14 [(1, (.t 46)), (1, (.t 50))]⟩,
 ⟨some 52, none, .pick (.t 41) (.t 51) (.k (.b false))⟩])
 (.cond (.t 52)
 (.reg [⟨some 53, none, .mv (.t 5)⟩,
 ⟨some 54, none, .bsl 5 1 1 [(.i .u8 0)] [(0, (.k (.i .u8 32)))]⟩,
 ⟨some 55, none, .app 5 1 1 (.t 53) (.t 54)⟩,
 ⟨some 5, none, .mv (.t 55)⟩])
 (.skip)))
 (.reg [⟨some 56, none, .mv (.t 5)⟩,
 ⟨some 57, none, .mv (.t 0)⟩,
 ⟨some 58, none, .mv (.t 6)⟩,
 ⟨some 59, none, .idx 3 (.t 57) (.t 58)⟩,
 ⟨some 60, none, .fad 1 (.t 59)⟩,
 ⟨some 61, none, .ld false 1 (.t 60)⟩,
 ⟨some 62, none, .apps 5 (.t 56) (.t 61)⟩,
 ⟨some 5, none, .mv (.t 62)⟩])))
 (.reg [⟨some 37, none, .mv (.t 6)⟩,
 ⟨some 38, none, .bin .add (.t 37) (.k (.i .i64 1))⟩,
 ⟨some 6, none, .mv (.t 38)⟩]))))))
 (.seq (.seq (.reg [⟨some 63, none, .mv (.t 5)⟩,
 ⟨some 64, none, .len (.t 63)⟩,
 ⟨some 65, none, .bin .gtr (.t 64) (.k (.i .i64 1000))⟩])
 (.cond (.t 65)
 (.seq (.reg [⟨some 2, none, .mv (.k (.s []))⟩,
 ⟨some 3, none, .mv (.k (.i .i64 11))⟩])
 (.ret))
 (.skip)))
 (.seq (.reg [⟨some 66, none, .mv (.t 5)⟩,
 ⟨some 67, none, .pur .b2s [(.t 66)]⟩,
 ⟨some 2, none, .mv (.t 67)⟩,
 ⟨some 3, none, .mv (.k (.i .i64 0))⟩])
 (.ret))))))
theorem rjoin_spec (ts : List Tk) (hl : ts.length ≤ 2000000) (hb : tot ts ≤ 1000000000) : AFun Try.prog J0 6 [.l 3 (T ts)] (.t [.s (jnR ts).1, .i .i64 (jnR ts).2]) := by
  have kT := T_len ts
  refine AFun.mk fol J0s Try.func6 rfl (ac := a6) (by kernel_rfl) rfl rfl rfl ?_
  apply vm_start
  unfold a6
  simp only [init_eq, initE]
  repeat first
    | (refine hK _ ?_; clear hK K)
    | ((first | refine vm_reg (fun K hK => ?_) | refine vm_dreg (fun K hK => ?_) | refine vm_dregx (fun K hK => ?_)); simp (disch := (first | omega | assumption)) only [S1, ↓reduceIte, Nat.reduceEqDiff, Nat.reduceAdd, Nat.reduceMul, Nat.reduceDiv, AOp.sb, AOp.mut, frzf, ↓Bool.false_eq_true, beq_self_eq_true, ite_self, Nat.reduceLeDiff, Int.reduceEq, Int.reduceSub, Int.reduceAdd, Int.reduceNeg, Int.reduceLT, Int.reduceLE, Nat.reduceLT, bz_LRJ]; refine hK _ ?_; clear hK K)
    | simp only [Sv, ↓reduceIte, Nat.reduceEqDiff]
  refine vm_loopA [] Nat (fun i => ⟨[(0, .l 3 (T ts)), (4, .i .i64 (i : Int))], [], 0⟩) (fun i => i ≤ ts.length ∧ ∀ j, j < i → okT (ts.getD j default) = true) (fun i => ts.length - i) 0 ⟨Nat.zero_le _, fun j hj => by omega⟩ (by simp (disch := (first | omega | assumption)) only [Sl, Sa, Sw, ↓reduceIte, Nat.reduceEqDiff, Nat.reduceLT, List.all_nil, List.all_cons, Nat.reduceBneDiff, Nat.reduceAdd, bne_iff_ne, ne_eq, reduceCtorEq, not_false_eq_true, not_true_eq_false, Bool.and_true, Bool.true_and, and_true, true_and, and_self]) (by
    simp (disch := (first | omega | assumption)) only [Sl, Sa, Sw, ↓reduceIte, Nat.reduceEqDiff, Nat.reduceLT, List.all_nil, List.all_cons, Nat.reduceBneDiff, Nat.reduceAdd, bne_iff_ne, ne_eq, reduceCtorEq, not_false_eq_true, not_true_eq_false, Bool.and_true, Bool.true_and, and_true, true_and, and_self, i_eq]
    repeat' first | rfl | omega | (simp only [List.length_append, List.length_cons, List.length_nil]; done) | apply And.intro) ?_
  rintro i ⟨hi, hok⟩ Q' hQ he hr
  by_cases hlt : (i : Int) < (ts.length : Int)
  · have g1 := T_k ts i (by omega)
    have g2 := T_t ts i (by omega)
    have c1 := rKind_spec (ts.getD i default).t (by have := tot_get ts i (by omega); omega)
    have w1 : IntKind.i64.wrap ((i : Int) + 1) = ((i + 1 : Nat) : Int) := by rw [wi (by omega)]; rfl
    cases hx : okT (ts.getD i default)
    · have e : jnR ts = ([], 5) := by unfold jnR; rw [okT_not (by omega) hx]; rfl
      have hx2 := of_decide_eq_false hx
      generalize ts.getD i default = x at *
      by_cases h1 : x.k = 0
      · repeat first
          | (refine hK _ ?_; clear hK K)
          | ((first | refine vm_reg (fun K hK => ?_) | refine vm_dreg (fun K hK => ?_) | refine vm_dregx (fun K hK => ?_)); simp (disch := (first | omega | assumption)) only [S1, ↓reduceIte, Nat.reduceEqDiff, Nat.reduceAdd, Nat.reduceMul, Nat.reduceDiv, AOp.sb, AOp.mut, frzf, ↓Bool.false_eq_true, beq_self_eq_true, ite_self, Nat.reduceLeDiff, Int.reduceEq, Int.reduceSub, Int.reduceAdd, Int.reduceNeg, Int.reduceLT, Int.reduceLE, Nat.reduceLT, bz_LRJ, hlt, g1, g2, h1]; refine hK _ ?_; clear hK K)
          | simp only [Sv, ↓reduceIte, Nat.reduceEqDiff]
        refine hr _ ?_
        simp (disch := (first | omega | assumption)) only [retOk, retN, ret1, retF, ret1F, V.okArg, and_true, true_and, S1, ↓reduceIte, Nat.reduceEqDiff, Nat.reduceAdd, Nat.reduceMul, Nat.reduceDiv, AOp.sb, AOp.mut, frzf, ↓Bool.false_eq_true, beq_self_eq_true, ite_self, Nat.reduceLeDiff, Int.reduceEq, Int.reduceSub, Int.reduceAdd, Int.reduceNeg, Int.reduceLT, Int.reduceLE, Nat.reduceLT, bz_LRJ]
        rw [e]; exact ⟨rfl, rfl⟩
      · have h2 : ¬ x.k = (kind x.t : Int) := fun h => hx2 ⟨h1, h⟩
        have zc1 := c1
        repeat first | (refine hK _ ?_; clear hK K) | simp only [Sv, ↓reduceIte, Nat.reduceEqDiff] | ((first | refine vm_reg (fun K hK => ?_) | refine vm_dreg (fun K hK => ?_) | refine vm_dregx (fun K hK => ?_) | refine clp_q ?_ | refine clq_mk (by assumption) ?_ | refine mcq_q ?_ | (apply mcr_mk; assumption)); simp (disch := (first | omega | assumption)) only [S1, ↓reduceIte, Nat.reduceEqDiff, Nat.reduceAdd, Nat.reduceMul, Nat.reduceDiv, AOp.sb, AOp.mut, frzf, ↓Bool.false_eq_true, beq_self_eq_true, ite_self, Nat.reduceLeDiff, Int.reduceEq, Int.reduceSub, Int.reduceAdd, Int.reduceNeg, Int.reduceLT, Int.reduceLE, Nat.reduceLT, bz_LRJ, hlt, g1, g2, h1, h2])
        refine hr _ ?_
        simp (disch := (first | omega | assumption)) only [retOk, retN, ret1, retF, ret1F, V.okArg, and_true, true_and, S1, ↓reduceIte, Nat.reduceEqDiff, Nat.reduceAdd, Nat.reduceMul, Nat.reduceDiv, AOp.sb, AOp.mut, frzf, ↓Bool.false_eq_true, beq_self_eq_true, ite_self, Nat.reduceLeDiff, Int.reduceEq, Int.reduceSub, Int.reduceAdd, Int.reduceNeg, Int.reduceLT, Int.reduceLE, Nat.reduceLT, bz_LRJ]
        rw [e]; exact ⟨rfl, rfl⟩
    · obtain ⟨h1, h2⟩ := of_decide_eq_true hx
      have hok' : ∀ j, j < i + 1 → okT (ts.getD j default) = true := fun j hj => by
        rcases Nat.lt_or_ge j i with h9 | h9
        · exact hok j h9
        · rw [show j = i from by omega]; exact hx
      generalize ts.getD i default = x at *
      have h3 : ¬ (kind x.t : Int) = 0 := fun h => h1 (h2.trans h)
      have zc2 := c1
      repeat first | (refine hK _ ?_; clear hK K) | simp only [Sv, ↓reduceIte, Nat.reduceEqDiff] | ((first | refine vm_reg (fun K hK => ?_) | refine vm_dreg (fun K hK => ?_) | refine vm_dregx (fun K hK => ?_) | refine clp_q ?_ | refine clq_mk (by assumption) ?_ | refine mcq_q ?_ | (apply mcr_mk; assumption)); simp (disch := (first | omega | assumption)) only [S1, ↓reduceIte, Nat.reduceEqDiff, Nat.reduceAdd, Nat.reduceMul, Nat.reduceDiv, AOp.sb, AOp.mut, frzf, ↓Bool.false_eq_true, beq_self_eq_true, ite_self, Nat.reduceLeDiff, Int.reduceEq, Int.reduceSub, Int.reduceAdd, Int.reduceNeg, Int.reduceLT, Int.reduceLE, Nat.reduceLT, bz_LRJ, hlt, g1, g2, h2, h3, eq_self, w1])
      refine hQ _ (i + 1) ⟨by omega, hok'⟩ (by omega) ?_
      simp (disch := (first | omega | assumption)) only [Sl, Sa, Sw, ↓reduceIte, Nat.reduceEqDiff, Nat.reduceLT, List.all_nil, List.all_cons, Nat.reduceBneDiff, Nat.reduceAdd, bne_iff_ne, ne_eq, reduceCtorEq, not_false_eq_true, not_true_eq_false, Bool.and_true, Bool.true_and, and_true, true_and, and_self, i_eq]
      repeat' first | rfl | omega | (simp only [List.length_append, List.length_cons, List.length_nil]; done) | apply And.intro
  · obtain rfl : i = ts.length := by omega
    have hall := okT_all hok
    repeat first
      | (refine hK _ ?_; clear hK K)
      | ((first | refine vm_reg (fun K hK => ?_) | refine vm_dreg (fun K hK => ?_) | refine vm_dregx (fun K hK => ?_)); simp (disch := (first | omega | assumption)) only [S1, ↓reduceIte, Nat.reduceEqDiff, Nat.reduceAdd, Nat.reduceMul, Nat.reduceDiv, AOp.sb, AOp.mut, frzf, ↓Bool.false_eq_true, beq_self_eq_true, ite_self, Nat.reduceLeDiff, Int.reduceEq, Int.reduceSub, Int.reduceAdd, Int.reduceNeg, Int.reduceLT, Int.reduceLE, Nat.reduceLT, bz_LRJ, hlt]; refine hK _ ?_; clear hK K)
      | simp only [Sv, ↓reduceIte, Nat.reduceEqDiff]
    refine he _ _ ?_
    repeat first
      | (refine hK _ ?_; clear hK K)
      | ((first | refine vm_reg (fun K hK => ?_) | refine vm_dreg (fun K hK => ?_) | refine vm_dregx (fun K hK => ?_)); simp (disch := (first | omega | assumption)) only [S1, ↓reduceIte, Nat.reduceEqDiff, Nat.reduceAdd, Nat.reduceMul, Nat.reduceDiv, AOp.sb, AOp.mut, frzf, ↓Bool.false_eq_true, beq_self_eq_true, ite_self, Nat.reduceLeDiff, Int.reduceEq, Int.reduceSub, Int.reduceAdd, Int.reduceNeg, Int.reduceLT, Int.reduceLE, Nat.reduceLT, bz_LRJ]; refine hK _ ?_; clear hK K)
      | simp only [Sv, ↓reduceIte, Nat.reduceEqDiff]
    clear hQ he hr hlt hi
    refine vm_loopA [(5, 5, 1)] Nat (fun i => ⟨[(0, .l 3 (T ts)), (5, .ow 1 0 (jn ts i).length), (6, .i .i64 (i : Int))], [(0, some ⟨5, 1, Bt (jn ts i), true, false⟩)], 1⟩) (fun i => i ≤ ts.length) (fun i => ts.length - i) 0 (Nat.zero_le _) (by simp (disch := (first | omega | assumption)) only [Sl, Sa, Sw, ↓reduceIte, Nat.reduceEqDiff, Nat.reduceLT, List.all_nil, List.all_cons, Nat.reduceBneDiff, Nat.reduceAdd, bne_iff_ne, ne_eq, reduceCtorEq, not_false_eq_true, not_true_eq_false, Bool.and_true, Bool.true_and, and_true, true_and, and_self]) (by
      simp (disch := (first | omega | assumption)) only [Sl, Sa, Sw, ↓reduceIte, Nat.reduceEqDiff, Nat.reduceLT, List.all_nil, List.all_cons, Nat.reduceBneDiff, Nat.reduceAdd, bne_iff_ne, ne_eq, reduceCtorEq, not_false_eq_true, not_true_eq_false, Bool.and_true, Bool.true_and, and_true, true_and, and_self, i_eq]
      repeat' first | rfl | omega | (simp only [List.length_append, List.length_cons, List.length_nil]; done) | apply And.intro) ?_
    intro i hi Q' hQ he hr
    have hjl := jn_len ts i hi
    have htl := tot_le ts i
    have lB : (Bt (jn ts i)).length = (jn ts i).length := by simp [Bt]
    by_cases hlt : (i : Int) < (ts.length : Int)
    · have g2 := T_t ts i (by omega)
      have g3 := T_row3 ts i (by omega)
      have w1 : IntKind.i64.wrap ((i : Int) + 1) = ((i + 1 : Nat) : Int) := by rw [wi (by omega)]; rfl
      have htx := tot_get ts i (by omega)
      have ej : jn ts (i + 1) = jn ts i ++ (if 0 < i ∧ gapV (ts.getD (i - 1) default) (ts.getD i default) = true then [32] else []) ++ (ts.getD i default).t := rfl
      by_cases h0 : 0 < (i : Int)
      · have g4 := T_row3 ts (i - 1) (by omega)
        have e1 : ((i : Int) - 1).toNat = i - 1 := by omega
        have w2 : IntKind.i64.wrap ((i : Int) - 1) = (i : Int) - 1 := wi (by omega)
        have c2 := rgap_spec (ts.getD (i - 1) default) (ts.getD i default)
        rw [gap_eq (hok (i - 1) (by omega))] at c2
        cases hg : gapV (ts.getD (i - 1) default) (ts.getD i default)
        · rw [hg] at c2 ej
          rw [if_neg (by simp), List.append_nil] at ej
          have b1 := Bt_app (jn ts i) (ts.getD i default).t
          rw [← ej] at b1
          have l1 : (jn ts i).length + (ts.getD i default).t.length = (jn ts (i + 1)).length := by rw [ej, List.length_append]
          generalize ts.getD (i - 1) default = p at *
          generalize ts.getD i default = x at *
          have zc3 := c2
          repeat first | (refine hK _ ?_; clear hK K) | simp only [Sv, ↓reduceIte, Nat.reduceEqDiff] | ((first | refine vm_reg (fun K hK => ?_) | refine vm_dreg (fun K hK => ?_) | refine vm_dregx (fun K hK => ?_) | refine clp_q ?_ | refine clq_mk (by assumption) ?_ | refine mcq_q ?_ | (apply mcr_mk; assumption)); simp (disch := (first | omega | assumption)) only [S1, ↓reduceIte, Nat.reduceEqDiff, Nat.reduceAdd, Nat.reduceMul, Nat.reduceDiv, AOp.sb, AOp.mut, frzf, ↓Bool.false_eq_true, beq_self_eq_true, ite_self, Nat.reduceLeDiff, Int.reduceEq, Int.reduceSub, Int.reduceAdd, Int.reduceNeg, Int.reduceLT, Int.reduceLE, Nat.reduceLT, bz_LRJ, hlt, h0, e1, w2, g3, g4, g2, w1, b1, l1])
          refine hQ _ (i + 1) (by omega) (by omega) ?_
          simp (disch := (first | omega | assumption)) only [Sl, Sa, Sw, ↓reduceIte, Nat.reduceEqDiff, Nat.reduceLT, List.all_nil, List.all_cons, Nat.reduceBneDiff, Nat.reduceAdd, bne_iff_ne, ne_eq, reduceCtorEq, not_false_eq_true, not_true_eq_false, Bool.and_true, Bool.true_and, and_true, true_and, and_self, i_eq]
          repeat' first | rfl | omega | (simp only [List.length_append, List.length_cons, List.length_nil]; done) | apply And.intro
        · rw [hg] at c2 ej
          rw [if_pos ⟨by omega, rfl⟩] at ej
          have b0 := Bt_32 (jn ts i)
          have b1 := Bt_app (jn ts i ++ [32]) (ts.getD i default).t
          rw [← ej] at b1
          have l1 : (jn ts i).length + 1 + (ts.getD i default).t.length = (jn ts (i + 1)).length := by rw [ej, List.length_append, List.length_append]; rfl
          generalize ts.getD (i - 1) default = p at *
          generalize ts.getD i default = x at *
          have zc4 := c2
          repeat first | (refine hK _ ?_; clear hK K) | simp only [Sv, ↓reduceIte, Nat.reduceEqDiff] | ((first | refine vm_reg (fun K hK => ?_) | refine vm_dreg (fun K hK => ?_) | refine vm_dregx (fun K hK => ?_) | refine clp_q ?_ | refine clq_mk (by assumption) ?_ | refine mcq_q ?_ | (apply mcr_mk; assumption)); simp (disch := (first | omega | assumption)) only [S1, ↓reduceIte, Nat.reduceEqDiff, Nat.reduceAdd, Nat.reduceMul, Nat.reduceDiv, AOp.sb, AOp.mut, frzf, ↓Bool.false_eq_true, beq_self_eq_true, ite_self, Nat.reduceLeDiff, Int.reduceEq, Int.reduceSub, Int.reduceAdd, Int.reduceNeg, Int.reduceLT, Int.reduceLE, Nat.reduceLT, bz_LRJ, hlt, h0, e1, w2, g3, g4, g2, w1, b0, b1, l1])
          refine hQ _ (i + 1) (by omega) (by omega) ?_
          simp (disch := (first | omega | assumption)) only [Sl, Sa, Sw, ↓reduceIte, Nat.reduceEqDiff, Nat.reduceLT, List.all_nil, List.all_cons, Nat.reduceBneDiff, Nat.reduceAdd, bne_iff_ne, ne_eq, reduceCtorEq, not_false_eq_true, not_true_eq_false, Bool.and_true, Bool.true_and, and_true, true_and, and_self, i_eq]
          repeat' first | rfl | omega | (simp only [List.length_append, List.length_cons, List.length_nil]; done) | apply And.intro
      · rw [if_neg (by omega), List.append_nil] at ej
        have b1 := Bt_app (jn ts i) (ts.getD i default).t
        rw [← ej] at b1
        have l1 : (jn ts i).length + (ts.getD i default).t.length = (jn ts (i + 1)).length := by rw [ej, List.length_append]
        generalize ts.getD i default = x at *
        repeat first
          | (refine hK _ ?_; clear hK K)
          | ((first | refine vm_reg (fun K hK => ?_) | refine vm_dreg (fun K hK => ?_) | refine vm_dregx (fun K hK => ?_)); simp (disch := (first | omega | assumption)) only [S1, ↓reduceIte, Nat.reduceEqDiff, Nat.reduceAdd, Nat.reduceMul, Nat.reduceDiv, AOp.sb, AOp.mut, frzf, ↓Bool.false_eq_true, beq_self_eq_true, ite_self, Nat.reduceLeDiff, Int.reduceEq, Int.reduceSub, Int.reduceAdd, Int.reduceNeg, Int.reduceLT, Int.reduceLE, Nat.reduceLT, bz_LRJ, hlt, h0, g2, w1, b1, l1]; refine hK _ ?_; clear hK K)
          | simp only [Sv, ↓reduceIte, Nat.reduceEqDiff]
        refine hQ _ (i + 1) (by omega) (by omega) ?_
        simp (disch := (first | omega | assumption)) only [Sl, Sa, Sw, ↓reduceIte, Nat.reduceEqDiff, Nat.reduceLT, List.all_nil, List.all_cons, Nat.reduceBneDiff, Nat.reduceAdd, bne_iff_ne, ne_eq, reduceCtorEq, not_false_eq_true, not_true_eq_false, Bool.and_true, Bool.true_and, and_true, true_and, and_self, i_eq]
        repeat' first | rfl | omega | (simp only [List.length_append, List.length_cons, List.length_nil]; done) | apply And.intro
    · obtain rfl : i = ts.length := by omega
      by_cases hlen : 1000 < ((jn ts ts.length).length : Int)
      · have e : jnR ts = ([], 11) := by unfold jnR; rw [hall, if_pos rfl, if_pos (by omega)]
        repeat first
          | (refine hK _ ?_; clear hK K)
          | ((first | refine vm_reg (fun K hK => ?_) | refine vm_dreg (fun K hK => ?_) | refine vm_dregx (fun K hK => ?_)); simp (disch := (first | omega | assumption)) only [S1, ↓reduceIte, Nat.reduceEqDiff, Nat.reduceAdd, Nat.reduceMul, Nat.reduceDiv, AOp.sb, AOp.mut, frzf, ↓Bool.false_eq_true, beq_self_eq_true, ite_self, Nat.reduceLeDiff, Int.reduceEq, Int.reduceSub, Int.reduceAdd, Int.reduceNeg, Int.reduceLT, Int.reduceLE, Nat.reduceLT, bz_LRJ, hlt]; refine hK _ ?_; clear hK K)
          | simp only [Sv, ↓reduceIte, Nat.reduceEqDiff]
        refine he _ _ ?_
        repeat first
          | (refine hK _ ?_; clear hK K)
          | ((first | refine vm_reg (fun K hK => ?_) | refine vm_dreg (fun K hK => ?_) | refine vm_dregx (fun K hK => ?_)); simp (disch := (first | omega | assumption)) only [S1, ↓reduceIte, Nat.reduceEqDiff, Nat.reduceAdd, Nat.reduceMul, Nat.reduceDiv, AOp.sb, AOp.mut, frzf, ↓Bool.false_eq_true, beq_self_eq_true, ite_self, Nat.reduceLeDiff, Int.reduceEq, Int.reduceSub, Int.reduceAdd, Int.reduceNeg, Int.reduceLT, Int.reduceLE, Nat.reduceLT, bz_LRJ, hlen]; refine hK _ ?_; clear hK K)
          | simp only [Sv, ↓reduceIte, Nat.reduceEqDiff]
        simp (disch := (first | omega | assumption)) only [retOk, retN, ret1, retF, ret1F, V.okArg, and_true, true_and, S1, ↓reduceIte, Nat.reduceEqDiff, Nat.reduceAdd, Nat.reduceMul, Nat.reduceDiv, AOp.sb, AOp.mut, frzf, ↓Bool.false_eq_true, beq_self_eq_true, ite_self, Nat.reduceLeDiff, Int.reduceEq, Int.reduceSub, Int.reduceAdd, Int.reduceNeg, Int.reduceLT, Int.reduceLE, Nat.reduceLT, bz_LRJ]
        rw [e]; exact ⟨rfl, rfl⟩
      · have e : jnR ts = (jn ts ts.length, 0) := by unfold jnR; rw [hall, if_pos rfl, if_neg (by omega)]
        have bb := bytesOf_Bt (jn ts ts.length)
        repeat first
          | (refine hK _ ?_; clear hK K)
          | ((first | refine vm_reg (fun K hK => ?_) | refine vm_dreg (fun K hK => ?_) | refine vm_dregx (fun K hK => ?_)); simp (disch := (first | omega | assumption)) only [S1, ↓reduceIte, Nat.reduceEqDiff, Nat.reduceAdd, Nat.reduceMul, Nat.reduceDiv, AOp.sb, AOp.mut, frzf, ↓Bool.false_eq_true, beq_self_eq_true, ite_self, Nat.reduceLeDiff, Int.reduceEq, Int.reduceSub, Int.reduceAdd, Int.reduceNeg, Int.reduceLT, Int.reduceLE, Nat.reduceLT, bz_LRJ, hlt]; refine hK _ ?_; clear hK K)
          | simp only [Sv, ↓reduceIte, Nat.reduceEqDiff]
        refine he _ _ ?_
        repeat first
          | (refine hK _ ?_; clear hK K)
          | ((first | refine vm_reg (fun K hK => ?_) | refine vm_dreg (fun K hK => ?_) | refine vm_dregx (fun K hK => ?_)); simp (disch := (first | omega | assumption)) only [S1, ↓reduceIte, Nat.reduceEqDiff, Nat.reduceAdd, Nat.reduceMul, Nat.reduceDiv, AOp.sb, AOp.mut, frzf, ↓Bool.false_eq_true, beq_self_eq_true, ite_self, Nat.reduceLeDiff, Int.reduceEq, Int.reduceSub, Int.reduceAdd, Int.reduceNeg, Int.reduceLT, Int.reduceLE, Nat.reduceLT, bz_LRJ, hlen, bb]; refine hK _ ?_; clear hK K)
          | simp only [Sv, ↓reduceIte, Nat.reduceEqDiff]
        simp (disch := (first | omega | assumption)) only [retOk, retN, ret1, retF, ret1F, V.okArg, and_true, true_and, S1, ↓reduceIte, Nat.reduceEqDiff, Nat.reduceAdd, Nat.reduceMul, Nat.reduceDiv, AOp.sb, AOp.mut, frzf, ↓Bool.false_eq_true, beq_self_eq_true, ite_self, Nat.reduceLeDiff, Int.reduceEq, Int.reduceSub, Int.reduceAdd, Int.reduceNeg, Int.reduceLT, Int.reduceLE, Nat.reduceLT, bz_LRJ]
        rw [e]; exact ⟨rfl, rfl⟩
theorem jnR_code (ts : List Tk) : -9223372036854775808 ≤ (jnR ts).2 ∧ (jnR ts).2 < 9223372036854775808 := by
  unfold jnR; split <;> (try split) <;> exact ⟨by simp, by simp⟩
def a3 : AC := .seq (.reg [⟨some 2, none, .mv (.k (.b false))⟩])
 (.seq (.seq (.reg [⟨some 7, none, .call 5 []⟩,
 ⟨some 8, none, .un .not (.t 7)⟩])
 (.cond (.t 8)
 (.seq (.reg [⟨some 2, none, .mv (.k (.b false))⟩])
 (.ret))
 (.skip)))
 (.seq (.reg [⟨some 10, none, .mv (.t 0)⟩,
 ⟨some 11, none, .call 6 [(3, (.t 10))]⟩,
 ⟨some 9, none, .mv (.t 11)⟩,
 ⟨some 12, none, .ext (.t 9) 0⟩,
 ⟨some 13, none, .ext (.t 9) 1⟩,
 ⟨some 3, none, .mv (.t 12)⟩,
 ⟨some 4, none, .mv (.t 13)⟩])
 (.seq (.reg [⟨some 15, none, .mv (.t 0)⟩,
 ⟨some 16, none, .call 8 [(3, (.t 15))]⟩,
 ⟨some 17, none, .call 7 [(3, (.t 16))]⟩,
 ⟨some 14, none, .mv (.t 17)⟩,
 ⟨some 18, none, .ext (.t 14) 0⟩,
 ⟨some 19, none, .ext (.t 14) 1⟩,
 ⟨some 5, none, .mv (.t 18)⟩,
 ⟨some 6, none, .mv (.t 19)⟩])
 (.seq (.reg [⟨some 20, none, .mv (.t 6)⟩,
 ⟨some 21, none, .mv (.t 4)⟩,
 ⟨some 22, none, .call 9 [(1, (.t 20)), (1, (.t 21))]⟩,
 ⟨some 23, none, .mv (.t 22)⟩,
 ⟨some 24, some (23, true), .mv (.t 5)⟩,
 ⟨some 25, some (23, true), .mv (.t 3)⟩,
 ⟨some 26, some (23, true), .bin .eql (.t 24) (.t 25)⟩,
 ⟨some 27, none, .pick (.t 23) (.t 26) (.k (.b false))⟩,
 ⟨some 2, none, .mv (.t 27)⟩])
 (.ret)))))
theorem lexJoins_spec (ts : List Tk) (hl : ts.length ≤ 2000000) (hb : tot ts ≤ 1000000000) : AFun Try.prog J0 3 [.l 3 (T ts)] (.b true) := by
  have q1 := awake_spec
  have q2 := rjoin_spec ts hl hb
  have q3 := to_spec ts (by omega)
  have q4 := join_raw ts hl hb
  have hc := jnR_code ts
  have q5 := plain_spec (jnR ts).2 (jnR ts).2 hc
  rw [decide_eq_true rfl] at q5
  generalize (jnR ts).2 = c at *
  generalize (jnR ts).1 = x at *
  have ex : (x == x) = true := beq_self_eq_true x
  refine AFun.mk fol J0s Try.func3 rfl (ac := a3) (by kernel_rfl) rfl rfl rfl ?_
  apply vm_start
  unfold a3
  simp only [init_eq, initE]
  have zc5 := q1
  have zc6 := q2
  have zc7 := q3
  have zc8 := q4
  have zc9 := q5
  repeat first | (refine hK _ ?_; clear hK K) | simp only [Sv, ↓reduceIte, Nat.reduceEqDiff] | ((first | refine vm_reg (fun K hK => ?_) | refine vm_dreg (fun K hK => ?_) | refine vm_dregx (fun K hK => ?_) | refine clp_q ?_ | refine clq_mk (by assumption) ?_ | refine mcq_q ?_ | (apply mcr_mk; assumption)); simp (disch := (first | omega | assumption)) only [S1, ↓reduceIte, Nat.reduceEqDiff, Nat.reduceAdd, Nat.reduceMul, Nat.reduceDiv, AOp.sb, AOp.mut, frzf, ↓Bool.false_eq_true, beq_self_eq_true, ite_self, Nat.reduceLeDiff, Int.reduceEq, Int.reduceSub, Int.reduceAdd, Int.reduceNeg, Int.reduceLT, Int.reduceLE, Nat.reduceLT, bz_LRJ, ex])
  simp (disch := (first | omega | assumption)) only [retOk, retN, ret1, retF, ret1F, V.okArg, and_true, true_and, S1, ↓reduceIte, Nat.reduceEqDiff, Nat.reduceAdd, Nat.reduceMul, Nat.reduceDiv, AOp.sb, AOp.mut, frzf, ↓Bool.false_eq_true, beq_self_eq_true, ite_self, Nat.reduceLeDiff, Int.reduceEq, Int.reduceSub, Int.reduceAdd, Int.reduceNeg, Int.reduceLT, Int.reduceLE, Nat.reduceLT, bz_LRJ, ex]
end Go.Proofs.Ytggidimpeojgaaa
