/-
  LexBack: the law's walk.
-/
import Derived.Test.YtggidimpeojgaaaLBk
namespace Go.Proofs.Ytggidimpeojgaaa
open Go Go.RowKit Ab
set_option linter.unusedSimpArgs false
set_option linter.unusedVariables false
set_option maxHeartbeats 10000000
theorem bz_LBW : type_of% (And.intro @wi (And.intro @tn_nat (And.intro @T_len (And.intro @m3 (And.intro @T_nf (And.intro @T_cell (And.intro @T_k (And.intro @T_k' (And.intro @T_t (@T_a)))))))))) := And.intro @wi (And.intro @tn_nat (And.intro @T_len (And.intro @m3 (And.intro @T_nf (And.intro @T_cell (And.intro @T_k (And.intro @T_k' (And.intro @T_t (@T_a)))))))))
def a4 : AC := .seq (.reg [⟨some 2, none, .mv (.k (.b false))⟩])
 (.seq (.seq (.reg [⟨some 9, none, .call 5 []⟩,
 ⟨some 10, none, .un .not (.t 9)⟩])
 (.cond (.t 10)
 (.seq (.reg [⟨some 2, none, .mv (.k (.b false))⟩])
 (.ret))
 (.skip)))
 (.seq (.reg [⟨some 12, none, .mv (.t 0)⟩,
 ⟨some 13, none, .call 10 [(1, (.t 12))]⟩,
 ⟨some 11, none, .mv (.t 13)⟩,
 ⟨some 14, none, .ext (.t 11) 0⟩,
 ⟨some 15, none, .ext (.t 11) 1⟩,
 ⟨some 3, none, .mv (.t 14)⟩,
 ⟨some 4, none, .mv (.t 15)⟩])
 (.seq (.seq (.reg [⟨some 16, none, .mv (.t 4)⟩,
 ⟨some 17, none, .bin .neq (.t 16) (.k (.i .i64 0))⟩])
 (.cond (.t 17)
 (.seq (.reg [⟨some 18, none, .mv (.t 4)⟩,
 ⟨some 19, none, .call 9 [(1, (.t 18)), (1, (.k (.i .i64 5)))]⟩,
 ⟨some 20, none, .mv (.t 19)⟩,
 ⟨some 21, some (20, false), .mv (.t 4)⟩,
 ⟨some 22, some (20, false), .call 9 [(1, (.t 21)), (1, (.k (.i .i64 11)))]⟩,
 ⟨some 23, none, .pick (.t 20) (.k (.b true)) (.t 22)⟩,
 ⟨some 2, none, .mv (.t 23)⟩])
 (.ret))
 (.skip)))
 (.seq (.reg [⟨some 25, none, .mv (.t 3)⟩,
 ⟨some 26, none, .call 7 [(3, (.t 25))]⟩,
 ⟨some 24, none, .mv (.t 26)⟩,
 ⟨some 27, none, .ext (.t 24) 0⟩,
 ⟨some 28, none, .ext (.t 24) 1⟩,
 ⟨some 5, none, .mv (.t 27)⟩,
 ⟨some 4, none, .mv (.t 28)⟩])
 (.seq (.seq (.reg [⟨some 29, none, .mv (.t 4)⟩,
 ⟨some 30, none, .bin .neq (.t 29) (.k (.i .i64 0))⟩,
 ⟨some 31, none, .mv (.t 30)⟩,
 ⟨some 32, some (31, false), .mv (.t 5)⟩,
 ⟨some 33, some (31, false), .slen (.t 32)⟩,
 ⟨some 34, some (31, false), .mv (.t 0)⟩,
 ⟨some 35, some (31, false), .slen (.t 34)⟩,
 ⟨some 36, some (31, false), .bin .gtr (.t 33) (.t 35)⟩,
 ⟨some 37, none, .pick (.t 31) (.k (.b true)) (.t 36)⟩])
 (.cond (.t 37)
 (.seq (.reg [⟨some 2, none, .mv (.k (.b false))⟩])
 (.ret))
 (.skip)))
 (.seq (.reg [⟨some 39, none, .mv (.t 5)⟩,
 ⟨some 40, none, .call 10 [(1, (.t 39))]⟩,
 ⟨some 38, none, .mv (.t 40)⟩,
 ⟨some 41, none, .ext (.t 38) 0⟩,
 ⟨some 42, none, .ext (.t 38) 1⟩,
 ⟨some 6, none, .mv (.t 41)⟩,
 ⟨some 4, none, .mv (.t 42)⟩])
 (.seq (.seq (.reg [⟨some 43, none, .mv (.t 4)⟩,
 ⟨some 44, none, .bin .neq (.t 43) (.k (.i .i64 0))⟩,
 ⟨some 45, none, .mv (.t 44)⟩,
 ⟨some 46, some (45, false), .mv (.t 6)⟩,
 ⟨some 47, some (45, false), .len (.t 46)⟩,
 ⟨some 48, some (45, false), .mv (.t 3)⟩,
 ⟨some 49, some (45, false), .len (.t 48)⟩,
 ⟨some 50, some (45, false), .bin .neq (.t 47) (.t 49)⟩,
 ⟨some 51, none, .pick (.t 45) (.k (.b true)) (.t 50)⟩])
 (.cond (.t 51)
 (.seq (.reg [⟨some 2, none, .mv (.k (.b false))⟩])
 (.ret))
 (.skip)))
 (.seq (.seq (.reg [⟨some 52, none, .mv (.t 3)⟩,
 ⟨some 53, none, .len (.t 52)⟩,
 ⟨some 54, none, .mv (.k (.i .i64 0))⟩])
 (.blk 0
 (.loop
 (.seq (.reg [⟨some 55, none, .bin .lss (.t 54) (.t 53)⟩])
 (.seq (.cond (.t 55)
 (.skip)
 (.exit 0))
 (.seq (.blk 1
 (.seq (.reg [⟨some 56, none, .mv (.t 54)⟩,
 ⟨some 7, none, .mv (.t 56)⟩])
 (.seq (.dreg [⟨some 57, none, .mv (.t 6)⟩,
 ⟨some 58, none, .mv (.t 7)⟩,
 ⟨some 59, none, .idx 3 (.t 57) (.t 58)⟩,
 ⟨some 60, none, .fad 0 (.t 59)⟩,
 ⟨some 61, none, .ld false 1 (.t 60)⟩,
 ⟨some 62, none, .mv (.t 3)⟩,
 ⟨some 63, none, .mv (.t 7)⟩,
 ⟨some 64, none, .idx 3 (.t 62) (.t 63)⟩,
 ⟨some 65, none, .fad 0 (.t 64)⟩,
 ⟨some 66, none, .ld false 1 (.t 65)⟩,
 ⟨some 67, none, .bin .neq (.t 61) (.t 66)⟩,
 ⟨some 68, none, .mv (.t 67)⟩,
 ⟨some 69, some (68, false), .mv (.t 6)⟩,
 ⟨some 70, some (68, false), .mv (.t 7)⟩,
 ⟨some 71, some (68, false), .idx 3 (.t 69) (.t 70)⟩,
 ⟨some 72, some (68, false), .fad 1 (.t 71)⟩,
 ⟨some 73, some (68, false), .ld false 1 (.t 72)⟩,
 ⟨some 74, some (68, false), .mv (.t 3)⟩,
 ⟨some 75, some (68, false), .mv (.t 7)⟩,
 ⟨some 76, some (68, false), .idx 3 (.t 74) (.t 75)⟩,
 ⟨some 77, some (68, false), .fad 1 (.t 76)⟩,
 ⟨some 78, some (68, false), .ld false 1 (.t 77)⟩,
 ⟨some 79, some (68, false), .bin .neq (.t 73) (.t 78)⟩,
 ⟨some 80, none, .pick (.t 68) (.k (.b true)) (.t 79)⟩])
 (.cond (.t 80)
 (.seq (.reg [⟨some 2, none, .mv (.k (.b false))⟩])
 (.ret))
 (.skip)))))
 (.reg [⟨some 81, none, .bin .add (.t 54) (.k (.i .i64 1))⟩,
 ⟨some 54, none, .mv (.t 81)⟩])))))))
 (.seq (.reg [⟨some 83, none, .mv (.t 6)⟩,
 ⟨some 84, none, .call 7 [(3, (.t 83))]⟩,
 ⟨some 82, none, .mv (.t 84)⟩,
 ⟨some 85, none, .ext (.t 82) 0⟩,
 ⟨some 86, none, .ext (.t 82) 1⟩,
 ⟨some 8, none, .mv (.t 85)⟩,
 ⟨some 4, none, .mv (.t 86)⟩])
 (.seq (.reg [⟨some 87, none, .mv (.t 4)⟩,
 ⟨some 88, none, .bin .eql (.t 87) (.k (.i .i64 0))⟩,
 ⟨some 89, none, .mv (.t 88)⟩,
 ⟨some 90, some (89, true), .mv (.t 8)⟩,
 ⟨some 91, some (89, true), .mv (.t 5)⟩,
 ⟨some 92, some (89, true), .bin .eql (.t 90) (.t 91)⟩,
 ⟨some 93, none, .pick (.t 89) (.t 92) (.k (.b false))⟩,
 ⟨some 2, none, .mv (.t 93)⟩])
 (.ret)))))))))))
theorem lexBack_spec (s : List UInt8) (hm : s.length ≤ 9223372036854775807) : AFun Try.prog J0 4 [.s s] (.b true) := by
  have hl := scanR_len s
  have q1 := awake_spec
  have q2 := scan_spec s
  rcases scanR_code s with ⟨h2, ts, hs, h1, hL⟩ | ⟨h2, h1⟩ | ⟨h2, h1⟩
  · rw [h1] at hl q2
    rw [h2] at q2
    obtain ⟨b1, b2, ms, b3, b4, b5, b6, b7, b8⟩ := back_law hs hL
    have q3 := join_raw ts (by omega) (by omega)
    have q4 := join_raw ms (by omega) (by omega)
    have q5 := scan_spec (jr none ts)
    rw [b1] at q3
    rw [b6] at q4
    rw [b3] at q5
    have hal := alike_get b4
    generalize jr none ts = x at *
    have ex : (x == x) = true := beq_self_eq_true x
    have g5 : ¬ (s.length : Int) < (x.length : Int) := by omega
    refine AFun.mk fol J0s Try.func4 rfl (ac := a4) (by kernel_rfl) rfl rfl rfl ?_
    apply vm_start
    unfold a4
    simp only [init_eq, initE]
    have zc1 := q1
    have zc2 := q2
    have zc3 := q3
    have zc4 := q5
    repeat first | (refine hK _ ?_; clear hK K) | simp only [Sv, ↓reduceIte, Nat.reduceEqDiff] | ((first | refine vm_reg (fun K hK => ?_) | refine vm_dreg (fun K hK => ?_) | refine vm_dregx (fun K hK => ?_) | refine clp_q ?_ | refine clq_mk (by assumption) ?_ | refine mcq_q ?_ | (apply mcr_mk; assumption)); simp (disch := (first | omega | assumption)) only [S1, ↓reduceIte, Nat.reduceEqDiff, Nat.reduceAdd, Nat.reduceMul, Nat.reduceDiv, AOp.sb, AOp.mut, frzf, ↓Bool.false_eq_true, beq_self_eq_true, ite_self, Nat.reduceLeDiff, Int.reduceEq, Int.reduceSub, Int.reduceAdd, Int.reduceNeg, Int.reduceLT, Int.reduceLE, Nat.reduceLT, bz_LBW, ex, g5, b5])
    refine vm_loopA [] Nat (fun i => ⟨[(3, .l 3 (T ts)), (5, .s x), (6, .l 3 (T ms)), (53, .i .i64 (ts.length : Int)), (54, .i .i64 (i : Int))], [], 0⟩) (fun i => i ≤ ts.length) (fun i => ts.length - i) 0 (Nat.zero_le _) (by simp (disch := (first | omega | assumption)) only [Sl, Sa, Sw, ↓reduceIte, Nat.reduceEqDiff, Nat.reduceLT, List.all_nil, List.all_cons, Nat.reduceBneDiff, Nat.reduceAdd, bne_iff_ne, ne_eq, reduceCtorEq, not_false_eq_true, not_true_eq_false, Bool.and_true, Bool.true_and, and_true, true_and, and_self]) (by
      simp (disch := (first | omega | assumption)) only [Sl, Sa, Sw, ↓reduceIte, Nat.reduceEqDiff, Nat.reduceLT, List.all_nil, List.all_cons, Nat.reduceBneDiff, Nat.reduceAdd, bne_iff_ne, ne_eq, reduceCtorEq, not_false_eq_true, not_true_eq_false, Bool.and_true, Bool.true_and, and_true, true_and, and_self, i_eq]
      repeat' first | rfl | omega | (simp only [List.length_append, List.length_cons, List.length_nil]; done) | apply And.intro) ?_
    intro i hi Q' hQ he hr
    by_cases hlt : (i : Int) < (ts.length : Int)
    · have g1 := T_k ts i (by omega)
      have g2 := T_t ts i (by omega)
      have g3 := T_k ms i (by omega)
      have g4 := T_t ms i (by omega)
      obtain ⟨l1, l2⟩ := hal i (by omega)
      rw [l1] at g3
      rw [l2] at g4
      have w1 : IntKind.i64.wrap ((i : Int) + 1) = ((i + 1 : Nat) : Int) := by rw [wi (by omega)]; rfl
      generalize ts.getD i default = y at *
      have ey : (y.t == y.t) = true := beq_self_eq_true y.t
      repeat first
        | (refine hK _ ?_; clear hK K)
        | ((first | refine vm_reg (fun K hK => ?_) | refine vm_dreg (fun K hK => ?_) | refine vm_dregx (fun K hK => ?_)); simp (disch := (first | omega | assumption)) only [S1, ↓reduceIte, Nat.reduceEqDiff, Nat.reduceAdd, Nat.reduceMul, Nat.reduceDiv, AOp.sb, AOp.mut, frzf, ↓Bool.false_eq_true, beq_self_eq_true, ite_self, Nat.reduceLeDiff, Int.reduceEq, Int.reduceSub, Int.reduceAdd, Int.reduceNeg, Int.reduceLT, Int.reduceLE, Nat.reduceLT, bz_LBW, hlt, g1, g2, g3, g4, b5, eq_self, ey, w1]; refine hK _ ?_; clear hK K)
        | simp only [Sv, ↓reduceIte, Nat.reduceEqDiff]
      refine hQ _ (i + 1) (by omega) (by omega) ?_
      simp (disch := (first | omega | assumption)) only [Sl, Sa, Sw, ↓reduceIte, Nat.reduceEqDiff, Nat.reduceLT, List.all_nil, List.all_cons, Nat.reduceBneDiff, Nat.reduceAdd, bne_iff_ne, ne_eq, reduceCtorEq, not_false_eq_true, not_true_eq_false, Bool.and_true, Bool.true_and, and_true, true_and, and_self, i_eq]
      repeat' first | rfl | omega | (simp only [List.length_append, List.length_cons, List.length_nil]; done) | apply And.intro
    · repeat first
        | (refine hK _ ?_; clear hK K)
        | ((first | refine vm_reg (fun K hK => ?_) | refine vm_dreg (fun K hK => ?_) | refine vm_dregx (fun K hK => ?_)); simp (disch := (first | omega | assumption)) only [S1, ↓reduceIte, Nat.reduceEqDiff, Nat.reduceAdd, Nat.reduceMul, Nat.reduceDiv, AOp.sb, AOp.mut, frzf, ↓Bool.false_eq_true, beq_self_eq_true, ite_self, Nat.reduceLeDiff, Int.reduceEq, Int.reduceSub, Int.reduceAdd, Int.reduceNeg, Int.reduceLT, Int.reduceLE, Nat.reduceLT, bz_LBW, hlt]; refine hK _ ?_; clear hK K)
        | simp only [Sv, ↓reduceIte, Nat.reduceEqDiff]
      refine he _ _ ?_
      have zc5 := q4
      repeat first | (refine hK _ ?_; clear hK K) | simp only [Sv, ↓reduceIte, Nat.reduceEqDiff] | ((first | refine vm_reg (fun K hK => ?_) | refine vm_dreg (fun K hK => ?_) | refine vm_dregx (fun K hK => ?_) | refine clp_q ?_ | refine clq_mk (by assumption) ?_ | refine mcq_q ?_ | (apply mcr_mk; assumption)); simp (disch := (first | omega | assumption)) only [S1, ↓reduceIte, Nat.reduceEqDiff, Nat.reduceAdd, Nat.reduceMul, Nat.reduceDiv, AOp.sb, AOp.mut, frzf, ↓Bool.false_eq_true, beq_self_eq_true, ite_self, Nat.reduceLeDiff, Int.reduceEq, Int.reduceSub, Int.reduceAdd, Int.reduceNeg, Int.reduceLT, Int.reduceLE, Nat.reduceLT, bz_LBW, ex])
      simp (disch := (first | omega | assumption)) only [retOk, retN, ret1, retF, ret1F, V.okArg, and_true, true_and, S1, ↓reduceIte, Nat.reduceEqDiff, Nat.reduceAdd, Nat.reduceMul, Nat.reduceDiv, AOp.sb, AOp.mut, frzf, ↓Bool.false_eq_true, beq_self_eq_true, ite_self, Nat.reduceLeDiff, Int.reduceEq, Int.reduceSub, Int.reduceAdd, Int.reduceNeg, Int.reduceLT, Int.reduceLE, Nat.reduceLT, bz_LBW, ex]
  · rw [h1, h2] at q2
    have q6 := plain_spec 11 5 (by omega)
    have q7 := plain_spec 11 11 (by omega)
    refine AFun.mk fol J0s Try.func4 rfl (ac := a4) (by kernel_rfl) rfl rfl rfl ?_
    apply vm_start
    unfold a4
    simp only [init_eq, initE]
    have zc6 := q1
    have zc7 := q2
    have zc8 := q6
    have zc9 := q7
    repeat first | (refine hK _ ?_; clear hK K) | simp only [Sv, ↓reduceIte, Nat.reduceEqDiff] | ((first | refine vm_reg (fun K hK => ?_) | refine vm_dreg (fun K hK => ?_) | refine vm_dregx (fun K hK => ?_) | refine clp_q ?_ | refine clq_mk (by assumption) ?_ | refine mcq_q ?_ | (apply mcr_mk; assumption)); simp (disch := (first | omega | assumption)) only [S1, ↓reduceIte, Nat.reduceEqDiff, Nat.reduceAdd, Nat.reduceMul, Nat.reduceDiv, AOp.sb, AOp.mut, frzf, ↓Bool.false_eq_true, beq_self_eq_true, ite_self, Nat.reduceLeDiff, Int.reduceEq, Int.reduceSub, Int.reduceAdd, Int.reduceNeg, Int.reduceLT, Int.reduceLE, Nat.reduceLT, bz_LBW])
    simp (disch := (first | omega | assumption)) only [retOk, retN, ret1, retF, ret1F, V.okArg, and_true, true_and, S1, ↓reduceIte, Nat.reduceEqDiff, Nat.reduceAdd, Nat.reduceMul, Nat.reduceDiv, AOp.sb, AOp.mut, frzf, ↓Bool.false_eq_true, beq_self_eq_true, ite_self, Nat.reduceLeDiff, Int.reduceEq, Int.reduceSub, Int.reduceAdd, Int.reduceNeg, Int.reduceLT, Int.reduceLE, Nat.reduceLT, bz_LBW]
  · rw [h1, h2] at q2
    have q6 := plain_spec 5 5 (by omega)
    refine AFun.mk fol J0s Try.func4 rfl (ac := a4) (by kernel_rfl) rfl rfl rfl ?_
    apply vm_start
    unfold a4
    simp only [init_eq, initE]
    have zc10 := q1
    have zc11 := q2
    have zc12 := q6
    repeat first | (refine hK _ ?_; clear hK K) | simp only [Sv, ↓reduceIte, Nat.reduceEqDiff] | ((first | refine vm_reg (fun K hK => ?_) | refine vm_dreg (fun K hK => ?_) | refine vm_dregx (fun K hK => ?_) | refine clp_q ?_ | refine clq_mk (by assumption) ?_ | refine mcq_q ?_ | (apply mcr_mk; assumption)); simp (disch := (first | omega | assumption)) only [S1, ↓reduceIte, Nat.reduceEqDiff, Nat.reduceAdd, Nat.reduceMul, Nat.reduceDiv, AOp.sb, AOp.mut, frzf, ↓Bool.false_eq_true, beq_self_eq_true, ite_self, Nat.reduceLeDiff, Int.reduceEq, Int.reduceSub, Int.reduceAdd, Int.reduceNeg, Int.reduceLT, Int.reduceLE, Nat.reduceLT, bz_LBW])
    simp (disch := (first | omega | assumption)) only [retOk, retN, ret1, retF, ret1F, V.okArg, and_true, true_and, S1, ↓reduceIte, Nat.reduceEqDiff, Nat.reduceAdd, Nat.reduceMul, Nat.reduceDiv, AOp.sb, AOp.mut, frzf, ↓Bool.false_eq_true, beq_self_eq_true, ite_self, Nat.reduceLeDiff, Int.reduceEq, Int.reduceSub, Int.reduceAdd, Int.reduceNeg, Int.reduceLT, Int.reduceLE, Nat.reduceLT, bz_LBW]
end Go.Proofs.Ytggidimpeojgaaa
