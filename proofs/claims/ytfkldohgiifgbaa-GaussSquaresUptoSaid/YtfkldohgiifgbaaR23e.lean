/-
  surdref23: values at many, turns, squares, around.
-/
import Derived.Test.YtfkldohgiifgbaaR23d
namespace Go.Proofs.Ytfkldohgiifgbaa
open Go Go.RowKit Ab
set_option linter.unusedSimpArgs false
set_option linter.unusedVariables false
set_option maxHeartbeats 10000000
theorem bz_R23e : type_of% (And.intro @W_len (And.intro @D_len (And.intro @Nat.div_one (And.intro @Nat.mul_one (And.intro @tn_nat (And.intro @W_nf (And.intro @D_nf (And.intro @W_nil (And.intro @D_nil (And.intro @wi (And.intro @nf_g (And.intro @Bool.false_and (And.intro @W_cell (And.intro @ZC_cell (@ZC_nil))))))))))))))) := And.intro @W_len (And.intro @D_len (And.intro @Nat.div_one (And.intro @Nat.mul_one (And.intro @tn_nat (And.intro @W_nf (And.intro @D_nf (And.intro @W_nil (And.intro @D_nil (And.intro @wi (And.intro @nf_g (And.intro @Bool.false_and (And.intro @W_cell (And.intro @ZC_cell (@ZC_nil))))))))))))))

-- surd/surdref23.Values
def a17 : AC := .seq (.reg [⟨some 4, none, .mv (.k .nl)⟩, 
      ⟨some 5, none, .mv (.k (.i .i64 0))⟩])
  (.seq (.reg [⟨some 6, none, .mv (.k .nl)⟩])
  (.seq (.seq (.reg [⟨some 7, none, .mv (.k (.i .i64 0))⟩])
    (.blk 0
    (.loop
      (.seq (.seq (.reg [⟨some 10, none, .mv (.t 7)⟩, 
              ⟨some 11, none, .mv (.t 1)⟩, 
              ⟨some 12, none, .len (.t 11)⟩, 
              ⟨some 13, none, .bin .lss (.t 10) (.t 12)⟩])
          (.cond (.t 13)
          (.skip)
          (.exit 0)))
        (.seq (.blk 1
          (.seq (.reg [⟨some 17, none, .mv (.t 0)⟩, 
                ⟨some 18, none, .mv (.t 1)⟩, 
                ⟨some 19, none, .mv (.t 7)⟩, 
                ⟨some 20, none, .idx 2 (.t 18) (.t 19)⟩, 
                ⟨some 21, none, .ld true 2 (.t 20)⟩, 
                ⟨some 22, none, .call 13 [(2, (.t 17)), (1, (.t 21))]⟩, 
                ⟨some 16, none, .mv (.t 22)⟩, 
                ⟨some 23, none, .ext (.t 16) 0⟩, 
                ⟨some 24, none, .ext (.t 16) 1⟩, 
                ⟨some 8, none, .al 27 [(.i .i64 0), (.i .i64 0)]⟩, 
                ⟨none, none, .st 2 (.t 8) (.t 23)⟩, 
                ⟨some 9, none, .mv (.t 24)⟩])
            (.seq (.seq (.reg [⟨some 25, none, .mv (.t 9)⟩, 
                  ⟨some 26, none, .bin .neq (.t 25) (.k (.i .i64 0))⟩])
              (.cond (.t 26)
              (.seq (.reg [⟨some 27, none, .mv (.t 9)⟩, 
                    ⟨some 4, none, .mv (.k .nl)⟩, 
                    ⟨some 5, none, .mv (.t 27)⟩])
                (.ret))
              (.skip)))
            (.reg [⟨some 28, none, .mv (.t 6)⟩, 
              ⟨some 29, none, .ld true 2 (.t 8)⟩, 
              ⟨some 30, none, .bsl 27 2 1 [(.i .i64 0), (.i .i64 0)] [(0, (.t 29))]⟩, 
              ⟨some 31, none, .app 27 2 16 (.t 28) (.t 30)⟩, 
              ⟨some 6, none, .mv (.t 31)⟩]))))
        (.reg [⟨some 14, none, .mv (.t 7)⟩, 
          ⟨some 15, none, .bin .add (.t 14) (.k (.i .i64 1))⟩, 
          ⟨some 7, none, .mv (.t 15)⟩]))))))
  (.seq (.reg [⟨some 32, none, .mv (.t 6)⟩, 
      ⟨some 4, none, .mv (.t 32)⟩, 
      ⟨some 5, none, .mv (.k (.i .i64 0))⟩])
  (.ret))))
theorem rvalsS (l : List (Bool × List Nat)) (m : Nat) (hm : m ≤ 2000000) (hl : ZOk l m) (zs : List GZ) (lz : zs.length ≤ 100000000) (hz : ∀ z, z ∈ zs → Pz z) : AFun Try.prog J0 17 [.l 2 (ZC l), .l 2 (NC zs)] (.t [.l 2 (NC (vsF (zcs l) zs)), .i .i64 (vsE (zcs l) zs)]) := by
  have hv := rvalS l m hm hl
  obtain ⟨R, hR⟩ : ∃ R, R = vsF (zcs l) zs := ⟨_, rfl⟩
  obtain ⟨e, he0⟩ : ∃ e, e = vsE (zcs l) zs := ⟨_, rfl⟩
  rw [← hR, ← he0]
  have hnl : (NC zs).length / 2 = zs.length := by rw [NC_len]; omega
  have hnz := NC_len zs
  obtain ⟨n, hn⟩ : ∃ n, n = zs.length := ⟨_, rfl⟩
  rw [← hn] at hnl hnz
  have hd : n * 2 / 2 = n := by omega
  refine AFun.mk fol J0s Try.func17 rfl (ac := a17) (by kernel_rfl) rfl rfl ?_
  apply vm_start
  unfold a17
  simp only [init_eq, initE]
  repeat first
    | (refine hK _ ?_; clear hK K)
    | ((first | refine vm_reg (fun K hK => ?_) | refine vm_dreg (fun K hK => ?_)); simp (disch := (first | omega | assumption)) only [S1, ↓reduceIte, Nat.reduceEqDiff, Nat.reduceAdd, Nat.reduceMul, Nat.reduceDiv, AOp.sb, AOp.mut, ↓Bool.false_eq_true, beq_self_eq_true, ite_self, Nat.reduceLeDiff, Int.reduceEq, Int.reduceSub, Int.reduceAdd, Int.reduceNeg, Int.reduceLT, Int.reduceLE, Nat.reduceLT, bz_R23e]; refine hK _ ?_; clear hK K)
    | simp only [Sv, ↓reduceIte, Nat.reduceEqDiff]
  refine vm_loopA [(6, 27, 2)] Nat (fun i => ⟨[(0, .l 2 (ZC l)), (1, .l 2 (NC zs)), (6, .ow 2 0 i), (7, .i .i64 (i : Int))],
      [(0, some ⟨27, 2, NC ((zs.take i).map (vF (zcs l))), true, false⟩)], 1⟩)
    (fun i => i ≤ n ∧ ∀ j, j < i → vOk (zcs l) (zs.getD j (0, 0))) (fun i => n - i) 0 ⟨Nat.zero_le _, fun j h => by omega⟩ (by simp (disch := (first | omega | assumption)) only [Sl, Sa, Sw, ↓reduceIte, Nat.reduceEqDiff, Nat.reduceLT, List.all_nil, List.all_cons, Nat.reduceBneDiff, Nat.reduceAdd, bne_iff_ne, ne_eq, reduceCtorEq, not_false_eq_true, not_true_eq_false, Bool.and_true, Bool.true_and, and_true, true_and, and_self]) (by
    simp (disch := (first | omega | assumption)) only [Sl, Sa, Sw, ↓reduceIte, Nat.reduceEqDiff, Nat.reduceLT, List.all_nil, List.all_cons, Nat.reduceBneDiff, Nat.reduceAdd, bne_iff_ne, ne_eq, reduceCtorEq, not_false_eq_true, not_true_eq_false, Bool.and_true, Bool.true_and, and_true, true_and, and_self, i_eq]
    repeat' first | rfl | omega | (simp only [List.length_append, List.length_cons, List.length_nil]; done) | apply And.intro) ?_
  rintro i ⟨hi, hj⟩ Q' hQ he hr
  by_cases h : (i : Int) < (n : Int)
  · have hiz : i < zs.length := by omega
    have row := NC_row zs i hiz
    have hmem := GZ_mem hiz
    have hvi := hv (zs.getD i (0, 0)) (hz _ hmem)
    have hsn := GZ_snoc zs i hiz
    have hjn : vOk (zcs l) (zs.getD i (0, 0)) → ∀ j, j < i + 1 → vOk (zcs l) (zs.getD j (0, 0)) := fun h0 j h1 => by
      rcases Nat.lt_or_ge j i with h2 | h2
      · exact hj j h2
      · obtain rfl : j = i := by omega
        exact h0
    generalize zs.getD i (0, 0) = z at *
    simp only [nV] at hvi
    by_cases hok : vOk (zcs l) z
    · rw [show vE (zcs l) z = 0 from if_pos hok] at hvi
      have hap := NC_app1 ((zs.take i).map (vF (zcs l))) (vF (zcs l) z).1 (vF (zcs l) z).2
      have hap2 : (zs.take i).map (vF (zcs l)) ++ [((vF (zcs l) z).1, (vF (zcs l) z).2)] = (zs.take (i + 1)).map (vF (zcs l)) := by rw [hsn, List.map_append]; rfl
      rw [hap2] at hap
      have l0 := NC_len ((zs.take i).map (vF (zcs l)))
      have l1 := NC_len ((zs.take (i + 1)).map (vF (zcs l)))
      rw [List.length_map, List.length_take] at l0 l1
      have zc1 := hvi
      repeat first | (refine hK _ ?_; clear hK K) | simp only [Sv, ↓reduceIte, Nat.reduceEqDiff] | ((first | refine vm_reg (fun K hK => ?_) | refine vm_dreg (fun K hK => ?_) | refine clp_q ?_ | refine clq_mk (by assumption) ?_); simp (disch := (first | omega | assumption)) only [S1, ↓reduceIte, Nat.reduceEqDiff, Nat.reduceAdd, Nat.reduceMul, Nat.reduceDiv, AOp.sb, AOp.mut, ↓Bool.false_eq_true, beq_self_eq_true, ite_self, Nat.reduceLeDiff, Int.reduceEq, Int.reduceSub, Int.reduceAdd, Int.reduceNeg, Int.reduceLT, Int.reduceLE, Nat.reduceLT, bz_R23e, h, hnz, hd, row, hap])
      refine hQ _ (i + 1) ⟨by omega, hjn hok⟩ (by omega) ?_
      simp (disch := (first | omega | assumption)) only [Sl, Sa, Sw, ↓reduceIte, Nat.reduceEqDiff, Nat.reduceLT, List.all_nil, List.all_cons, Nat.reduceBneDiff, Nat.reduceAdd, bne_iff_ne, ne_eq, reduceCtorEq, not_false_eq_true, not_true_eq_false, Bool.and_true, Bool.true_and, and_true, true_and, and_self, i_eq]
      repeat' first | rfl | omega | (simp only [List.length_append, List.length_cons, List.length_nil]; done) | apply And.intro
    · rw [show vE (zcs l) z = 13 from if_neg hok, show vF (zcs l) z = (0, 0) from if_neg hok] at hvi
      obtain rfl : e = 13 := by rw [he0]; exact if_neg fun h => hok (h z hmem)
      obtain rfl : R = [] := by rw [hR]; unfold vsF; rw [← he0]; rfl
      have zc2 := hvi
      repeat first | (refine hK _ ?_; clear hK K) | simp only [Sv, ↓reduceIte, Nat.reduceEqDiff] | ((first | refine vm_reg (fun K hK => ?_) | refine vm_dreg (fun K hK => ?_) | refine clp_q ?_ | refine clq_mk (by assumption) ?_); simp (disch := (first | omega | assumption)) only [S1, ↓reduceIte, Nat.reduceEqDiff, Nat.reduceAdd, Nat.reduceMul, Nat.reduceDiv, AOp.sb, AOp.mut, ↓Bool.false_eq_true, beq_self_eq_true, ite_self, Nat.reduceLeDiff, Int.reduceEq, Int.reduceSub, Int.reduceAdd, Int.reduceNeg, Int.reduceLT, Int.reduceLE, Nat.reduceLT, bz_R23e, h, hnz, hd, row])
      refine hr _ ?_
      simp (disch := (first | omega | assumption)) only [retOk, retN, ret1, retF, ret1F, V.okArg, and_true, true_and, S1, ↓reduceIte, Nat.reduceEqDiff, Nat.reduceAdd, Nat.reduceMul, Nat.reduceDiv, AOp.sb, AOp.mut, ↓Bool.false_eq_true, beq_self_eq_true, ite_self, Nat.reduceLeDiff, Int.reduceEq, Int.reduceSub, Int.reduceAdd, Int.reduceNeg, Int.reduceLT, Int.reduceLE, Nat.reduceLT, bz_R23e, NC_nil]
  · obtain rfl : i = n := by omega
    have hall := GZ_all (l := zs) (p := vOk (zcs l)) fun j h => hj j (by omega)
    obtain rfl : e = 0 := by rw [he0]; exact if_pos hall
    have hR2 : R = zs.map (vF (zcs l)) := by rw [hR]; unfold vsF; rw [← he0]; rfl
    rw [show zs.take i = zs from by rw [hn, List.take_length], ← hR2]
    have l0 := NC_len R
    repeat first
      | (refine hK _ ?_; clear hK K)
      | ((first | refine vm_reg (fun K hK => ?_) | refine vm_dreg (fun K hK => ?_)); simp (disch := (first | omega | assumption)) only [S1, ↓reduceIte, Nat.reduceEqDiff, Nat.reduceAdd, Nat.reduceMul, Nat.reduceDiv, AOp.sb, AOp.mut, ↓Bool.false_eq_true, beq_self_eq_true, ite_self, Nat.reduceLeDiff, Int.reduceEq, Int.reduceSub, Int.reduceAdd, Int.reduceNeg, Int.reduceLT, Int.reduceLE, Nat.reduceLT, bz_R23e, h, hnl]; refine hK _ ?_; clear hK K)
      | simp only [Sv, ↓reduceIte, Nat.reduceEqDiff]
    refine he _ _ ?_
    repeat first
      | (refine hK _ ?_; clear hK K)
      | ((first | refine vm_reg (fun K hK => ?_) | refine vm_dreg (fun K hK => ?_)); simp (disch := (first | omega | assumption)) only [S1, ↓reduceIte, Nat.reduceEqDiff, Nat.reduceAdd, Nat.reduceMul, Nat.reduceDiv, AOp.sb, AOp.mut, ↓Bool.false_eq_true, beq_self_eq_true, ite_self, Nat.reduceLeDiff, Int.reduceEq, Int.reduceSub, Int.reduceAdd, Int.reduceNeg, Int.reduceLT, Int.reduceLE, Nat.reduceLT, bz_R23e]; refine hK _ ?_; clear hK K)
      | simp only [Sv, ↓reduceIte, Nat.reduceEqDiff]
    simp (disch := (first | omega | assumption)) only [retOk, retN, ret1, retF, ret1F, V.okArg, and_true, true_and, S1, ↓reduceIte, Nat.reduceEqDiff, Nat.reduceAdd, Nat.reduceMul, Nat.reduceDiv, AOp.sb, AOp.mut, ↓Bool.false_eq_true, beq_self_eq_true, ite_self, Nat.reduceLeDiff, Int.reduceEq, Int.reduceSub, Int.reduceAdd, Int.reduceNeg, Int.reduceLT, Int.reduceLE, Nat.reduceLT, bz_R23e]
theorem dd_mod (x y : Int) : dd x y % 8 = (y - x) % 8 := by unfold dd; split <;> omega
-- surd/surdref23.Turns
def a23 : AC := .seq (.reg [⟨some 2, none, .mv (.k (.i .i64 0))⟩, 
      ⟨some 3, none, .mv (.k (.i .i64 0))⟩])
  (.seq (.reg [⟨some 4, none, .mv (.k .nl)⟩])
  (.seq (.seq (.reg [⟨some 5, none, .mv (.k (.i .i64 0))⟩])
    (.blk 0
    (.loop
      (.seq (.seq (.reg [⟨some 11, none, .mv (.t 5)⟩, 
              ⟨some 12, none, .mv (.t 0)⟩, 
              ⟨some 13, none, .len (.t 12)⟩, 
              ⟨some 14, none, .bin .lss (.t 11) (.t 13)⟩])
          (.cond (.t 14)
          (.skip)
          (.exit 0)))
        (.seq (.blk 1
          (.seq (.reg [⟨some 18, none, .mv (.t 0)⟩, 
                ⟨some 19, none, .mv (.t 5)⟩, 
                ⟨some 20, none, .idx 2 (.t 18) (.t 19)⟩, 
                ⟨some 21, none, .ld true 2 (.t 20)⟩, 
                ⟨some 22, none, .call 21 [(1, (.t 21))]⟩, 
                ⟨some 17, none, .mv (.t 22)⟩, 
                ⟨some 23, none, .ext (.t 17) 0⟩, 
                ⟨some 24, none, .ext (.t 17) 1⟩, 
                ⟨some 6, none, .mv (.t 23)⟩, 
                ⟨some 7, none, .mv (.t 24)⟩])
            (.seq (.seq (.reg [⟨some 25, none, .mv (.t 7)⟩, 
                  ⟨some 26, none, .bin .neq (.t 25) (.k (.i .i64 0))⟩])
              (.cond (.t 26)
              (.seq (.reg [⟨some 27, none, .mv (.t 7)⟩, 
                    ⟨some 2, none, .mv (.k (.i .i64 0))⟩, 
                    ⟨some 3, none, .mv (.t 27)⟩])
                (.ret))
              (.skip)))
            (.reg [⟨some 28, none, .mv (.t 4)⟩, 
              ⟨some 29, none, .mv (.t 6)⟩, 
              ⟨some 30, none, .bsl 3 1 1 [(.i .i64 0)] [(0, (.t 29))]⟩, 
              ⟨some 31, none, .app 3 1 8 (.t 28) (.t 30)⟩, 
              ⟨some 4, none, .mv (.t 31)⟩]))))
        (.reg [⟨some 15, none, .mv (.t 5)⟩, 
          ⟨some 16, none, .bin .add (.t 15) (.k (.i .i64 1))⟩, 
          ⟨some 5, none, .mv (.t 16)⟩]))))))
  (.seq (.reg [⟨some 8, none, .mv (.k (.i .i64 0))⟩])
  (.seq (.seq (.reg [⟨some 9, none, .mv (.k (.i .i64 0))⟩])
    (.blk 2
    (.loop
      (.seq (.seq (.reg [⟨some 32, none, .mv (.t 9)⟩, 
              ⟨some 33, none, .mv (.t 4)⟩, 
              ⟨some 34, none, .len (.t 33)⟩, 
              ⟨some 35, none, .bin .lss (.t 32) (.t 34)⟩])
          (.cond (.t 35)
          (.skip)
          (.exit 2)))
        (.seq (.blk 3
          (.seq (.dreg [⟨some 38, none, .mv (.t 4)⟩, 
                ⟨some 39, none, .mv (.t 9)⟩, 
                ⟨some 40, none, .bin .add (.t 39) (.k (.i .i64 1))⟩, 
                ⟨some 41, none, .mv (.t 4)⟩, 
                ⟨some 42, none, .len (.t 41)⟩, 
                ⟨some 43, none, .bin .rem (.t 40) (.t 42)⟩, 
                ⟨some 44, none, .idx 1 (.t 38) (.t 43)⟩, 
                ⟨some 45, none, .ld false 1 (.t 44)⟩, 
                ⟨some 46, none, .mv (.t 4)⟩, 
                ⟨some 47, none, .mv (.t 9)⟩, 
                ⟨some 48, none, .idx 1 (.t 46) (.t 47)⟩, 
                ⟨some 49, none, .ld false 1 (.t 48)⟩, 
                ⟨some 50, none, .bin .sub (.t 45) (.t 49)⟩, 
                ⟨some 10, none, .mv (.t 50)⟩])
            (.seq (.blk 4
              (.loop
                (.seq (.seq (.reg [⟨some 51, none, .mv (.t 10)⟩, 
                        ⟨some 52, none, .bin .gtr (.t 51) (.k (.i .i64 4))⟩])
                    (.cond (.t 52)
                    (.skip)
                    (.exit 4)))
                  (.blk 5
                  (.reg [⟨some 53, none, .mv (.t 10)⟩, 
                      ⟨some 54, none, .bin .sub (.t 53) (.k (.i .i64 8))⟩, 
                      ⟨some 10, none, .mv (.t 54)⟩])))))
            (.seq (.blk 6
              (.loop
                (.seq (.seq (.reg [⟨some 55, none, .mv (.t 10)⟩, 
                        ⟨some 56, none, .bin .lss (.t 55) (.k (.i .i64 (-3)))⟩])
                    (.cond (.t 56)
                    (.skip)
                    (.exit 6)))
                  (.blk 7
                  (.reg [⟨some 57, none, .mv (.t 10)⟩, 
                      ⟨some 58, none, .bin .add (.t 57) (.k (.i .i64 8))⟩, 
                      ⟨some 10, none, .mv (.t 58)⟩])))))
            (.seq (.seq (.reg [⟨some 59, none, .mv (.t 10)⟩, 
                  ⟨some 60, none, .bin .eql (.t 59) (.k (.i .i64 4))⟩])
              (.cond (.t 60)
              (.seq (.reg [⟨some 2, none, .mv (.k (.i .i64 0))⟩, 
                    ⟨some 3, none, .mv (.k (.i .i64 3))⟩])
                (.ret))
              (.skip)))
            (.reg [⟨some 61, none, .mv (.t 8)⟩, 
              ⟨some 62, none, .mv (.t 10)⟩, 
              ⟨some 63, none, .bin .add (.t 61) (.t 62)⟩, 
              ⟨some 8, none, .mv (.t 63)⟩]))))))
        (.reg [⟨some 36, none, .mv (.t 9)⟩, 
          ⟨some 37, none, .bin .add (.t 36) (.k (.i .i64 1))⟩, 
          ⟨some 9, none, .mv (.t 37)⟩]))))))
  (.seq (.reg [⟨some 64, none, .mv (.t 8)⟩, 
      ⟨some 65, none, .bin .quo (.t 64) (.k (.i .i64 8))⟩, 
      ⟨some 2, none, .mv (.t 65)⟩, 
      ⟨some 3, none, .mv (.k (.i .i64 0))⟩])
  (.ret))))))
theorem rturnsS (zs : List GZ) (lz : zs.length ≤ 100000000) (hz : ∀ z, z ∈ zs → Pz z) : AFun Try.prog J0 23 [.l 2 (NC zs)] (.t [.i .i64 (tuF zs), .i .i64 (tuE zs)]) := by
  obtain ⟨R, hR⟩ : ∃ R, R = tuF zs := ⟨_, rfl⟩
  obtain ⟨e, he0⟩ : ∃ e, e = tuE zs := ⟨_, rfl⟩
  rw [← hR, ← he0]
  have hnl : (NC zs).length / 2 = zs.length := by rw [NC_len]; omega
  have hnz := NC_len zs
  obtain ⟨n, hn⟩ : ∃ n, n = zs.length := ⟨_, rfl⟩
  rw [← hn] at hnl hnz
  have hd : n * 2 / 2 = n := by omega
  refine AFun.mk fol J0s Try.func23 rfl (ac := a23) (by kernel_rfl) rfl rfl ?_
  apply vm_start
  unfold a23
  simp only [init_eq, initE]
  repeat first
    | (refine hK _ ?_; clear hK K)
    | ((first | refine vm_reg (fun K hK => ?_) | refine vm_dreg (fun K hK => ?_)); simp (disch := (first | omega | assumption)) only [S1, ↓reduceIte, Nat.reduceEqDiff, Nat.reduceAdd, Nat.reduceMul, Nat.reduceDiv, AOp.sb, AOp.mut, ↓Bool.false_eq_true, beq_self_eq_true, ite_self, Nat.reduceLeDiff, Int.reduceEq, Int.reduceSub, Int.reduceAdd, Int.reduceNeg, Int.reduceLT, Int.reduceLE, Nat.reduceLT, bz_R23e]; refine hK _ ?_; clear hK K)
    | simp only [Sv, ↓reduceIte, Nat.reduceEqDiff]
  refine vm_loopA [(4, 3, 1)] Nat (fun i => ⟨[(0, .l 2 (NC zs)), (4, .ow 1 0 i), (5, .i .i64 (i : Int))],
      [(0, some ⟨3, 1, I64 ((zs.take i).map ei), true, false⟩)], 1⟩)
    (fun i => i ≤ n ∧ ∀ j, j < i → eiE (zs.getD j (0, 0)) = 0) (fun i => n - i) 0 ⟨Nat.zero_le _, fun j h => by omega⟩ (by simp (disch := (first | omega | assumption)) only [Sl, Sa, Sw, ↓reduceIte, Nat.reduceEqDiff, Nat.reduceLT, List.all_nil, List.all_cons, Nat.reduceBneDiff, Nat.reduceAdd, bne_iff_ne, ne_eq, reduceCtorEq, not_false_eq_true, not_true_eq_false, Bool.and_true, Bool.true_and, and_true, true_and, and_self]) (by
    simp (disch := (first | omega | assumption)) only [Sl, Sa, Sw, ↓reduceIte, Nat.reduceEqDiff, Nat.reduceLT, List.all_nil, List.all_cons, Nat.reduceBneDiff, Nat.reduceAdd, bne_iff_ne, ne_eq, reduceCtorEq, not_false_eq_true, not_true_eq_false, Bool.and_true, Bool.true_and, and_true, true_and, and_self, i_eq]
    repeat' first | rfl | omega | (simp only [List.length_append, List.length_cons, List.length_nil]; done) | apply And.intro) ?_
  rintro i ⟨hi, hj⟩ Q' hQ he hr
  by_cases h : (i : Int) < (n : Int)
  · have hiz : i < zs.length := by omega
    have row := NC_row zs i hiz
    have hvi := reiS (zs.getD i (0, 0)) (hz _ (GZ_mem hiz))
    have hsn := GZ_snoc zs i hiz
    have hjn : eiE (zs.getD i (0, 0)) = 0 → ∀ j, j < i + 1 → eiE (zs.getD j (0, 0)) = 0 := fun h0 j h1 => by
      rcases Nat.lt_or_ge j i with h2 | h2
      · exact hj j h2
      · obtain rfl : j = i := by omega
        exact h0
    have hfe := esE_first zs i hj hiz
    generalize zs.getD i (0, 0) = z at *
    simp only [nV] at hvi
    by_cases hok : eiE z = 0
    · rw [show eiF z = ei z from if_pos hok, hok] at hvi
      have hap := I64_app1 ((zs.take i).map ei) (ei z)
      have hap2 : (zs.take i).map ei ++ [ei z] = (zs.take (i + 1)).map ei := by rw [hsn, List.map_append]; rfl
      rw [hap2] at hap
      have l0 := I64_len ((zs.take i).map ei)
      have l1 := I64_len ((zs.take (i + 1)).map ei)
      rw [List.length_map, List.length_take] at l0 l1
      have zc3 := hvi
      repeat first | (refine hK _ ?_; clear hK K) | simp only [Sv, ↓reduceIte, Nat.reduceEqDiff] | ((first | refine vm_reg (fun K hK => ?_) | refine vm_dreg (fun K hK => ?_) | refine clp_q ?_ | refine clq_mk (by assumption) ?_); simp (disch := (first | omega | assumption)) only [S1, ↓reduceIte, Nat.reduceEqDiff, Nat.reduceAdd, Nat.reduceMul, Nat.reduceDiv, AOp.sb, AOp.mut, ↓Bool.false_eq_true, beq_self_eq_true, ite_self, Nat.reduceLeDiff, Int.reduceEq, Int.reduceSub, Int.reduceAdd, Int.reduceNeg, Int.reduceLT, Int.reduceLE, Nat.reduceLT, bz_R23e, h, hnz, hd, row, hap])
      refine hQ _ (i + 1) ⟨by omega, hjn hok⟩ (by omega) ?_
      simp (disch := (first | omega | assumption)) only [Sl, Sa, Sw, ↓reduceIte, Nat.reduceEqDiff, Nat.reduceLT, List.all_nil, List.all_cons, Nat.reduceBneDiff, Nat.reduceAdd, bne_iff_ne, ne_eq, reduceCtorEq, not_false_eq_true, not_true_eq_false, Bool.and_true, Bool.true_and, and_true, true_and, and_self, i_eq]
      repeat' first | rfl | omega | (simp only [List.length_append, List.length_cons, List.length_nil]; done) | apply And.intro
    · have hes := hfe hok
      obtain rfl : e = eiE z := by rw [he0]; unfold tuE; rw [hes, if_neg hok]
      obtain rfl : R = 0 := by rw [hR]; unfold tuF; rw [← he0, if_neg hok]
      have zc4 := hvi
      repeat first | (refine hK _ ?_; clear hK K) | simp only [Sv, ↓reduceIte, Nat.reduceEqDiff] | ((first | refine vm_reg (fun K hK => ?_) | refine vm_dreg (fun K hK => ?_) | refine clp_q ?_ | refine clq_mk (by assumption) ?_); simp (disch := (first | omega | assumption)) only [S1, ↓reduceIte, Nat.reduceEqDiff, Nat.reduceAdd, Nat.reduceMul, Nat.reduceDiv, AOp.sb, AOp.mut, ↓Bool.false_eq_true, beq_self_eq_true, ite_self, Nat.reduceLeDiff, Int.reduceEq, Int.reduceSub, Int.reduceAdd, Int.reduceNeg, Int.reduceLT, Int.reduceLE, Nat.reduceLT, bz_R23e, h, hnz, hd, row, hok])
      refine hr _ ?_
      simp (disch := (first | omega | assumption)) only [retOk, retN, ret1, retF, ret1F, V.okArg, and_true, true_and, S1, ↓reduceIte, Nat.reduceEqDiff, Nat.reduceAdd, Nat.reduceMul, Nat.reduceDiv, AOp.sb, AOp.mut, ↓Bool.false_eq_true, beq_self_eq_true, ite_self, Nat.reduceLeDiff, Int.reduceEq, Int.reduceSub, Int.reduceAdd, Int.reduceNeg, Int.reduceLT, Int.reduceLE, Nat.reduceLT, bz_R23e]
  · obtain rfl : i = n := by omega
    have hall := esE_all zs fun j h => hj j (by omega)
    rw [show zs.take i = zs from by rw [hn, List.take_length]]
    have el : (zs.map ei).length = i := by rw [List.length_map, hn]
    have eb : ∀ j, 0 ≤ (zs.map ei).getD j 0 ∧ (zs.map ei).getD j 0 ≤ 7 := fun j => by
      rcases Nat.lt_or_ge j zs.length with h1 | h1
      · rw [getD_map_ei zs j h1]; exact ei_bnd _
      · rw [List.getD_eq_getElem?_getD, List.getElem?_eq_none (by rw [List.length_map]; exact h1)]; decide
    have te : e = if 4 ∈ stps (zs.map ei) i then 3 else 0 := by rw [he0]; unfold tuE; rw [hall, if_pos rfl, ← hn]
    have tr : e = 0 → R = (isum (stps (zs.map ei) i)).tdiv 8 := fun h => by rw [hR]; unfold tuF; rw [← he0, h, if_pos rfl, ← hn]
    have tr3 : e = 3 → R = 0 := fun h => by rw [hR]; unfold tuF; rw [← he0, h]; rfl
    generalize zs.map ei = es at *
    have lI := I64_len es
    rw [el] at lI
    repeat first
      | (refine hK _ ?_; clear hK K)
      | ((first | refine vm_reg (fun K hK => ?_) | refine vm_dreg (fun K hK => ?_)); simp (disch := (first | omega | assumption)) only [S1, ↓reduceIte, Nat.reduceEqDiff, Nat.reduceAdd, Nat.reduceMul, Nat.reduceDiv, AOp.sb, AOp.mut, ↓Bool.false_eq_true, beq_self_eq_true, ite_self, Nat.reduceLeDiff, Int.reduceEq, Int.reduceSub, Int.reduceAdd, Int.reduceNeg, Int.reduceLT, Int.reduceLE, Nat.reduceLT, bz_R23e, h, hnl]; refine hK _ ?_; clear hK K)
      | simp only [Sv, ↓reduceIte, Nat.reduceEqDiff]
    refine he _ _ ?_
    repeat first
      | (refine hK _ ?_; clear hK K)
      | ((first | refine vm_reg (fun K hK => ?_) | refine vm_dreg (fun K hK => ?_)); simp (disch := (first | omega | assumption)) only [S1, ↓reduceIte, Nat.reduceEqDiff, Nat.reduceAdd, Nat.reduceMul, Nat.reduceDiv, AOp.sb, AOp.mut, ↓Bool.false_eq_true, beq_self_eq_true, ite_self, Nat.reduceLeDiff, Int.reduceEq, Int.reduceSub, Int.reduceAdd, Int.reduceNeg, Int.reduceLT, Int.reduceLE, Nat.reduceLT, bz_R23e]; refine hK _ ?_; clear hK K)
      | simp only [Sv, ↓reduceIte, Nat.reduceEqDiff]
    refine vm_loopA [] Nat (fun k => ⟨[(4, .ow 1 0 i), (8, .i .i64 (isum (stps es k))), (9, .i .i64 (k : Int))],
        [(0, some ⟨3, 1, I64 es, true, false⟩)], 1⟩)
      (fun k => k ≤ i ∧ ∀ j, j < k → stp8 es j ≠ 4) (fun k => i - k) 0 ⟨Nat.zero_le _, fun j h => by omega⟩ (by simp (disch := (first | omega | assumption)) only [Sl, Sa, Sw, ↓reduceIte, Nat.reduceEqDiff, Nat.reduceLT, List.all_nil, List.all_cons, Nat.reduceBneDiff, Nat.reduceAdd, bne_iff_ne, ne_eq, reduceCtorEq, not_false_eq_true, not_true_eq_false, Bool.and_true, Bool.true_and, and_true, true_and, and_self]) (by
      simp (disch := (first | omega | assumption)) only [Sl, Sa, Sw, ↓reduceIte, Nat.reduceEqDiff, Nat.reduceLT, List.all_nil, List.all_cons, Nat.reduceBneDiff, Nat.reduceAdd, bne_iff_ne, ne_eq, reduceCtorEq, not_false_eq_true, not_true_eq_false, Bool.and_true, Bool.true_and, and_true, true_and, and_self, i_eq]
      repeat' first | rfl | omega | (simp only [List.length_append, List.length_cons, List.length_nil]; done) | apply And.intro) ?_
    rintro k ⟨hk, hjk⟩ Q2 hQ2 he2 hr2
    by_cases hki : (k : Int) < (i : Int)
    · have hmod : ((k : Int) + 1).tmod (i : Int) = (((k + 1) % i : Nat) : Int) := by
        rw [show (k : Int) + 1 = ((k + 1 : Nat) : Int) from rfl]; rfl
      have hmlt : (k + 1) % i < i := Nat.mod_lt _ (by omega)
      have g1 := I64_get es k (by omega)
      have g2 := I64_get es ((k + 1) % i) (by omega)
      have b1 := eb k
      have b2 := eb ((k + 1) % i)
      have hst : stp8 es k = dd (es.getD k 0) (es.getD ((k + 1) % i) 0) := by unfold stp8; rw [el]
      have hss := isum_stps_succ es k
      have hsb := isum_stps_bnd es k
      have hdb := dd_bnd (es.getD k 0) (es.getD ((k + 1) % i) 0)
      have hdm := dd_mod (es.getD k 0) (es.getD ((k + 1) % i) 0)
      have hmem : stp8 es k = 4 → e = 3 := fun h => by
        rw [te]
        exact if_pos (List.mem_map.2 ⟨k, List.mem_range.2 (by omega), h⟩)
      have hjk2 : stp8 es k ≠ 4 → ∀ j, j < k + 1 → stp8 es j ≠ 4 := fun h0 j h1 => by
        rcases Nat.lt_or_ge j k with h2 | h2
        · exact hjk j h2
        · obtain rfl : j = k := by omega
          exact h0
      have i0 : ¬ (i : Int) = 0 := by omega
      have mnn : (0 : Int) ≤ (((k + 1) % i : Nat) : Int) := by omega
      generalize es.getD k 0 = x at *
      generalize es.getD ((k + 1) % i) 0 = y at *
      generalize (k + 1) % i = k' at *
      repeat first
        | (refine hK _ ?_; clear hK K)
        | ((first | refine vm_reg (fun K hK => ?_) | refine vm_dreg (fun K hK => ?_)); simp (disch := (first | omega | assumption)) only [S1, ↓reduceIte, Nat.reduceEqDiff, Nat.reduceAdd, Nat.reduceMul, Nat.reduceDiv, AOp.sb, AOp.mut, ↓Bool.false_eq_true, beq_self_eq_true, ite_self, Nat.reduceLeDiff, Int.reduceEq, Int.reduceSub, Int.reduceAdd, Int.reduceNeg, Int.reduceLT, Int.reduceLE, Nat.reduceLT, bz_R23e, hki, g1, g2, hmod, lI, i0]; refine hK _ ?_; clear hK K)
        | simp only [Sv, ↓reduceIte, Nat.reduceEqDiff]
      refine vm_loopA [] Int (fun d => ⟨[(4, .ow 1 0 i), (8, .i .i64 (isum (stps es k))), (9, .i .i64 (k : Int)), (10, .i .i64 d)], [(0, some ⟨3, 1, I64 es, true, false⟩)], 1⟩)
        (fun d => -7 ≤ d ∧ d ≤ 7 ∧ d % 8 = (y - x) % 8) (fun d => (d + 8).toNat) (y - x) ⟨by omega, by omega, rfl⟩ (by simp (disch := (first | omega | assumption)) only [Sl, Sa, Sw, ↓reduceIte, Nat.reduceEqDiff, Nat.reduceLT, List.all_nil, List.all_cons, Nat.reduceBneDiff, Nat.reduceAdd, bne_iff_ne, ne_eq, reduceCtorEq, not_false_eq_true, not_true_eq_false, Bool.and_true, Bool.true_and, and_true, true_and, and_self]) (by
        simp (disch := (first | omega | assumption)) only [Sl, Sa, Sw, ↓reduceIte, Nat.reduceEqDiff, Nat.reduceLT, List.all_nil, List.all_cons, Nat.reduceBneDiff, Nat.reduceAdd, bne_iff_ne, ne_eq, reduceCtorEq, not_false_eq_true, not_true_eq_false, Bool.and_true, Bool.true_and, and_true, true_and, and_self, i_eq]
        repeat' first | rfl | omega | (simp only [List.length_append, List.length_cons, List.length_nil]; done) | apply And.intro) ?_
      rintro d ⟨d1, d2, d3⟩ Q3 hQ3 he3 hr3
      by_cases h4 : 4 < d
      · repeat first
          | (refine hK _ ?_; clear hK K)
          | ((first | refine vm_reg (fun K hK => ?_) | refine vm_dreg (fun K hK => ?_)); simp (disch := (first | omega | assumption)) only [S1, ↓reduceIte, Nat.reduceEqDiff, Nat.reduceAdd, Nat.reduceMul, Nat.reduceDiv, AOp.sb, AOp.mut, ↓Bool.false_eq_true, beq_self_eq_true, ite_self, Nat.reduceLeDiff, Int.reduceEq, Int.reduceSub, Int.reduceAdd, Int.reduceNeg, Int.reduceLT, Int.reduceLE, Nat.reduceLT, bz_R23e, h4]; refine hK _ ?_; clear hK K)
          | simp only [Sv, ↓reduceIte, Nat.reduceEqDiff]
        refine hQ3 _ (d - 8) ⟨by omega, by omega, by omega⟩ (by omega) ?_
        simp (disch := (first | omega | assumption)) only [Sl, Sa, Sw, ↓reduceIte, Nat.reduceEqDiff, Nat.reduceLT, List.all_nil, List.all_cons, Nat.reduceBneDiff, Nat.reduceAdd, bne_iff_ne, ne_eq, reduceCtorEq, not_false_eq_true, not_true_eq_false, Bool.and_true, Bool.true_and, and_true, true_and, and_self, i_eq]
        repeat' first | rfl | omega | (simp only [List.length_append, List.length_cons, List.length_nil]; done) | apply And.intro
      · repeat first
          | (refine hK _ ?_; clear hK K)
          | ((first | refine vm_reg (fun K hK => ?_) | refine vm_dreg (fun K hK => ?_)); simp (disch := (first | omega | assumption)) only [S1, ↓reduceIte, Nat.reduceEqDiff, Nat.reduceAdd, Nat.reduceMul, Nat.reduceDiv, AOp.sb, AOp.mut, ↓Bool.false_eq_true, beq_self_eq_true, ite_self, Nat.reduceLeDiff, Int.reduceEq, Int.reduceSub, Int.reduceAdd, Int.reduceNeg, Int.reduceLT, Int.reduceLE, Nat.reduceLT, bz_R23e, h4]; refine hK _ ?_; clear hK K)
          | simp only [Sv, ↓reduceIte, Nat.reduceEqDiff]
        refine he3 _ _ ?_
        repeat first
          | (refine hK _ ?_; clear hK K)
          | ((first | refine vm_reg (fun K hK => ?_) | refine vm_dreg (fun K hK => ?_)); simp (disch := (first | omega | assumption)) only [S1, ↓reduceIte, Nat.reduceEqDiff, Nat.reduceAdd, Nat.reduceMul, Nat.reduceDiv, AOp.sb, AOp.mut, ↓Bool.false_eq_true, beq_self_eq_true, ite_self, Nat.reduceLeDiff, Int.reduceEq, Int.reduceSub, Int.reduceAdd, Int.reduceNeg, Int.reduceLT, Int.reduceLE, Nat.reduceLT, bz_R23e]; refine hK _ ?_; clear hK K)
          | simp only [Sv, ↓reduceIte, Nat.reduceEqDiff]
        refine vm_loopA [] Int (fun d => ⟨[(4, .ow 1 0 i), (8, .i .i64 (isum (stps es k))), (9, .i .i64 (k : Int)), (10, .i .i64 d)], [(0, some ⟨3, 1, I64 es, true, false⟩)], 1⟩)
          (fun d => -7 ≤ d ∧ d ≤ 4 ∧ d % 8 = (y - x) % 8) (fun d => (4 - d).toNat) d ⟨by omega, by omega, d3⟩ (by simp (disch := (first | omega | assumption)) only [Sl, Sa, Sw, ↓reduceIte, Nat.reduceEqDiff, Nat.reduceLT, List.all_nil, List.all_cons, Nat.reduceBneDiff, Nat.reduceAdd, bne_iff_ne, ne_eq, reduceCtorEq, not_false_eq_true, not_true_eq_false, Bool.and_true, Bool.true_and, and_true, true_and, and_self]) (by
          simp (disch := (first | omega | assumption)) only [Sl, Sa, Sw, ↓reduceIte, Nat.reduceEqDiff, Nat.reduceLT, List.all_nil, List.all_cons, Nat.reduceBneDiff, Nat.reduceAdd, bne_iff_ne, ne_eq, reduceCtorEq, not_false_eq_true, not_true_eq_false, Bool.and_true, Bool.true_and, and_true, true_and, and_self, i_eq]
          repeat' first | rfl | omega | (simp only [List.length_append, List.length_cons, List.length_nil]; done) | apply And.intro) ?_
        rintro d' ⟨f1, f2, f3⟩ Q4 hQ4 he4 hr4
        by_cases h5 : d' < -3
        · repeat first
            | (refine hK _ ?_; clear hK K)
            | ((first | refine vm_reg (fun K hK => ?_) | refine vm_dreg (fun K hK => ?_)); simp (disch := (first | omega | assumption)) only [S1, ↓reduceIte, Nat.reduceEqDiff, Nat.reduceAdd, Nat.reduceMul, Nat.reduceDiv, AOp.sb, AOp.mut, ↓Bool.false_eq_true, beq_self_eq_true, ite_self, Nat.reduceLeDiff, Int.reduceEq, Int.reduceSub, Int.reduceAdd, Int.reduceNeg, Int.reduceLT, Int.reduceLE, Nat.reduceLT, bz_R23e, h5]; refine hK _ ?_; clear hK K)
            | simp only [Sv, ↓reduceIte, Nat.reduceEqDiff]
          refine hQ4 _ (d' + 8) ⟨by omega, by omega, by omega⟩ (by omega) ?_
          simp (disch := (first | omega | assumption)) only [Sl, Sa, Sw, ↓reduceIte, Nat.reduceEqDiff, Nat.reduceLT, List.all_nil, List.all_cons, Nat.reduceBneDiff, Nat.reduceAdd, bne_iff_ne, ne_eq, reduceCtorEq, not_false_eq_true, not_true_eq_false, Bool.and_true, Bool.true_and, and_true, true_and, and_self, i_eq]
          repeat' first | rfl | omega | (simp only [List.length_append, List.length_cons, List.length_nil]; done) | apply And.intro
        · obtain rfl : d' = dd x y := by omega
          repeat first
            | (refine hK _ ?_; clear hK K)
            | ((first | refine vm_reg (fun K hK => ?_) | refine vm_dreg (fun K hK => ?_)); simp (disch := (first | omega | assumption)) only [S1, ↓reduceIte, Nat.reduceEqDiff, Nat.reduceAdd, Nat.reduceMul, Nat.reduceDiv, AOp.sb, AOp.mut, ↓Bool.false_eq_true, beq_self_eq_true, ite_self, Nat.reduceLeDiff, Int.reduceEq, Int.reduceSub, Int.reduceAdd, Int.reduceNeg, Int.reduceLT, Int.reduceLE, Nat.reduceLT, bz_R23e, h5]; refine hK _ ?_; clear hK K)
            | simp only [Sv, ↓reduceIte, Nat.reduceEqDiff]
          refine he4 _ _ ?_
          by_cases h6 : dd x y = 4
          · obtain rfl : e = 3 := hmem (by rw [hst, h6])
            obtain rfl : R = 0 := tr3 rfl
            repeat first
              | (refine hK _ ?_; clear hK K)
              | ((first | refine vm_reg (fun K hK => ?_) | refine vm_dreg (fun K hK => ?_)); simp (disch := (first | omega | assumption)) only [S1, ↓reduceIte, Nat.reduceEqDiff, Nat.reduceAdd, Nat.reduceMul, Nat.reduceDiv, AOp.sb, AOp.mut, ↓Bool.false_eq_true, beq_self_eq_true, ite_self, Nat.reduceLeDiff, Int.reduceEq, Int.reduceSub, Int.reduceAdd, Int.reduceNeg, Int.reduceLT, Int.reduceLE, Nat.reduceLT, bz_R23e, h6]; refine hK _ ?_; clear hK K)
              | simp only [Sv, ↓reduceIte, Nat.reduceEqDiff]
            refine hr2 _ ?_
            simp (disch := (first | omega | assumption)) only [retOk, retN, ret1, retF, ret1F, V.okArg, and_true, true_and, S1, ↓reduceIte, Nat.reduceEqDiff, Nat.reduceAdd, Nat.reduceMul, Nat.reduceDiv, AOp.sb, AOp.mut, ↓Bool.false_eq_true, beq_self_eq_true, ite_self, Nat.reduceLeDiff, Int.reduceEq, Int.reduceSub, Int.reduceAdd, Int.reduceNeg, Int.reduceLT, Int.reduceLE, Nat.reduceLT, bz_R23e]
          · rw [hst] at hss hjk2
            have ws : IntKind.i64.wrap (isum (stps es k) + dd x y) = isum (stps es (k + 1)) := by rw [hss]; exact wi (by omega)
            repeat first
              | (refine hK _ ?_; clear hK K)
              | ((first | refine vm_reg (fun K hK => ?_) | refine vm_dreg (fun K hK => ?_)); simp (disch := (first | omega | assumption)) only [S1, ↓reduceIte, Nat.reduceEqDiff, Nat.reduceAdd, Nat.reduceMul, Nat.reduceDiv, AOp.sb, AOp.mut, ↓Bool.false_eq_true, beq_self_eq_true, ite_self, Nat.reduceLeDiff, Int.reduceEq, Int.reduceSub, Int.reduceAdd, Int.reduceNeg, Int.reduceLT, Int.reduceLE, Nat.reduceLT, bz_R23e, h6, ws]; refine hK _ ?_; clear hK K)
              | simp only [Sv, ↓reduceIte, Nat.reduceEqDiff]
            refine hQ2 _ (k + 1) ⟨by omega, hjk2 h6⟩ (by omega) ?_
            simp (disch := (first | omega | assumption)) only [Sl, Sa, Sw, ↓reduceIte, Nat.reduceEqDiff, Nat.reduceLT, List.all_nil, List.all_cons, Nat.reduceBneDiff, Nat.reduceAdd, bne_iff_ne, ne_eq, reduceCtorEq, not_false_eq_true, not_true_eq_false, Bool.and_true, Bool.true_and, and_true, true_and, and_self, i_eq]
            repeat' first | rfl | omega | (simp only [List.length_append, List.length_cons, List.length_nil]; done) | apply And.intro
    · obtain rfl : k = i := by omega
      have hn4 : ¬ 4 ∈ stps es k := fun h => by
        obtain ⟨j, hj1, hj2⟩ := List.mem_map.1 h
        exact hjk j (List.mem_range.1 hj1) hj2
      obtain rfl : e = 0 := by rw [te]; exact if_neg hn4
      have hRR := tr rfl
      have hsb := isum_stps_bnd es k
      have htd : IntKind.i64.wrap ((isum (stps es k)).tdiv 8) = R := by
        rw [hRR]; refine wi ?_
        have h1 := Int.natAbs_tdiv (isum (stps es k)) 8
        generalize isum (stps es k) = s at *
        have h2 : s.natAbs / (8 : Int).natAbs ≤ s.natAbs := Nat.div_le_self _ _
        have h3 : (s.tdiv 8).natAbs ≤ s.natAbs := by rw [h1]; exact h2
        omega
      repeat first
        | (refine hK _ ?_; clear hK K)
        | ((first | refine vm_reg (fun K hK => ?_) | refine vm_dreg (fun K hK => ?_)); simp (disch := (first | omega | assumption)) only [S1, ↓reduceIte, Nat.reduceEqDiff, Nat.reduceAdd, Nat.reduceMul, Nat.reduceDiv, AOp.sb, AOp.mut, ↓Bool.false_eq_true, beq_self_eq_true, ite_self, Nat.reduceLeDiff, Int.reduceEq, Int.reduceSub, Int.reduceAdd, Int.reduceNeg, Int.reduceLT, Int.reduceLE, Nat.reduceLT, bz_R23e, hki]; refine hK _ ?_; clear hK K)
        | simp only [Sv, ↓reduceIte, Nat.reduceEqDiff]
      refine he2 _ _ ?_
      repeat first
        | (refine hK _ ?_; clear hK K)
        | ((first | refine vm_reg (fun K hK => ?_) | refine vm_dreg (fun K hK => ?_)); simp (disch := (first | omega | assumption)) only [S1, ↓reduceIte, Nat.reduceEqDiff, Nat.reduceAdd, Nat.reduceMul, Nat.reduceDiv, AOp.sb, AOp.mut, ↓Bool.false_eq_true, beq_self_eq_true, ite_self, Nat.reduceLeDiff, Int.reduceEq, Int.reduceSub, Int.reduceAdd, Int.reduceNeg, Int.reduceLT, Int.reduceLE, Nat.reduceLT, bz_R23e, htd]; refine hK _ ?_; clear hK K)
        | simp only [Sv, ↓reduceIte, Nat.reduceEqDiff]
      simp (disch := (first | omega | assumption)) only [retOk, retN, ret1, retF, ret1F, V.okArg, and_true, true_and, S1, ↓reduceIte, Nat.reduceEqDiff, Nat.reduceAdd, Nat.reduceMul, Nat.reduceDiv, AOp.sb, AOp.mut, ↓Bool.false_eq_true, beq_self_eq_true, ite_self, Nat.reduceLeDiff, Int.reduceEq, Int.reduceSub, Int.reduceAdd, Int.reduceNeg, Int.reduceLT, Int.reduceLE, Nat.reduceLT, bz_R23e]
theorem sqp_nx {q k : Nat} (hq : 1 ≤ q) (hk : k < 8 * q) : ∀ x y x' y', (sqp q k).1 = x → (sqp q k).2 = y → (sqp q (k + 1)).1 = x' → (sqp q (k + 1)).2 = y' →
              ((y = -(q : Int) ∧ x < q ∧ x' = x + 1 ∧ y' = y) ∨ (¬ x < q ∧ x = q ∧ y < q ∧ x' = x ∧ y' = y + 1) ∨ (¬ y = -(q : Int) ∧ ¬ y < q ∧ y = q ∧ -(q : Int) < x ∧ x' = x - 1 ∧ y' = y) ∨ (¬ y = -(q : Int) ∧ ¬ x = q ∧ ¬ -(q : Int) < x ∧ x' = x ∧ y' = y - 1)) := by
  unfold sqp
  intro x y x' y' h1 h2 h3 h4
  by_cases c1 : k < 2 * q
  · rw [if_pos c1] at h1 h2
    by_cases c2 : k + 1 < 2 * q
    · rw [if_pos c2] at h3 h4; simp only [] at *; omega
    · rw [if_neg c2, if_pos (by omega)] at h3 h4; simp only [] at *; omega
  · rw [if_neg c1] at h1 h2
    rw [if_neg (by omega)] at h3 h4
    by_cases c3 : k < 4 * q
    · rw [if_pos c3] at h1 h2
      by_cases c4 : k + 1 < 4 * q
      · rw [if_pos c4] at h3 h4; simp only [] at *; omega
      · rw [if_neg c4, if_pos (by omega)] at h3 h4; simp only [] at *; omega
    · rw [if_neg c3] at h1 h2
      rw [if_neg (by omega)] at h3 h4
      by_cases c5 : k < 6 * q
      · rw [if_pos c5] at h1 h2
        by_cases c6 : k + 1 < 6 * q
        · rw [if_pos c6] at h3 h4; simp only [] at *; omega
        · rw [if_neg c6] at h3 h4; simp only [] at *; omega
      · rw [if_neg c5] at h1 h2
        rw [if_neg (by omega)] at h3 h4; simp only [] at *; omega
-- surd/surdref23.Square
def a25 : AC := .seq (.reg [⟨some 2, none, .bx 27 (.t 0)⟩, 
      ⟨some 4, none, .mv (.k .nl)⟩, 
      ⟨some 5, none, .mv (.k (.i .i64 0))⟩])
  (.seq (.seq (.reg [⟨some 10, none, .mv (.t 1)⟩, 
        ⟨some 11, none, .bin .lss (.t 10) (.k (.i .i64 1))⟩, 
        ⟨some 12, none, .mv (.t 11)⟩, 
        ⟨some 13, some (12, false), .mv (.t 1)⟩, 
        ⟨some 14, some (12, false), .bin .gtr (.t 13) (.k (.i .i64 4096))⟩, 
        ⟨some 15, none, .pick (.t 12) (.k (.b true)) (.t 14)⟩])
    (.cond (.t 15)
    (.seq (.reg [⟨some 4, none, .mv (.k .nl)⟩, 
          ⟨some 5, none, .mv (.k (.i .i64 3))⟩])
      (.ret))
    (.skip)))
  (.seq (.seq (.reg [⟨some 16, none, .ld true 2 (.t 2)⟩, 
        ⟨some 17, none, .call 53 [(1, (.t 16))]⟩, 
        ⟨some 18, none, .call 52 [(1, (.t 17))]⟩, 
        ⟨some 19, none, .mv (.t 1)⟩, 
        ⟨some 20, none, .bin .mul (.k (.i .i64 2)) (.t 19)⟩, 
        ⟨some 21, none, .call 56 [(1, (.t 20))]⟩, 
        ⟨some 22, none, .call 57 [(1, (.t 18)), (1, (.t 21))]⟩, 
        ⟨some 23, none, .call 54 [(1, (.t 22))]⟩, 
        ⟨some 24, none, .un .not (.t 23)⟩])
    (.cond (.t 24)
    (.seq (.reg [⟨some 4, none, .mv (.k .nl)⟩, 
          ⟨some 5, none, .mv (.k (.i .i64 13))⟩])
      (.ret))
    (.skip)))
  (.seq (.reg [⟨some 6, none, .mv (.k .nl)⟩])
  (.seq (.reg [⟨some 25, none, .mv (.t 1)⟩, 
      ⟨some 26, none, .un .neg (.t 25)⟩, 
      ⟨some 27, none, .mv (.t 1)⟩, 
      ⟨some 28, none, .un .neg (.t 27)⟩, 
      ⟨some 7, none, .mv (.t 26)⟩, 
      ⟨some 8, none, .mv (.t 28)⟩])
  (.seq (.seq (.reg [⟨some 9, none, .mv (.k (.i .i64 0))⟩])
    (.blk 0
    (.loop
      (.seq (.seq (.reg [⟨some 29, none, .mv (.t 9)⟩, 
              ⟨some 30, none, .mv (.t 1)⟩, 
              ⟨some 31, none, .bin .mul (.k (.i .i64 8)) (.t 30)⟩, 
              ⟨some 32, none, .bin .lss (.t 29) (.t 31)⟩])
          (.cond (.t 32)
          (.skip)
          (.exit 0)))
        (.seq (.blk 1
          (.seq (.reg [⟨some 35, none, .mv (.t 6)⟩, 
                ⟨some 36, none, .fad 0 (.t 2)⟩, 
                ⟨some 37, none, .ld false 1 (.t 36)⟩, 
                ⟨some 38, none, .mv (.t 7)⟩, 
                ⟨some 39, none, .bin .add (.t 37) (.t 38)⟩, 
                ⟨some 40, none, .fad 1 (.t 2)⟩, 
                ⟨some 41, none, .ld false 1 (.t 40)⟩, 
                ⟨some 42, none, .mv (.t 8)⟩, 
                ⟨some 43, none, .bin .add (.t 41) (.t 42)⟩, 
                ⟨some 44, none, .bld [(.i .i64 0), (.i .i64 0)] [(0, 1, (.t 39)), (1, 1, (.t 43))]⟩, 
                ⟨some 45, none, .bsl 27 2 1 [(.i .i64 0), (.i .i64 0)] [(0, (.t 44))]⟩, 
                ⟨some 46, none, .app 27 2 16 (.t 35) (.t 45)⟩, 
                ⟨some 6, none, .mv (.t 46)⟩])
            (.blk 2
            (.seq (.reg [⟨some 50, none, .mv (.t 8)⟩, 
                  ⟨some 51, none, .mv (.t 1)⟩, 
                  ⟨some 52, none, .un .neg (.t 51)⟩, 
                  ⟨some 53, none, .bin .eql (.t 50) (.t 52)⟩, 
                  ⟨some 54, none, .mv (.t 53)⟩, 
                  ⟨some 55, some (54, true), .mv (.t 7)⟩, 
                  ⟨some 56, some (54, true), .mv (.t 1)⟩, 
                  ⟨some 57, some (54, true), .bin .lss (.t 55) (.t 56)⟩, 
                  ⟨some 58, none, .pick (.t 54) (.t 57) (.k (.b false))⟩, 
                  ⟨some 49, none, .mv (.t 58)⟩])
              (.cond (.t 49)
              (.reg [⟨some 59, none, .mv (.t 7)⟩, 
                  ⟨some 60, none, .bin .add (.t 59) (.k (.i .i64 1))⟩, 
                  ⟨some 7, none, .mv (.t 60)⟩])
              (.seq (.reg [⟨some 62, none, .mv (.t 7)⟩, 
                    ⟨some 63, none, .mv (.t 1)⟩, 
                    ⟨some 64, none, .bin .eql (.t 62) (.t 63)⟩, 
                    ⟨some 65, none, .mv (.t 64)⟩, 
                    ⟨some 66, some (65, true), .mv (.t 8)⟩, 
                    ⟨some 67, some (65, true), .mv (.t 1)⟩, 
                    ⟨some 68, some (65, true), .bin .lss (.t 66) (.t 67)⟩, 
                    ⟨some 69, none, .pick (.t 65) (.t 68) (.k (.b false))⟩, 
                    ⟨some 61, none, .mv (.t 69)⟩])
                (.cond (.t 61)
                (.reg [⟨some 70, none, .mv (.t 8)⟩, 
                    ⟨some 71, none, .bin .add (.t 70) (.k (.i .i64 1))⟩, 
                    ⟨some 8, none, .mv (.t 71)⟩])
                (.seq (.reg [⟨some 73, none, .mv (.t 8)⟩, 
                      ⟨some 74, none, .mv (.t 1)⟩, 
                      ⟨some 75, none, .bin .eql (.t 73) (.t 74)⟩, 
                      ⟨some 76, none, .mv (.t 75)⟩, 
                      ⟨some 77, some (76, true), .mv (.t 7)⟩, 
                      ⟨some 78, some (76, true), .mv (.t 1)⟩, 
                      ⟨some 79, some (76, true), .un .neg (.t 78)⟩, 
                      ⟨some 80, some (76, true), .bin .gtr (.t 77) (.t 79)⟩, 
                      ⟨some 81, none, .pick (.t 76) (.t 80) (.k (.b false))⟩, 
                      ⟨some 72, none, .mv (.t 81)⟩])
                  (.cond (.t 72)
                  (.reg [⟨some 82, none, .mv (.t 7)⟩, 
                      ⟨some 83, none, .bin .sub (.t 82) (.k (.i .i64 1))⟩, 
                      ⟨some 7, none, .mv (.t 83)⟩])
                  (.reg [⟨some 47, none, .mv (.t 8)⟩, 
                      ⟨some 48, none, .bin .sub (.t 47) (.k (.i .i64 1))⟩, 
                      ⟨some 8, none, .mv (.t 48)⟩]))))))))))
        (.reg [⟨some 33, none, .mv (.t 9)⟩, 
          ⟨some 34, none, .bin .add (.t 33) (.k (.i .i64 1))⟩, 
          ⟨some 9, none, .mv (.t 34)⟩]))))))
  (.seq (.reg [⟨some 84, none, .mv (.t 6)⟩, 
      ⟨some 4, none, .mv (.t 84)⟩, 
      ⟨some 5, none, .mv (.k (.i .i64 0))⟩])
  (.ret)))))))
theorem rsquareS (mid : GZ) (r : Int) (hmid : Pz mid) (hr0 : Pi r) : AFun Try.prog J0 25 [nV mid, .i .i64 r] (.t [.l 2 (NC (sqF mid r)), .i .i64 (sqE mid r)]) := by
  have p1 := of23_spec mid hmid
  have p2 := size23_spec mid 1 (by decide) (ZB_pi hmid)
  simp only [nV, LV, LZ] at *
  by_cases h1 : r < 1
  · have e : sqE mid r = 3 := if_pos (.inl h1)
    rw [show sqF mid r = [] from if_neg (by rw [e]; decide), e]
    refine AFun.mk fol J0s Try.func25 rfl (ac := a25) (by kernel_rfl) rfl rfl ?_
    apply vm_start
    unfold a25
    simp only [init_eq, initE]
    repeat first
      | (refine hK _ ?_; clear hK K)
      | ((first | refine vm_reg (fun K hK => ?_) | refine vm_dreg (fun K hK => ?_)); simp (disch := (first | omega | assumption)) only [S1, ↓reduceIte, Nat.reduceEqDiff, Nat.reduceAdd, Nat.reduceMul, Nat.reduceDiv, AOp.sb, AOp.mut, ↓Bool.false_eq_true, beq_self_eq_true, ite_self, Nat.reduceLeDiff, Int.reduceEq, Int.reduceSub, Int.reduceAdd, Int.reduceNeg, Int.reduceLT, Int.reduceLE, Nat.reduceLT, bz_R23e, h1]; refine hK _ ?_; clear hK K)
      | simp only [Sv, ↓reduceIte, Nat.reduceEqDiff]
    simp (disch := (first | omega | assumption)) only [retOk, retN, ret1, retF, ret1F, V.okArg, and_true, true_and, S1, ↓reduceIte, Nat.reduceEqDiff, Nat.reduceAdd, Nat.reduceMul, Nat.reduceDiv, AOp.sb, AOp.mut, ↓Bool.false_eq_true, beq_self_eq_true, ite_self, Nat.reduceLeDiff, Int.reduceEq, Int.reduceSub, Int.reduceAdd, Int.reduceNeg, Int.reduceLT, Int.reduceLE, Nat.reduceLT, bz_R23e, NC_nil]
  · by_cases h2 : 4096 < r
    · have e : sqE mid r = 3 := if_pos (.inr h2)
      rw [show sqF mid r = [] from if_neg (by rw [e]; decide), e]
      refine AFun.mk fol J0s Try.func25 rfl (ac := a25) (by kernel_rfl) rfl rfl ?_
      apply vm_start
      unfold a25
      simp only [init_eq, initE]
      repeat first
        | (refine hK _ ?_; clear hK K)
        | ((first | refine vm_reg (fun K hK => ?_) | refine vm_dreg (fun K hK => ?_)); simp (disch := (first | omega | assumption)) only [S1, ↓reduceIte, Nat.reduceEqDiff, Nat.reduceAdd, Nat.reduceMul, Nat.reduceDiv, AOp.sb, AOp.mut, ↓Bool.false_eq_true, beq_self_eq_true, ite_self, Nat.reduceLeDiff, Int.reduceEq, Int.reduceSub, Int.reduceAdd, Int.reduceNeg, Int.reduceLT, Int.reduceLE, Nat.reduceLT, bz_R23e, h1, h2]; refine hK _ ?_; clear hK K)
        | simp only [Sv, ↓reduceIte, Nat.reduceEqDiff]
      simp (disch := (first | omega | assumption)) only [retOk, retN, ret1, retF, ret1F, V.okArg, and_true, true_and, S1, ↓reduceIte, Nat.reduceEqDiff, Nat.reduceAdd, Nat.reduceMul, Nat.reduceDiv, AOp.sb, AOp.mut, ↓Bool.false_eq_true, beq_self_eq_true, ite_self, Nat.reduceLeDiff, Int.reduceEq, Int.reduceSub, Int.reduceAdd, Int.reduceNeg, Int.reduceLT, Int.reduceLE, Nat.reduceLT, bz_R23e, NC_nil]
    · obtain ⟨q, rfl⟩ : ∃ q : Nat, r = (q : Int) := ⟨r.toNat, by omega⟩
      have es : sqE mid q = if (gsz mid : Int) + 2 * (q : Int) < SM then 0 else 13 := if_neg (by omega)
      have hq2 : IntKind.i64.wrap (2 * (q : Int)) = ((2 * q : Nat) : Int) := by rw [wi (by omega)]; rfl
      have p3 := (hword_spec (2 * q) (by omega)).frozen
      have hBq : 2 * q < B ^ 2 := Ble (BW1 (by omega)) (by decide)
      have p4 := (haddN (gsz_B2 hmid) hBq (by decide)).frozen
      have p5 := small23_spec (gsz mid + 2 * q) 3 (by decide) (by decide) (padd (gsz_B2 hmid) hBq)
      by_cases h4 : gsz mid + 2 * q < SM
      · have e : sqE mid q = 0 := by rw [es]; exact if_pos (by omega)
        rw [show sqF mid q = sqs mid q (8 * q) from if_pos e, e]
        rw [decide_eq_true h4] at p5
        have hq8 : IntKind.i64.wrap (8 * (q : Int)) = ((8 * q : Nat) : Int) := by rw [wi (by omega)]; rfl
        have hng : IntKind.i64.wrap (0 - (q : Int)) = -(q : Int) := by rw [wi (by omega)]; omega
        have e01 : (sqp q 0).1 = -(q : Int) := by unfold sqp; rw [if_pos (by omega)]; simp
        have e02 : (sqp q 0).2 = -(q : Int) := by unfold sqp; rw [if_pos (by omega)]
        refine AFun.mk fol J0s Try.func25 rfl (ac := a25) (by kernel_rfl) rfl rfl ?_
        apply vm_start
        unfold a25
        simp only [init_eq, initE]
        have zc5 := p1
        have zc6 := p2
        have zc7 := p3
        have zc8 := p4
        have zc9 := p5
        repeat first | (refine hK _ ?_; clear hK K) | simp only [Sv, ↓reduceIte, Nat.reduceEqDiff] | ((first | refine vm_reg (fun K hK => ?_) | refine vm_dreg (fun K hK => ?_) | refine clp_q ?_ | refine clq_mk (by assumption) ?_); simp (disch := (first | omega | assumption)) only [S1, ↓reduceIte, Nat.reduceEqDiff, Nat.reduceAdd, Nat.reduceMul, Nat.reduceDiv, AOp.sb, AOp.mut, ↓Bool.false_eq_true, beq_self_eq_true, ite_self, Nat.reduceLeDiff, Int.reduceEq, Int.reduceSub, Int.reduceAdd, Int.reduceNeg, Int.reduceLT, Int.reduceLE, Nat.reduceLT, bz_R23e, h1, h2, hq2, hng])
        refine vm_loopA [(6, 27, 2)] Nat (fun k => ⟨[(1, .i .i64 (q : Int)), (2, .pt 0 0), (6, .ow 2 1 k), (7, .i .i64 (sqp q k).1), (8, .i .i64 (sqp q k).2), (9, .i .i64 (k : Int))],
            [(0, some ⟨27, 2, [.i .i64 mid.1, .i .i64 mid.2], true, true⟩), (1, some ⟨27, 2, NC (sqs mid q k), true, false⟩)], 2⟩)
          (fun k => k ≤ 8 * q) (fun k => 8 * q - k) 0 (Nat.zero_le _) (by simp (disch := (first | omega | assumption)) only [Sl, Sa, Sw, ↓reduceIte, Nat.reduceEqDiff, Nat.reduceLT, List.all_nil, List.all_cons, Nat.reduceBneDiff, Nat.reduceAdd, bne_iff_ne, ne_eq, reduceCtorEq, not_false_eq_true, not_true_eq_false, Bool.and_true, Bool.true_and, and_true, true_and, and_self]) (by
          simp (disch := (first | omega | assumption)) only [Sl, Sa, Sw, ↓reduceIte, Nat.reduceEqDiff, Nat.reduceLT, List.all_nil, List.all_cons, Nat.reduceBneDiff, Nat.reduceAdd, bne_iff_ne, ne_eq, reduceCtorEq, not_false_eq_true, not_true_eq_false, Bool.and_true, Bool.true_and, and_true, true_and, and_self, i_eq]
          rw [e01, e02]
          repeat' first | rfl | omega | (simp only [List.length_append, List.length_cons, List.length_nil]; done) | apply And.intro) ?_
        rintro k hk Q' hQ he hr
        by_cases hkq : (k : Int) < ((8 * q : Nat) : Int)
        · have hkq' : k < 8 * q := by omega
          obtain ⟨b1, b2⟩ := sqp_bnd hk
          have hsu := sqs_succ mid q k
          have hl := NC_len (sqs mid q k)
          have hl1 := NC_len (sqs mid q (k + 1))
          rw [sqs_len] at hl hl1
          have hap := NC_app1 (sqs mid q k) (mid.1 + (sqp q k).1) (mid.2 + (sqp q k).2)
          rw [show sqs mid q k ++ [(mid.1 + (sqp q k).1, mid.2 + (sqp q k).2)] = sqs mid q (k + 1) from hsu.symm] at hap
          have hgz : mid.1.natAbs + mid.2.natAbs + 2 * q < 1125899906842624 := h4
          obtain ⟨x, ex⟩ : ∃ x, (sqp q k).1 = x := ⟨_, rfl⟩
          obtain ⟨y, ey⟩ : ∃ x, (sqp q k).2 = x := ⟨_, rfl⟩
          obtain ⟨x', ex'⟩ : ∃ x, (sqp q (k + 1)).1 = x := ⟨_, rfl⟩
          obtain ⟨y', ey'⟩ : ∃ x, (sqp q (k + 1)).2 = x := ⟨_, rfl⟩
          have nx := sqp_nx (by omega) hkq' x y x' y' ex ey ex' ey'
          rw [ex, ey] at hap
          rw [ex] at b1
          rw [ey] at b2
          rw [ex, ey]
          rcases nx with ⟨c1, c2, rfl, rfl⟩ | ⟨c1, c2, c3, rfl, rfl⟩ | ⟨c1, c2, c3, c4, rfl, rfl⟩ | ⟨c1, c2, c3, rfl, rfl⟩
          · replace c1 := eq_true c1
            repeat first
              | (refine hK _ ?_; clear hK K)
              | ((first | refine vm_reg (fun K hK => ?_) | refine vm_dreg (fun K hK => ?_)); simp (disch := (first | omega | assumption)) only [S1, ↓reduceIte, Nat.reduceEqDiff, Nat.reduceAdd, Nat.reduceMul, Nat.reduceDiv, AOp.sb, AOp.mut, ↓Bool.false_eq_true, beq_self_eq_true, ite_self, Nat.reduceLeDiff, Int.reduceEq, Int.reduceSub, Int.reduceAdd, Int.reduceNeg, Int.reduceLT, Int.reduceLE, Nat.reduceLT, bz_R23e, hkq, hq8, hap, hng, c1, c2]; refine hK _ ?_; clear hK K)
              | simp only [Sv, ↓reduceIte, Nat.reduceEqDiff]
            refine hQ _ (k + 1) (by omega) (by omega) ?_
            simp (disch := (first | omega | assumption)) only [Sl, Sa, Sw, ↓reduceIte, Nat.reduceEqDiff, Nat.reduceLT, List.all_nil, List.all_cons, Nat.reduceBneDiff, Nat.reduceAdd, bne_iff_ne, ne_eq, reduceCtorEq, not_false_eq_true, not_true_eq_false, Bool.and_true, Bool.true_and, and_true, true_and, and_self, i_eq]
            rw [ex', ey']
            repeat' first | rfl | omega | (simp only [List.length_append, List.length_cons, List.length_nil]; done) | apply And.intro
          · replace c2 := eq_true c2
            by_cases c5 : y = -(q : Int)
            · replace c5 := eq_true c5
              repeat first
                | (refine hK _ ?_; clear hK K)
                | ((first | refine vm_reg (fun K hK => ?_) | refine vm_dreg (fun K hK => ?_)); simp (disch := (first | omega | assumption)) only [S1, ↓reduceIte, Nat.reduceEqDiff, Nat.reduceAdd, Nat.reduceMul, Nat.reduceDiv, AOp.sb, AOp.mut, ↓Bool.false_eq_true, beq_self_eq_true, ite_self, Nat.reduceLeDiff, Int.reduceEq, Int.reduceSub, Int.reduceAdd, Int.reduceNeg, Int.reduceLT, Int.reduceLE, Nat.reduceLT, bz_R23e, hkq, hq8, hap, hng, c1, c2, c3, c5]; refine hK _ ?_; clear hK K)
                | simp only [Sv, ↓reduceIte, Nat.reduceEqDiff]
              refine hQ _ (k + 1) (by omega) (by omega) ?_
              simp (disch := (first | omega | assumption)) only [Sl, Sa, Sw, ↓reduceIte, Nat.reduceEqDiff, Nat.reduceLT, List.all_nil, List.all_cons, Nat.reduceBneDiff, Nat.reduceAdd, bne_iff_ne, ne_eq, reduceCtorEq, not_false_eq_true, not_true_eq_false, Bool.and_true, Bool.true_and, and_true, true_and, and_self, i_eq]
              rw [ex', ey']
              repeat' first | rfl | omega | (simp only [List.length_append, List.length_cons, List.length_nil]; done) | apply And.intro
            · replace c5 := eq_false c5
              repeat first
                | (refine hK _ ?_; clear hK K)
                | ((first | refine vm_reg (fun K hK => ?_) | refine vm_dreg (fun K hK => ?_)); simp (disch := (first | omega | assumption)) only [S1, ↓reduceIte, Nat.reduceEqDiff, Nat.reduceAdd, Nat.reduceMul, Nat.reduceDiv, AOp.sb, AOp.mut, ↓Bool.false_eq_true, beq_self_eq_true, ite_self, Nat.reduceLeDiff, Int.reduceEq, Int.reduceSub, Int.reduceAdd, Int.reduceNeg, Int.reduceLT, Int.reduceLE, Nat.reduceLT, bz_R23e, hkq, hq8, hap, hng, c1, c2, c3, c5]; refine hK _ ?_; clear hK K)
                | simp only [Sv, ↓reduceIte, Nat.reduceEqDiff]
              refine hQ _ (k + 1) (by omega) (by omega) ?_
              simp (disch := (first | omega | assumption)) only [Sl, Sa, Sw, ↓reduceIte, Nat.reduceEqDiff, Nat.reduceLT, List.all_nil, List.all_cons, Nat.reduceBneDiff, Nat.reduceAdd, bne_iff_ne, ne_eq, reduceCtorEq, not_false_eq_true, not_true_eq_false, Bool.and_true, Bool.true_and, and_true, true_and, and_self, i_eq]
              rw [ex', ey']
              repeat' first | rfl | omega | (simp only [List.length_append, List.length_cons, List.length_nil]; done) | apply And.intro
          · replace c1 := eq_false c1
            replace c3 := eq_true c3
            by_cases c5 : x = (q : Int)
            · replace c5 := eq_true c5
              repeat first
                | (refine hK _ ?_; clear hK K)
                | ((first | refine vm_reg (fun K hK => ?_) | refine vm_dreg (fun K hK => ?_)); simp (disch := (first | omega | assumption)) only [S1, ↓reduceIte, Nat.reduceEqDiff, Nat.reduceAdd, Nat.reduceMul, Nat.reduceDiv, AOp.sb, AOp.mut, ↓Bool.false_eq_true, beq_self_eq_true, ite_self, Nat.reduceLeDiff, Int.reduceEq, Int.reduceSub, Int.reduceAdd, Int.reduceNeg, Int.reduceLT, Int.reduceLE, Nat.reduceLT, bz_R23e, hkq, hq8, hap, hng, c1, c2, c3, c4, c5]; refine hK _ ?_; clear hK K)
                | simp only [Sv, ↓reduceIte, Nat.reduceEqDiff]
              refine hQ _ (k + 1) (by omega) (by omega) ?_
              simp (disch := (first | omega | assumption)) only [Sl, Sa, Sw, ↓reduceIte, Nat.reduceEqDiff, Nat.reduceLT, List.all_nil, List.all_cons, Nat.reduceBneDiff, Nat.reduceAdd, bne_iff_ne, ne_eq, reduceCtorEq, not_false_eq_true, not_true_eq_false, Bool.and_true, Bool.true_and, and_true, true_and, and_self, i_eq]
              rw [ex', ey']
              repeat' first | rfl | omega | (simp only [List.length_append, List.length_cons, List.length_nil]; done) | apply And.intro
            · replace c5 := eq_false c5
              repeat first
                | (refine hK _ ?_; clear hK K)
                | ((first | refine vm_reg (fun K hK => ?_) | refine vm_dreg (fun K hK => ?_)); simp (disch := (first | omega | assumption)) only [S1, ↓reduceIte, Nat.reduceEqDiff, Nat.reduceAdd, Nat.reduceMul, Nat.reduceDiv, AOp.sb, AOp.mut, ↓Bool.false_eq_true, beq_self_eq_true, ite_self, Nat.reduceLeDiff, Int.reduceEq, Int.reduceSub, Int.reduceAdd, Int.reduceNeg, Int.reduceLT, Int.reduceLE, Nat.reduceLT, bz_R23e, hkq, hq8, hap, hng, c1, c2, c3, c4, c5]; refine hK _ ?_; clear hK K)
                | simp only [Sv, ↓reduceIte, Nat.reduceEqDiff]
              refine hQ _ (k + 1) (by omega) (by omega) ?_
              simp (disch := (first | omega | assumption)) only [Sl, Sa, Sw, ↓reduceIte, Nat.reduceEqDiff, Nat.reduceLT, List.all_nil, List.all_cons, Nat.reduceBneDiff, Nat.reduceAdd, bne_iff_ne, ne_eq, reduceCtorEq, not_false_eq_true, not_true_eq_false, Bool.and_true, Bool.true_and, and_true, true_and, and_self, i_eq]
              rw [ex', ey']
              repeat' first | rfl | omega | (simp only [List.length_append, List.length_cons, List.length_nil]; done) | apply And.intro
          · replace c1 := eq_false c1
            replace c2 := eq_false c2
            by_cases c5 : y = (q : Int)
            · replace c5 := eq_true c5
              repeat first
                | (refine hK _ ?_; clear hK K)
                | ((first | refine vm_reg (fun K hK => ?_) | refine vm_dreg (fun K hK => ?_)); simp (disch := (first | omega | assumption)) only [S1, ↓reduceIte, Nat.reduceEqDiff, Nat.reduceAdd, Nat.reduceMul, Nat.reduceDiv, AOp.sb, AOp.mut, ↓Bool.false_eq_true, beq_self_eq_true, ite_self, Nat.reduceLeDiff, Int.reduceEq, Int.reduceSub, Int.reduceAdd, Int.reduceNeg, Int.reduceLT, Int.reduceLE, Nat.reduceLT, bz_R23e, hkq, hq8, hap, hng, c1, c2, c3, c5]; refine hK _ ?_; clear hK K)
                | simp only [Sv, ↓reduceIte, Nat.reduceEqDiff]
              refine hQ _ (k + 1) (by omega) (by omega) ?_
              simp (disch := (first | omega | assumption)) only [Sl, Sa, Sw, ↓reduceIte, Nat.reduceEqDiff, Nat.reduceLT, List.all_nil, List.all_cons, Nat.reduceBneDiff, Nat.reduceAdd, bne_iff_ne, ne_eq, reduceCtorEq, not_false_eq_true, not_true_eq_false, Bool.and_true, Bool.true_and, and_true, true_and, and_self, i_eq]
              rw [ex', ey']
              repeat' first | rfl | omega | (simp only [List.length_append, List.length_cons, List.length_nil]; done) | apply And.intro
            · replace c5 := eq_false c5
              repeat first
                | (refine hK _ ?_; clear hK K)
                | ((first | refine vm_reg (fun K hK => ?_) | refine vm_dreg (fun K hK => ?_)); simp (disch := (first | omega | assumption)) only [S1, ↓reduceIte, Nat.reduceEqDiff, Nat.reduceAdd, Nat.reduceMul, Nat.reduceDiv, AOp.sb, AOp.mut, ↓Bool.false_eq_true, beq_self_eq_true, ite_self, Nat.reduceLeDiff, Int.reduceEq, Int.reduceSub, Int.reduceAdd, Int.reduceNeg, Int.reduceLT, Int.reduceLE, Nat.reduceLT, bz_R23e, hkq, hq8, hap, hng, c1, c2, c3, c5]; refine hK _ ?_; clear hK K)
                | simp only [Sv, ↓reduceIte, Nat.reduceEqDiff]
              refine hQ _ (k + 1) (by omega) (by omega) ?_
              simp (disch := (first | omega | assumption)) only [Sl, Sa, Sw, ↓reduceIte, Nat.reduceEqDiff, Nat.reduceLT, List.all_nil, List.all_cons, Nat.reduceBneDiff, Nat.reduceAdd, bne_iff_ne, ne_eq, reduceCtorEq, not_false_eq_true, not_true_eq_false, Bool.and_true, Bool.true_and, and_true, true_and, and_self, i_eq]
              rw [ex', ey']
              repeat' first | rfl | omega | (simp only [List.length_append, List.length_cons, List.length_nil]; done) | apply And.intro
        · obtain rfl : k = 8 * q := by omega
          have hl := NC_len (sqs mid q (8 * q))
          rw [sqs_len] at hl
          repeat first
            | (refine hK _ ?_; clear hK K)
            | ((first | refine vm_reg (fun K hK => ?_) | refine vm_dreg (fun K hK => ?_)); simp (disch := (first | omega | assumption)) only [S1, ↓reduceIte, Nat.reduceEqDiff, Nat.reduceAdd, Nat.reduceMul, Nat.reduceDiv, AOp.sb, AOp.mut, ↓Bool.false_eq_true, beq_self_eq_true, ite_self, Nat.reduceLeDiff, Int.reduceEq, Int.reduceSub, Int.reduceAdd, Int.reduceNeg, Int.reduceLT, Int.reduceLE, Nat.reduceLT, bz_R23e, hkq, hq8]; refine hK _ ?_; clear hK K)
            | simp only [Sv, ↓reduceIte, Nat.reduceEqDiff]
          refine he _ _ ?_
          repeat first
            | (refine hK _ ?_; clear hK K)
            | ((first | refine vm_reg (fun K hK => ?_) | refine vm_dreg (fun K hK => ?_)); simp (disch := (first | omega | assumption)) only [S1, ↓reduceIte, Nat.reduceEqDiff, Nat.reduceAdd, Nat.reduceMul, Nat.reduceDiv, AOp.sb, AOp.mut, ↓Bool.false_eq_true, beq_self_eq_true, ite_self, Nat.reduceLeDiff, Int.reduceEq, Int.reduceSub, Int.reduceAdd, Int.reduceNeg, Int.reduceLT, Int.reduceLE, Nat.reduceLT, bz_R23e]; refine hK _ ?_; clear hK K)
            | simp only [Sv, ↓reduceIte, Nat.reduceEqDiff]
          simp (disch := (first | omega | assumption)) only [retOk, retN, ret1, retF, ret1F, V.okArg, and_true, true_and, S1, ↓reduceIte, Nat.reduceEqDiff, Nat.reduceAdd, Nat.reduceMul, Nat.reduceDiv, AOp.sb, AOp.mut, ↓Bool.false_eq_true, beq_self_eq_true, ite_self, Nat.reduceLeDiff, Int.reduceEq, Int.reduceSub, Int.reduceAdd, Int.reduceNeg, Int.reduceLT, Int.reduceLE, Nat.reduceLT, bz_R23e]
      · have e : sqE mid q = 13 := by rw [es]; exact if_neg (by omega)
        rw [show sqF mid q = [] from if_neg (by rw [e]; decide), e]
        rw [decide_eq_false h4] at p5
        refine AFun.mk fol J0s Try.func25 rfl (ac := a25) (by kernel_rfl) rfl rfl ?_
        apply vm_start
        unfold a25
        simp only [init_eq, initE]
        have zc10 := p1
        have zc11 := p2
        have zc12 := p3
        have zc13 := p4
        have zc14 := p5
        repeat first | (refine hK _ ?_; clear hK K) | simp only [Sv, ↓reduceIte, Nat.reduceEqDiff] | ((first | refine vm_reg (fun K hK => ?_) | refine vm_dreg (fun K hK => ?_) | refine clp_q ?_ | refine clq_mk (by assumption) ?_); simp (disch := (first | omega | assumption)) only [S1, ↓reduceIte, Nat.reduceEqDiff, Nat.reduceAdd, Nat.reduceMul, Nat.reduceDiv, AOp.sb, AOp.mut, ↓Bool.false_eq_true, beq_self_eq_true, ite_self, Nat.reduceLeDiff, Int.reduceEq, Int.reduceSub, Int.reduceAdd, Int.reduceNeg, Int.reduceLT, Int.reduceLE, Nat.reduceLT, bz_R23e, h1, h2, hq2])
        simp (disch := (first | omega | assumption)) only [retOk, retN, ret1, retF, ret1F, V.okArg, and_true, true_and, S1, ↓reduceIte, Nat.reduceEqDiff, Nat.reduceAdd, Nat.reduceMul, Nat.reduceDiv, AOp.sb, AOp.mut, ↓Bool.false_eq_true, beq_self_eq_true, ite_self, Nat.reduceLeDiff, Int.reduceEq, Int.reduceSub, Int.reduceAdd, Int.reduceNeg, Int.reduceLT, Int.reduceLE, Nat.reduceLT, bz_R23e, NC_nil]
end Go.Proofs.Ytfkldohgiifgbaa
