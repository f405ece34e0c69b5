/-
  surdref01, surdref05: sums, differences.
-/
import Derived.Test.YtfkldohgiifgbaaF2
namespace Go.Proofs.Ytfkldohgiifgbaa
open Go Go.RowKit Ab
set_option linter.unusedSimpArgs false
set_option linter.unusedVariables false
set_option maxHeartbeats 10000000
theorem bz_F3 : type_of% (And.intro @W_len (And.intro @D_len (And.intro @Nat.div_one (And.intro @Nat.mul_one (And.intro @tn_nat (And.intro @W_nf (And.intro @D_nf (And.intro @W_nil (And.intro @D_nil (And.intro @wi (@D_get))))))))))) := And.intro @W_len (And.intro @D_len (And.intro @Nat.div_one (And.intro @Nat.mul_one (And.intro @tn_nat (And.intro @W_nf (And.intro @D_nf (And.intro @W_nil (And.intro @D_nil (And.intro @wi (@D_get))))))))))

-- surd/surdref01.Plus
def a87 : AC := .seq (.reg [⟨some 4, none, .mv (.k .nl)⟩])
  (.seq (.reg [⟨some 5, none, .mv (.k .nl)⟩])
  (.seq (.reg [⟨some 6, none, .mv (.k (.i .i64 0))⟩])
  (.seq (.seq (.reg [⟨some 7, none, .mv (.k (.i .i64 0))⟩])
    (.blk 0
    (.loop
      (.seq (.seq (.reg [⟨some 8, none, .mv (.t 7)⟩, 
              ⟨some 9, none, .mv (.t 0)⟩, 
              ⟨some 10, none, .len (.t 9)⟩, 
              ⟨some 11, none, .bin .lss (.t 8) (.t 10)⟩, 
              ⟨some 12, none, .mv (.t 11)⟩, 
              ⟨some 13, some (12, false), .mv (.t 7)⟩, 
              ⟨some 14, some (12, false), .mv (.t 1)⟩, 
              ⟨some 15, some (12, false), .len (.t 14)⟩, 
              ⟨some 16, some (12, false), .bin .lss (.t 13) (.t 15)⟩, 
              ⟨some 17, none, .pick (.t 12) (.k (.b true)) (.t 16)⟩, 
              ⟨some 18, none, .mv (.t 17)⟩, 
              ⟨some 19, some (18, false), .mv (.t 6)⟩, 
              ⟨some 20, some (18, false), .bin .gtr (.t 19) (.k (.i .i64 0))⟩, 
              ⟨some 21, none, .pick (.t 18) (.k (.b true)) (.t 20)⟩])
          (.cond (.t 21)
          (.skip)
          (.exit 0)))
        (.seq (.blk 1
          (.seq (.reg [⟨some 24, none, .mv (.t 6)⟩, 
                ⟨some 25, none, .mv (.t 0)⟩, 
                ⟨some 26, none, .mv (.t 7)⟩, 
                ⟨some 27, none, .call 109 [(1, (.t 25)), (1, (.t 26))]⟩, 
                ⟨some 28, none, .mv (.t 1)⟩, 
                ⟨some 29, none, .mv (.t 7)⟩, 
                ⟨some 30, none, .call 109 [(1, (.t 28)), (1, (.t 29))]⟩, 
                ⟨some 31, none, .bin .add (.t 27) (.t 30)⟩, 
                ⟨some 32, none, .bin .add (.t 24) (.t 31)⟩, 
                ⟨some 6, none, .mv (.t 32)⟩])
            (.seq (.reg [⟨some 33, none, .mv (.t 5)⟩, 
                ⟨some 34, none, .mv (.t 6)⟩, 
                ⟨some 35, none, .bin .rem (.t 34) (.k (.i .i64 65536))⟩, 
                ⟨some 36, none, .bsl 3 1 1 [(.i .i64 0)] [(0, (.t 35))]⟩, 
                ⟨some 37, none, .app 3 1 8 (.t 33) (.t 36)⟩, 
                ⟨some 5, none, .mv (.t 37)⟩])
            (.reg [⟨some 38, none, .mv (.t 6)⟩, 
              ⟨some 39, none, .bin .quo (.t 38) (.k (.i .i64 65536))⟩, 
              ⟨some 6, none, .mv (.t 39)⟩]))))
        (.reg [⟨some 22, none, .mv (.t 7)⟩, 
          ⟨some 23, none, .bin .add (.t 22) (.k (.i .i64 1))⟩, 
          ⟨some 7, none, .mv (.t 23)⟩]))))))
  (.seq (.reg [⟨some 40, none, .mv (.t 5)⟩, 
      ⟨some 4, none, .mv (.t 40)⟩])
  (.ret)))))
/-- so many digits as there are in the one, in the other, and one more for a carry -/
def addh (x y : List Nat) : Nat := if (nv 65536 x + nv 65536 y) / 65536 ^ (max x.length y.length) = 0 then max x.length y.length else max x.length y.length + 1
theorem hplus_spec (x y : List Nat) (hx : Lt 65536 x) (hy : Lt 65536 y) (lx : x.length ≤ 1000000000000) (ly : y.length ≤ 1000000000000) :
    AFun Try.prog J0 87 [.l 1 (D x), .l 1 (D y)] (.o 3 1 (D (fl 65536 (addh x y) (nv 65536 x + nv 65536 y)))) := by
  refine AFun.mk fol J0s Try.func87 rfl (ac := a87) (by kernel_rfl) rfl rfl ?_
  apply vm_start
  unfold a87
  simp only [init_eq, initE]
  generalize hm : max x.length y.length = m
  have han : addh x y = if (nv 65536 x + nv 65536 y) / 65536 ^ m = 0 then m else m + 1 := by unfold addh; rw [hm]
  repeat first
    | (refine hK _ ?_; clear hK K)
    | ((first | refine vm_reg (fun K hK => ?_) | refine vm_dreg (fun K hK => ?_)); simp (disch := (first | omega | assumption)) only [S1, ↓reduceIte, Nat.reduceEqDiff, Nat.reduceAdd, Nat.reduceMul, Nat.reduceDiv, AOp.sb, AOp.mut, ↓Bool.false_eq_true, beq_self_eq_true, ite_self, Nat.reduceLeDiff, Int.reduceEq, Int.reduceSub, Int.reduceAdd, Int.reduceNeg, Int.reduceLT, Int.reduceLE, Nat.reduceLT, bz_F3]; refine hK _ ?_; clear hK K)
    | simp only [Sv, ↓reduceIte, Nat.reduceEqDiff]
  refine vm_loopA [(5, 3, 1)] Nat (fun i => ⟨[(0, .l 1 (D x)), (1, .l 1 (D y)), (5, .ow 1 0 i), (6, .i .i64 (((nv 65536 (x.take i) + nv 65536 (y.take i)) / 65536 ^ i : Nat) : Int)), (7, .i .i64 (i : Int))], [(0, some ⟨3, 1, D (fl 65536 i (nv 65536 (x.take i) + nv 65536 (y.take i))), true, false⟩)], 1⟩)
    (fun i => i ≤ m + 1 ∧ (i = m + 1 → (nv 65536 x + nv 65536 y) / 65536 ^ m ≠ 0)) (fun i => m + 1 - i) 0 ⟨by omega, by omega⟩ (by simp (disch := (first | omega | assumption)) only [Sl, Sa, Sw, ↓reduceIte, Nat.reduceEqDiff, Nat.reduceLT, List.all_nil, List.all_cons, Nat.reduceBneDiff, Nat.reduceAdd, bne_iff_ne, ne_eq, reduceCtorEq, not_false_eq_true, not_true_eq_false, Bool.and_true, Bool.true_and, and_true, true_and, and_self]) (by
    simp (disch := (first | omega | assumption)) only [Sl, Sa, Sw, ↓reduceIte, Nat.reduceEqDiff, Nat.reduceLT, List.all_nil, List.all_cons, Nat.reduceBneDiff, Nat.reduceAdd, bne_iff_ne, ne_eq, reduceCtorEq, not_false_eq_true, not_true_eq_false, Bool.and_true, Bool.true_and, and_true, true_and, and_self, i_eq]
    exact ⟨⟨by simp [nv], rfl⟩, rfl⟩) ?_
  intro i ⟨hi, hi2⟩ Q' hQ he hr
  generalize hc : (nv 65536 (x.take i) + nv 65536 (y.take i)) / 65536 ^ i = c
  have hcB : c ≤ 1 := by
    have h1 := nv_take_lt (b := 65536) (by decide) hx i
    have h2 := nv_take_lt (b := 65536) (by decide) hy i
    rw [← hc]
    exact Nat.le_of_lt_succ ((Nat.div_lt_iff_lt_mul (Nat.pow_pos (by decide))).2 (by omega))
  have gx := Lt_get hx (by decide : 0 < 65536) i
  have gy := Lt_get hy (by decide : 0 < 65536) i
  obtain ⟨n, hn⟩ : ∃ n, n = x.getD i 0 + y.getD i 0 + c := ⟨_, rfl⟩
  have hs : (c : Int) + (((x.getD i 0 : Nat) : Int) + ((y.getD i 0 : Nat) : Int)) = (n : Int) := by omega
  obtain ⟨s1, s2, s3⟩ := add_step (b := 65536) (P := 65536 ^ i) (A := nv 65536 (x.take i)) (Y := nv 65536 (y.take i)) (x := x.getD i 0) (y := y.getD i 0) (Nat.pow_pos (by decide)) (by decide)
  rw [hc, ← hn] at s1 s3
  have full : m ≤ i → c = (nv 65536 x + nv 65536 y) / 65536 ^ i := fun h => by
    rw [← hc, List.take_of_length_le (by omega), List.take_of_length_le (by omega)]
  have small : nv 65536 x + nv 65536 y < 65536 ^ (m + 1) := by
    have h1 := nv_lt hx
    have h2 := nv_lt hy
    have h3 : 65536 ^ x.length ≤ 65536 ^ m := Nat.pow_le_pow_right (by decide) (by omega)
    have h4 : 65536 ^ y.length ≤ 65536 ^ m := Nat.pow_le_pow_right (by decide) (by omega)
    rw [Nat.pow_succ]; omega
  by_cases h1 : (i : Int) < x.length
  · repeat first
      | (refine hK _ ?_; clear hK K)
      | ((first | refine vm_reg (fun K hK => ?_) | refine vm_dreg (fun K hK => ?_)); simp (disch := (first | omega | assumption)) only [S1, ↓reduceIte, Nat.reduceEqDiff, Nat.reduceAdd, Nat.reduceMul, Nat.reduceDiv, AOp.sb, AOp.mut, ↓Bool.false_eq_true, beq_self_eq_true, ite_self, Nat.reduceLeDiff, Int.reduceEq, Int.reduceSub, Int.reduceAdd, Int.reduceNeg, Int.reduceLT, Int.reduceLE, Nat.reduceLT, bz_F3, h1]; refine hK _ ?_; clear hK K)
      | simp only [Sv, ↓reduceIte, Nat.reduceEqDiff]
    try simp only [Sv, ↓reduceIte, Nat.reduceEqDiff]
    refine vm_reg (fun K hK => ?_)
    simp (disch := (first | omega | assumption)) only [S1, ↓reduceIte, Nat.reduceEqDiff, Nat.reduceAdd, Nat.reduceMul, Nat.reduceDiv, AOp.sb, AOp.mut, ↓Bool.false_eq_true, beq_self_eq_true, ite_self, Nat.reduceLeDiff, Int.reduceEq, Int.reduceSub, Int.reduceAdd, Int.reduceNeg, Int.reduceLT, Int.reduceLE, Nat.reduceLT, bz_F3]
    refine clp_mk _ _ ?_ ?_ ?_ (hdigit_spec x i) ?_
    · simp (disch := (first | omega | assumption)) only [S1, ↓reduceIte, Nat.reduceEqDiff, Nat.reduceAdd, Nat.reduceMul, Nat.reduceDiv, AOp.sb, AOp.mut, ↓Bool.false_eq_true, beq_self_eq_true, ite_self, Nat.reduceLeDiff, Int.reduceEq, Int.reduceSub, Int.reduceAdd, Int.reduceNeg, Int.reduceLT, Int.reduceLE, Nat.reduceLT, bz_F3]
    · simp (disch := (first | omega | assumption)) only [S1, ↓reduceIte, Nat.reduceEqDiff, Nat.reduceAdd, Nat.reduceMul, Nat.reduceDiv, AOp.sb, AOp.mut, ↓Bool.false_eq_true, beq_self_eq_true, ite_self, Nat.reduceLeDiff, Int.reduceEq, Int.reduceSub, Int.reduceAdd, Int.reduceNeg, Int.reduceLT, Int.reduceLE, Nat.reduceLT, bz_F3]
    · first | rfl | (simp (disch := (first | omega | assumption)) only [S1, ↓reduceIte, Nat.reduceEqDiff, Nat.reduceAdd, Nat.reduceMul, Nat.reduceDiv, AOp.sb, AOp.mut, ↓Bool.false_eq_true, beq_self_eq_true, ite_self, Nat.reduceLeDiff, Int.reduceEq, Int.reduceSub, Int.reduceAdd, Int.reduceNeg, Int.reduceLT, Int.reduceLE, Nat.reduceLT, bz_F3])
    simp (disch := (first | omega | assumption)) only [S1, ↓reduceIte, Nat.reduceEqDiff, Nat.reduceAdd, Nat.reduceMul, Nat.reduceDiv, AOp.sb, AOp.mut, ↓Bool.false_eq_true, beq_self_eq_true, ite_self, Nat.reduceLeDiff, Int.reduceEq, Int.reduceSub, Int.reduceAdd, Int.reduceNeg, Int.reduceLT, Int.reduceLE, Nat.reduceLT, bz_F3]
    refine clp_mk _ _ ?_ ?_ ?_ (hdigit_spec y i) ?_
    · simp (disch := (first | omega | assumption)) only [S1, ↓reduceIte, Nat.reduceEqDiff, Nat.reduceAdd, Nat.reduceMul, Nat.reduceDiv, AOp.sb, AOp.mut, ↓Bool.false_eq_true, beq_self_eq_true, ite_self, Nat.reduceLeDiff, Int.reduceEq, Int.reduceSub, Int.reduceAdd, Int.reduceNeg, Int.reduceLT, Int.reduceLE, Nat.reduceLT, bz_F3]
    · simp (disch := (first | omega | assumption)) only [S1, ↓reduceIte, Nat.reduceEqDiff, Nat.reduceAdd, Nat.reduceMul, Nat.reduceDiv, AOp.sb, AOp.mut, ↓Bool.false_eq_true, beq_self_eq_true, ite_self, Nat.reduceLeDiff, Int.reduceEq, Int.reduceSub, Int.reduceAdd, Int.reduceNeg, Int.reduceLT, Int.reduceLE, Nat.reduceLT, bz_F3]
    · first | rfl | (simp (disch := (first | omega | assumption)) only [S1, ↓reduceIte, Nat.reduceEqDiff, Nat.reduceAdd, Nat.reduceMul, Nat.reduceDiv, AOp.sb, AOp.mut, ↓Bool.false_eq_true, beq_self_eq_true, ite_self, Nat.reduceLeDiff, Int.reduceEq, Int.reduceSub, Int.reduceAdd, Int.reduceNeg, Int.reduceLT, Int.reduceLE, Nat.reduceLT, bz_F3])
    simp (disch := (first | omega | assumption)) only [S1, ↓reduceIte, Nat.reduceEqDiff, Nat.reduceAdd, Nat.reduceMul, Nat.reduceDiv, AOp.sb, AOp.mut, ↓Bool.false_eq_true, beq_self_eq_true, ite_self, Nat.reduceLeDiff, Int.reduceEq, Int.reduceSub, Int.reduceAdd, Int.reduceNeg, Int.reduceLT, Int.reduceLE, Nat.reduceLT, bz_F3, wi, hs]
    refine hK _ ?_
    clear hK K
    repeat first
      | (refine hK _ ?_; clear hK K)
      | ((first | refine vm_reg (fun K hK => ?_) | refine vm_dreg (fun K hK => ?_)); simp (disch := (first | omega | assumption)) only [S1, ↓reduceIte, Nat.reduceEqDiff, Nat.reduceAdd, Nat.reduceMul, Nat.reduceDiv, AOp.sb, AOp.mut, ↓Bool.false_eq_true, beq_self_eq_true, ite_self, Nat.reduceLeDiff, Int.reduceEq, Int.reduceSub, Int.reduceAdd, Int.reduceNeg, Int.reduceLT, Int.reduceLE, Nat.reduceLT, bz_F3, tmod_H, tdiv_H, wi, D_cat5]; refine hK _ ?_; clear hK K)
      | simp only [Sv, ↓reduceIte, Nat.reduceEqDiff]
    refine hQ _ (i + 1) ⟨by omega, by omega⟩ (by omega) ?_
    simp (disch := (first | omega | assumption)) only [Sl, Sa, Sw, ↓reduceIte, Nat.reduceEqDiff, Nat.reduceLT, List.all_nil, List.all_cons, Nat.reduceBneDiff, Nat.reduceAdd, bne_iff_ne, ne_eq, reduceCtorEq, not_false_eq_true, not_true_eq_false, Bool.and_true, Bool.true_and, and_true, true_and, and_self, i_eq]
    refine ⟨⟨?_, by omega⟩, ?_⟩
    · rw [nv_take_succ', nv_take_succ', Nat.pow_succ, s3]
    · rw [nv_take_succ', nv_take_succ', fl_succ, fl_congr (by decide) s2, s1]
  · by_cases h2 : (i : Int) < y.length
    · repeat first
        | (refine hK _ ?_; clear hK K)
        | ((first | refine vm_reg (fun K hK => ?_) | refine vm_dreg (fun K hK => ?_)); simp (disch := (first | omega | assumption)) only [S1, ↓reduceIte, Nat.reduceEqDiff, Nat.reduceAdd, Nat.reduceMul, Nat.reduceDiv, AOp.sb, AOp.mut, ↓Bool.false_eq_true, beq_self_eq_true, ite_self, Nat.reduceLeDiff, Int.reduceEq, Int.reduceSub, Int.reduceAdd, Int.reduceNeg, Int.reduceLT, Int.reduceLE, Nat.reduceLT, bz_F3, h1, h2]; refine hK _ ?_; clear hK K)
        | simp only [Sv, ↓reduceIte, Nat.reduceEqDiff]
      try simp only [Sv, ↓reduceIte, Nat.reduceEqDiff]
      refine vm_reg (fun K hK => ?_)
      simp (disch := (first | omega | assumption)) only [S1, ↓reduceIte, Nat.reduceEqDiff, Nat.reduceAdd, Nat.reduceMul, Nat.reduceDiv, AOp.sb, AOp.mut, ↓Bool.false_eq_true, beq_self_eq_true, ite_self, Nat.reduceLeDiff, Int.reduceEq, Int.reduceSub, Int.reduceAdd, Int.reduceNeg, Int.reduceLT, Int.reduceLE, Nat.reduceLT, bz_F3]
      refine clp_mk _ _ ?_ ?_ ?_ (hdigit_spec x i) ?_
      · simp (disch := (first | omega | assumption)) only [S1, ↓reduceIte, Nat.reduceEqDiff, Nat.reduceAdd, Nat.reduceMul, Nat.reduceDiv, AOp.sb, AOp.mut, ↓Bool.false_eq_true, beq_self_eq_true, ite_self, Nat.reduceLeDiff, Int.reduceEq, Int.reduceSub, Int.reduceAdd, Int.reduceNeg, Int.reduceLT, Int.reduceLE, Nat.reduceLT, bz_F3]
      · simp (disch := (first | omega | assumption)) only [S1, ↓reduceIte, Nat.reduceEqDiff, Nat.reduceAdd, Nat.reduceMul, Nat.reduceDiv, AOp.sb, AOp.mut, ↓Bool.false_eq_true, beq_self_eq_true, ite_self, Nat.reduceLeDiff, Int.reduceEq, Int.reduceSub, Int.reduceAdd, Int.reduceNeg, Int.reduceLT, Int.reduceLE, Nat.reduceLT, bz_F3]
      · first | rfl | (simp (disch := (first | omega | assumption)) only [S1, ↓reduceIte, Nat.reduceEqDiff, Nat.reduceAdd, Nat.reduceMul, Nat.reduceDiv, AOp.sb, AOp.mut, ↓Bool.false_eq_true, beq_self_eq_true, ite_self, Nat.reduceLeDiff, Int.reduceEq, Int.reduceSub, Int.reduceAdd, Int.reduceNeg, Int.reduceLT, Int.reduceLE, Nat.reduceLT, bz_F3])
      simp (disch := (first | omega | assumption)) only [S1, ↓reduceIte, Nat.reduceEqDiff, Nat.reduceAdd, Nat.reduceMul, Nat.reduceDiv, AOp.sb, AOp.mut, ↓Bool.false_eq_true, beq_self_eq_true, ite_self, Nat.reduceLeDiff, Int.reduceEq, Int.reduceSub, Int.reduceAdd, Int.reduceNeg, Int.reduceLT, Int.reduceLE, Nat.reduceLT, bz_F3]
      refine clp_mk _ _ ?_ ?_ ?_ (hdigit_spec y i) ?_
      · simp (disch := (first | omega | assumption)) only [S1, ↓reduceIte, Nat.reduceEqDiff, Nat.reduceAdd, Nat.reduceMul, Nat.reduceDiv, AOp.sb, AOp.mut, ↓Bool.false_eq_true, beq_self_eq_true, ite_self, Nat.reduceLeDiff, Int.reduceEq, Int.reduceSub, Int.reduceAdd, Int.reduceNeg, Int.reduceLT, Int.reduceLE, Nat.reduceLT, bz_F3]
      · simp (disch := (first | omega | assumption)) only [S1, ↓reduceIte, Nat.reduceEqDiff, Nat.reduceAdd, Nat.reduceMul, Nat.reduceDiv, AOp.sb, AOp.mut, ↓Bool.false_eq_true, beq_self_eq_true, ite_self, Nat.reduceLeDiff, Int.reduceEq, Int.reduceSub, Int.reduceAdd, Int.reduceNeg, Int.reduceLT, Int.reduceLE, Nat.reduceLT, bz_F3]
      · first | rfl | (simp (disch := (first | omega | assumption)) only [S1, ↓reduceIte, Nat.reduceEqDiff, Nat.reduceAdd, Nat.reduceMul, Nat.reduceDiv, AOp.sb, AOp.mut, ↓Bool.false_eq_true, beq_self_eq_true, ite_self, Nat.reduceLeDiff, Int.reduceEq, Int.reduceSub, Int.reduceAdd, Int.reduceNeg, Int.reduceLT, Int.reduceLE, Nat.reduceLT, bz_F3])
      simp (disch := (first | omega | assumption)) only [S1, ↓reduceIte, Nat.reduceEqDiff, Nat.reduceAdd, Nat.reduceMul, Nat.reduceDiv, AOp.sb, AOp.mut, ↓Bool.false_eq_true, beq_self_eq_true, ite_self, Nat.reduceLeDiff, Int.reduceEq, Int.reduceSub, Int.reduceAdd, Int.reduceNeg, Int.reduceLT, Int.reduceLE, Nat.reduceLT, bz_F3, wi, hs]
      refine hK _ ?_
      clear hK K
      repeat first
        | (refine hK _ ?_; clear hK K)
        | ((first | refine vm_reg (fun K hK => ?_) | refine vm_dreg (fun K hK => ?_)); simp (disch := (first | omega | assumption)) only [S1, ↓reduceIte, Nat.reduceEqDiff, Nat.reduceAdd, Nat.reduceMul, Nat.reduceDiv, AOp.sb, AOp.mut, ↓Bool.false_eq_true, beq_self_eq_true, ite_self, Nat.reduceLeDiff, Int.reduceEq, Int.reduceSub, Int.reduceAdd, Int.reduceNeg, Int.reduceLT, Int.reduceLE, Nat.reduceLT, bz_F3, tmod_H, tdiv_H, wi, D_cat5]; refine hK _ ?_; clear hK K)
        | simp only [Sv, ↓reduceIte, Nat.reduceEqDiff]
      refine hQ _ (i + 1) ⟨by omega, by omega⟩ (by omega) ?_
      simp (disch := (first | omega | assumption)) only [Sl, Sa, Sw, ↓reduceIte, Nat.reduceEqDiff, Nat.reduceLT, List.all_nil, List.all_cons, Nat.reduceBneDiff, Nat.reduceAdd, bne_iff_ne, ne_eq, reduceCtorEq, not_false_eq_true, not_true_eq_false, Bool.and_true, Bool.true_and, and_true, true_and, and_self, i_eq]
      refine ⟨⟨?_, by omega⟩, ?_⟩
      · rw [nv_take_succ', nv_take_succ', Nat.pow_succ, s3]
      · rw [nv_take_succ', nv_take_succ', fl_succ, fl_congr (by decide) s2, s1]
    · by_cases h3 : (0 : Int) < c
      · have hne : i ≠ m + 1 := fun h => by
          have := full (by omega)
          rw [h, Nat.div_eq_of_lt small] at this
          omega
        repeat first
          | (refine hK _ ?_; clear hK K)
          | ((first | refine vm_reg (fun K hK => ?_) | refine vm_dreg (fun K hK => ?_)); simp (disch := (first | omega | assumption)) only [S1, ↓reduceIte, Nat.reduceEqDiff, Nat.reduceAdd, Nat.reduceMul, Nat.reduceDiv, AOp.sb, AOp.mut, ↓Bool.false_eq_true, beq_self_eq_true, ite_self, Nat.reduceLeDiff, Int.reduceEq, Int.reduceSub, Int.reduceAdd, Int.reduceNeg, Int.reduceLT, Int.reduceLE, Nat.reduceLT, bz_F3, h1, h2, h3]; refine hK _ ?_; clear hK K)
          | simp only [Sv, ↓reduceIte, Nat.reduceEqDiff]
        try simp only [Sv, ↓reduceIte, Nat.reduceEqDiff]
        refine vm_reg (fun K hK => ?_)
        simp (disch := (first | omega | assumption)) only [S1, ↓reduceIte, Nat.reduceEqDiff, Nat.reduceAdd, Nat.reduceMul, Nat.reduceDiv, AOp.sb, AOp.mut, ↓Bool.false_eq_true, beq_self_eq_true, ite_self, Nat.reduceLeDiff, Int.reduceEq, Int.reduceSub, Int.reduceAdd, Int.reduceNeg, Int.reduceLT, Int.reduceLE, Nat.reduceLT, bz_F3]
        refine clp_mk _ _ ?_ ?_ ?_ (hdigit_spec x i) ?_
        · simp (disch := (first | omega | assumption)) only [S1, ↓reduceIte, Nat.reduceEqDiff, Nat.reduceAdd, Nat.reduceMul, Nat.reduceDiv, AOp.sb, AOp.mut, ↓Bool.false_eq_true, beq_self_eq_true, ite_self, Nat.reduceLeDiff, Int.reduceEq, Int.reduceSub, Int.reduceAdd, Int.reduceNeg, Int.reduceLT, Int.reduceLE, Nat.reduceLT, bz_F3]
        · simp (disch := (first | omega | assumption)) only [S1, ↓reduceIte, Nat.reduceEqDiff, Nat.reduceAdd, Nat.reduceMul, Nat.reduceDiv, AOp.sb, AOp.mut, ↓Bool.false_eq_true, beq_self_eq_true, ite_self, Nat.reduceLeDiff, Int.reduceEq, Int.reduceSub, Int.reduceAdd, Int.reduceNeg, Int.reduceLT, Int.reduceLE, Nat.reduceLT, bz_F3]
        · first | rfl | (simp (disch := (first | omega | assumption)) only [S1, ↓reduceIte, Nat.reduceEqDiff, Nat.reduceAdd, Nat.reduceMul, Nat.reduceDiv, AOp.sb, AOp.mut, ↓Bool.false_eq_true, beq_self_eq_true, ite_self, Nat.reduceLeDiff, Int.reduceEq, Int.reduceSub, Int.reduceAdd, Int.reduceNeg, Int.reduceLT, Int.reduceLE, Nat.reduceLT, bz_F3])
        simp (disch := (first | omega | assumption)) only [S1, ↓reduceIte, Nat.reduceEqDiff, Nat.reduceAdd, Nat.reduceMul, Nat.reduceDiv, AOp.sb, AOp.mut, ↓Bool.false_eq_true, beq_self_eq_true, ite_self, Nat.reduceLeDiff, Int.reduceEq, Int.reduceSub, Int.reduceAdd, Int.reduceNeg, Int.reduceLT, Int.reduceLE, Nat.reduceLT, bz_F3]
        refine clp_mk _ _ ?_ ?_ ?_ (hdigit_spec y i) ?_
        · simp (disch := (first | omega | assumption)) only [S1, ↓reduceIte, Nat.reduceEqDiff, Nat.reduceAdd, Nat.reduceMul, Nat.reduceDiv, AOp.sb, AOp.mut, ↓Bool.false_eq_true, beq_self_eq_true, ite_self, Nat.reduceLeDiff, Int.reduceEq, Int.reduceSub, Int.reduceAdd, Int.reduceNeg, Int.reduceLT, Int.reduceLE, Nat.reduceLT, bz_F3]
        · simp (disch := (first | omega | assumption)) only [S1, ↓reduceIte, Nat.reduceEqDiff, Nat.reduceAdd, Nat.reduceMul, Nat.reduceDiv, AOp.sb, AOp.mut, ↓Bool.false_eq_true, beq_self_eq_true, ite_self, Nat.reduceLeDiff, Int.reduceEq, Int.reduceSub, Int.reduceAdd, Int.reduceNeg, Int.reduceLT, Int.reduceLE, Nat.reduceLT, bz_F3]
        · first | rfl | (simp (disch := (first | omega | assumption)) only [S1, ↓reduceIte, Nat.reduceEqDiff, Nat.reduceAdd, Nat.reduceMul, Nat.reduceDiv, AOp.sb, AOp.mut, ↓Bool.false_eq_true, beq_self_eq_true, ite_self, Nat.reduceLeDiff, Int.reduceEq, Int.reduceSub, Int.reduceAdd, Int.reduceNeg, Int.reduceLT, Int.reduceLE, Nat.reduceLT, bz_F3])
        simp (disch := (first | omega | assumption)) only [S1, ↓reduceIte, Nat.reduceEqDiff, Nat.reduceAdd, Nat.reduceMul, Nat.reduceDiv, AOp.sb, AOp.mut, ↓Bool.false_eq_true, beq_self_eq_true, ite_self, Nat.reduceLeDiff, Int.reduceEq, Int.reduceSub, Int.reduceAdd, Int.reduceNeg, Int.reduceLT, Int.reduceLE, Nat.reduceLT, bz_F3, wi, hs]
        refine hK _ ?_
        clear hK K
        repeat first
          | (refine hK _ ?_; clear hK K)
          | ((first | refine vm_reg (fun K hK => ?_) | refine vm_dreg (fun K hK => ?_)); simp (disch := (first | omega | assumption)) only [S1, ↓reduceIte, Nat.reduceEqDiff, Nat.reduceAdd, Nat.reduceMul, Nat.reduceDiv, AOp.sb, AOp.mut, ↓Bool.false_eq_true, beq_self_eq_true, ite_self, Nat.reduceLeDiff, Int.reduceEq, Int.reduceSub, Int.reduceAdd, Int.reduceNeg, Int.reduceLT, Int.reduceLE, Nat.reduceLT, bz_F3, tmod_H, tdiv_H, wi, D_cat5]; refine hK _ ?_; clear hK K)
          | simp only [Sv, ↓reduceIte, Nat.reduceEqDiff]
        refine hQ _ (i + 1) ⟨by omega, fun h => by have := full (by omega); rw [show m = i from by omega, ← this]; omega⟩ (by omega) ?_
        simp (disch := (first | omega | assumption)) only [Sl, Sa, Sw, ↓reduceIte, Nat.reduceEqDiff, Nat.reduceLT, List.all_nil, List.all_cons, Nat.reduceBneDiff, Nat.reduceAdd, bne_iff_ne, ne_eq, reduceCtorEq, not_false_eq_true, not_true_eq_false, Bool.and_true, Bool.true_and, and_true, true_and, and_self, i_eq]
        refine ⟨⟨?_, by omega⟩, ?_⟩
        · rw [nv_take_succ', nv_take_succ', Nat.pow_succ, s3]
        · rw [nv_take_succ', nv_take_succ', fl_succ, fl_congr (by decide) s2, s1]
      · repeat first
          | (refine hK _ ?_; clear hK K)
          | ((first | refine vm_reg (fun K hK => ?_) | refine vm_dreg (fun K hK => ?_)); simp (disch := (first | omega | assumption)) only [S1, ↓reduceIte, Nat.reduceEqDiff, Nat.reduceAdd, Nat.reduceMul, Nat.reduceDiv, AOp.sb, AOp.mut, ↓Bool.false_eq_true, beq_self_eq_true, ite_self, Nat.reduceLeDiff, Int.reduceEq, Int.reduceSub, Int.reduceAdd, Int.reduceNeg, Int.reduceLT, Int.reduceLE, Nat.reduceLT, bz_F3, h1, h2, h3]; refine hK _ ?_; clear hK K)
          | simp only [Sv, ↓reduceIte, Nat.reduceEqDiff]
        refine he _ _ ?_
        repeat first
          | (refine hK _ ?_; clear hK K)
          | ((first | refine vm_reg (fun K hK => ?_) | refine vm_dreg (fun K hK => ?_)); simp (disch := (first | omega | assumption)) only [S1, ↓reduceIte, Nat.reduceEqDiff, Nat.reduceAdd, Nat.reduceMul, Nat.reduceDiv, AOp.sb, AOp.mut, ↓Bool.false_eq_true, beq_self_eq_true, ite_self, Nat.reduceLeDiff, Int.reduceEq, Int.reduceSub, Int.reduceAdd, Int.reduceNeg, Int.reduceLT, Int.reduceLE, Nat.reduceLT, bz_F3]; refine hK _ ?_; clear hK K)
          | simp only [Sv, ↓reduceIte, Nat.reduceEqDiff]
        have e : fl 65536 i (nv 65536 (x.take i) + nv 65536 (y.take i)) = fl 65536 (addh x y) (nv 65536 x + nv 65536 y) := by
          rw [List.take_of_length_le (by omega), List.take_of_length_le (by omega), han]
          have h4 := full (by omega)
          congr 1
          split
          · rename_i h5
            rcases Nat.lt_or_ge m i with h6 | h6
            · exact absurd h5 (hi2 (by omega))
            · omega
          · rename_i h5
            rcases Nat.lt_or_ge m i with h6 | h6
            · omega
            · exfalso; apply h5; rw [show m = i from by omega, ← h4]; omega
        simp (disch := (first | omega | assumption)) only [retOk, retN, ret1, retF, ret1F, V.okArg, and_true, true_and, S1, ↓reduceIte, Nat.reduceEqDiff, Nat.reduceAdd, Nat.reduceMul, Nat.reduceDiv, AOp.sb, AOp.mut, ↓Bool.false_eq_true, beq_self_eq_true, ite_self, Nat.reduceLeDiff, Int.reduceEq, Int.reduceSub, Int.reduceAdd, Int.reduceNeg, Int.reduceLT, Int.reduceLE, Nat.reduceLT, bz_F3, e]


-- surd/surdref01.Minus
def a119 : AC := .seq (.reg [⟨some 4, none, .mv (.k .nl)⟩])
  (.seq (.reg [⟨some 5, none, .mv (.k .nl)⟩])
  (.seq (.reg [⟨some 6, none, .mv (.k (.i .i64 0))⟩])
  (.seq (.seq (.reg [⟨some 7, none, .mv (.k (.i .i64 0))⟩])
    (.blk 0
    (.loop
      (.seq (.seq (.reg [⟨some 9, none, .mv (.t 7)⟩, 
              ⟨some 10, none, .mv (.t 0)⟩, 
              ⟨some 11, none, .len (.t 10)⟩, 
              ⟨some 12, none, .bin .lss (.t 9) (.t 11)⟩])
          (.cond (.t 12)
          (.skip)
          (.exit 0)))
        (.seq (.blk 1
          (.seq (.reg [⟨some 15, none, .mv (.t 0)⟩, 
                ⟨some 16, none, .mv (.t 7)⟩, 
                ⟨some 17, none, .call 109 [(1, (.t 15)), (1, (.t 16))]⟩, 
                ⟨some 18, none, .mv (.t 1)⟩, 
                ⟨some 19, none, .mv (.t 7)⟩, 
                ⟨some 20, none, .call 109 [(1, (.t 18)), (1, (.t 19))]⟩, 
                ⟨some 21, none, .bin .sub (.t 17) (.t 20)⟩, 
                ⟨some 22, none, .mv (.t 6)⟩, 
                ⟨some 23, none, .bin .sub (.t 21) (.t 22)⟩, 
                ⟨some 8, none, .mv (.t 23)⟩])
            (.seq (.reg [⟨some 6, none, .mv (.k (.i .i64 0))⟩])
            (.seq (.seq (.reg [⟨some 24, none, .mv (.t 8)⟩, 
                  ⟨some 25, none, .bin .lss (.t 24) (.k (.i .i64 0))⟩])
              (.cond (.t 25)
              (.seq (.reg [⟨some 26, none, .mv (.t 8)⟩, 
                    ⟨some 27, none, .bin .add (.t 26) (.k (.i .i64 65536))⟩, 
                    ⟨some 8, none, .mv (.t 27)⟩])
                (.reg [⟨some 6, none, .mv (.k (.i .i64 1))⟩]))
              (.skip)))
            (.reg [⟨some 28, none, .mv (.t 5)⟩, 
              ⟨some 29, none, .mv (.t 8)⟩, 
              ⟨some 30, none, .bsl 3 1 1 [(.i .i64 0)] [(0, (.t 29))]⟩, 
              ⟨some 31, none, .app 3 1 8 (.t 28) (.t 30)⟩, 
              ⟨some 5, none, .mv (.t 31)⟩])))))
        (.reg [⟨some 13, none, .mv (.t 7)⟩, 
          ⟨some 14, none, .bin .add (.t 13) (.k (.i .i64 1))⟩, 
          ⟨some 7, none, .mv (.t 14)⟩]))))))
  (.seq (.reg [⟨some 32, none, .mv (.t 5)⟩, 
      ⟨some 4, none, .mv (.t 32)⟩])
  (.ret)))))
theorem hminus_spec (x y : List Nat) (hx : Lt 65536 x) (hy : Lt 65536 y) (lx : x.length ≤ 1000000000000) :
    AFun Try.prog J0 119 [.l 1 (D x), .l 1 (D y)] (.o 3 1 (D (fl 65536 x.length (nv 65536 x + 65536 ^ x.length - nv 65536 (y.take x.length))))) := by
  refine AFun.mk fol J0s Try.func119 rfl (ac := a119) (by kernel_rfl) rfl rfl ?_
  apply vm_start
  unfold a119
  simp only [init_eq, initE]
  repeat first
    | (refine hK _ ?_; clear hK K)
    | ((first | refine vm_reg (fun K hK => ?_) | refine vm_dreg (fun K hK => ?_)); simp (disch := (first | omega | assumption)) only [S1, ↓reduceIte, Nat.reduceEqDiff, Nat.reduceAdd, Nat.reduceMul, Nat.reduceDiv, AOp.sb, AOp.mut, ↓Bool.false_eq_true, beq_self_eq_true, ite_self, Nat.reduceLeDiff, Int.reduceEq, Int.reduceSub, Int.reduceAdd, Int.reduceNeg, Int.reduceLT, Int.reduceLE, Nat.reduceLT, bz_F3]; refine hK _ ?_; clear hK K)
    | simp only [Sv, ↓reduceIte, Nat.reduceEqDiff]
  refine vm_loopA [(5, 3, 1)] Nat (fun i => ⟨[(0, .l 1 (D x)), (1, .l 1 (D y)), (5, .ow 1 0 i), (6, .i .i64 ((if nv 65536 (x.take i) < nv 65536 (y.take i) then 1 else 0 : Nat) : Int)), (7, .i .i64 (i : Int))], [(0, some ⟨3, 1, D (fl 65536 i (nv 65536 (x.take i) + 65536 ^ i - nv 65536 (y.take i))), true, false⟩)], 1⟩)
    (fun i => i ≤ x.length) (fun i => x.length - i) 0 (by omega) (by simp (disch := (first | omega | assumption)) only [Sl, Sa, Sw, ↓reduceIte, Nat.reduceEqDiff, Nat.reduceLT, List.all_nil, List.all_cons, Nat.reduceBneDiff, Nat.reduceAdd, bne_iff_ne, ne_eq, reduceCtorEq, not_false_eq_true, not_true_eq_false, Bool.and_true, Bool.true_and, and_true, true_and, and_self]) (by
    simp (disch := (first | omega | assumption)) only [Sl, Sa, Sw, ↓reduceIte, Nat.reduceEqDiff, Nat.reduceLT, List.all_nil, List.all_cons, Nat.reduceBneDiff, Nat.reduceAdd, bne_iff_ne, ne_eq, reduceCtorEq, not_false_eq_true, not_true_eq_false, Bool.and_true, Bool.true_and, and_true, true_and, and_self, i_eq]
    exact ⟨⟨by simp [nv], rfl⟩, rfl⟩) ?_
  intro i hi Q' hQ he hr
  have gx := Lt_get hx (by decide : 0 < 65536) i
  have gy := Lt_get hy (by decide : 0 < 65536) i
  have st := sub_step (b := 65536) (P := 65536 ^ i) (Nat.pow_pos (by decide)) (nv_take_lt (b := 65536) (by decide) hx i) (nv_take_lt (b := 65536) (by decide) hy i) gx gy
  obtain ⟨c, hc⟩ : ∃ c, c = (if nv 65536 (x.take i) < nv 65536 (y.take i) then 1 else 0 : Nat) := ⟨_, rfl⟩
  rw [← hc] at st
  obtain ⟨s1, s2, s3⟩ := st
  have hc1 : c ≤ 1 := by rw [hc]; split <;> omega
  have e : nv 65536 (x.take (i + 1)) + 65536 ^ (i + 1) - nv 65536 (y.take (i + 1)) = nv 65536 (x.take i) + 65536 ^ i * x.getD i 0 + 65536 ^ i * 65536 - (nv 65536 (y.take i) + 65536 ^ i * y.getD i 0) := by rw [nv_take_succ', nv_take_succ', Nat.pow_succ]
  have nxt : fl 65536 (i + 1) (nv 65536 (x.take (i + 1)) + 65536 ^ (i + 1) - nv 65536 (y.take (i + 1))) = fl 65536 i (nv 65536 (x.take i) + 65536 ^ i - nv 65536 (y.take i)) ++ [(x.getD i 0 + 65536 - (y.getD i 0 + c)) % 65536] := by
    rw [e, fl_succ, fl_congr (by decide) s2, s1]
  simp only [← hc]
  have d1 := hdigit_spec x i
  have d2 := hdigit_spec y i
  by_cases h : (i : Int) < x.length
  · by_cases h2 : ((x.getD i 0 : Nat) : Int) - ((y.getD i 0 : Nat) : Int) - (c : Int) < 0
    · obtain ⟨d, hd⟩ : ∃ d : Nat, d = x.getD i 0 + 65536 - (y.getD i 0 + c) := ⟨_, rfl⟩
      have hd2 : ((x.getD i 0 : Nat) : Int) - ((y.getD i 0 : Nat) : Int) - (c : Int) + 65536 = (d : Int) := by omega
      have zc1 := d1
      have zc2 := d2
      repeat first | (refine hK _ ?_; clear hK K) | simp only [Sv, ↓reduceIte, Nat.reduceEqDiff] | ((first | refine vm_reg (fun K hK => ?_) | refine vm_dreg (fun K hK => ?_) | refine clp_q ?_ | refine clq_mk (by assumption) ?_); simp (disch := (first | omega | assumption)) only [S1, ↓reduceIte, Nat.reduceEqDiff, Nat.reduceAdd, Nat.reduceMul, Nat.reduceDiv, AOp.sb, AOp.mut, ↓Bool.false_eq_true, beq_self_eq_true, ite_self, Nat.reduceLeDiff, Int.reduceEq, Int.reduceSub, Int.reduceAdd, Int.reduceNeg, Int.reduceLT, Int.reduceLE, Nat.reduceLT, bz_F3, h, h2, wi, hd2, D_cat5])
      refine hQ _ (i + 1) (by omega) (by omega) ?_
      simp (disch := (first | omega | assumption)) only [Sl, Sa, Sw, ↓reduceIte, Nat.reduceEqDiff, Nat.reduceLT, List.all_nil, List.all_cons, Nat.reduceBneDiff, Nat.reduceAdd, bne_iff_ne, ne_eq, reduceCtorEq, not_false_eq_true, not_true_eq_false, Bool.and_true, Bool.true_and, and_true, true_and, and_self, i_eq]
      refine ⟨⟨?_, by omega⟩, ?_⟩
      · rw [nv_take_succ', nv_take_succ']; simp only [s3]; split <;> omega
      · rw [nxt]; congr 3; omega
    · obtain ⟨d, hd⟩ : ∃ d : Nat, d = x.getD i 0 - (y.getD i 0 + c) := ⟨_, rfl⟩
      have hd2 : ((x.getD i 0 : Nat) : Int) - ((y.getD i 0 : Nat) : Int) - (c : Int) = (d : Int) := by omega
      have h3 : ¬ (d : Int) < 0 := by omega
      have zc3 := d1
      have zc4 := d2
      repeat first | (refine hK _ ?_; clear hK K) | simp only [Sv, ↓reduceIte, Nat.reduceEqDiff] | ((first | refine vm_reg (fun K hK => ?_) | refine vm_dreg (fun K hK => ?_) | refine clp_q ?_ | refine clq_mk (by assumption) ?_); simp (disch := (first | omega | assumption)) only [S1, ↓reduceIte, Nat.reduceEqDiff, Nat.reduceAdd, Nat.reduceMul, Nat.reduceDiv, AOp.sb, AOp.mut, ↓Bool.false_eq_true, beq_self_eq_true, ite_self, Nat.reduceLeDiff, Int.reduceEq, Int.reduceSub, Int.reduceAdd, Int.reduceNeg, Int.reduceLT, Int.reduceLE, Nat.reduceLT, bz_F3, h, h2, h3, wi, hd2, D_cat5])
      refine hQ _ (i + 1) (by omega) (by omega) ?_
      simp (disch := (first | omega | assumption)) only [Sl, Sa, Sw, ↓reduceIte, Nat.reduceEqDiff, Nat.reduceLT, List.all_nil, List.all_cons, Nat.reduceBneDiff, Nat.reduceAdd, bne_iff_ne, ne_eq, reduceCtorEq, not_false_eq_true, not_true_eq_false, Bool.and_true, Bool.true_and, and_true, true_and, and_self, i_eq]
      refine ⟨⟨?_, by omega⟩, ?_⟩
      · rw [nv_take_succ', nv_take_succ']; simp only [s3]; split <;> omega
      · rw [nxt]; congr 3; omega
  · obtain rfl : i = x.length := by omega
    repeat first
      | (refine hK _ ?_; clear hK K)
      | ((first | refine vm_reg (fun K hK => ?_) | refine vm_dreg (fun K hK => ?_)); simp (disch := (first | omega | assumption)) only [S1, ↓reduceIte, Nat.reduceEqDiff, Nat.reduceAdd, Nat.reduceMul, Nat.reduceDiv, AOp.sb, AOp.mut, ↓Bool.false_eq_true, beq_self_eq_true, ite_self, Nat.reduceLeDiff, Int.reduceEq, Int.reduceSub, Int.reduceAdd, Int.reduceNeg, Int.reduceLT, Int.reduceLE, Nat.reduceLT, bz_F3, h]; refine hK _ ?_; clear hK K)
      | simp only [Sv, ↓reduceIte, Nat.reduceEqDiff]
    refine he _ _ ?_
    repeat first
      | (refine hK _ ?_; clear hK K)
      | ((first | refine vm_reg (fun K hK => ?_) | refine vm_dreg (fun K hK => ?_)); simp (disch := (first | omega | assumption)) only [S1, ↓reduceIte, Nat.reduceEqDiff, Nat.reduceAdd, Nat.reduceMul, Nat.reduceDiv, AOp.sb, AOp.mut, ↓Bool.false_eq_true, beq_self_eq_true, ite_self, Nat.reduceLeDiff, Int.reduceEq, Int.reduceSub, Int.reduceAdd, Int.reduceNeg, Int.reduceLT, Int.reduceLE, Nat.reduceLT, bz_F3]; refine hK _ ?_; clear hK K)
      | simp only [Sv, ↓reduceIte, Nat.reduceEqDiff]
    simp (disch := (first | omega | assumption)) only [retOk, retN, ret1, retF, ret1F, V.okArg, and_true, true_and, S1, ↓reduceIte, Nat.reduceEqDiff, Nat.reduceAdd, Nat.reduceMul, Nat.reduceDiv, AOp.sb, AOp.mut, ↓Bool.false_eq_true, beq_self_eq_true, ite_self, Nat.reduceLeDiff, Int.reduceEq, Int.reduceSub, Int.reduceAdd, Int.reduceNeg, Int.reduceLT, Int.reduceLE, Nat.reduceLT, bz_F3]
    rw [List.take_length]
end Go.Proofs.Ytfkldohgiifgbaa
