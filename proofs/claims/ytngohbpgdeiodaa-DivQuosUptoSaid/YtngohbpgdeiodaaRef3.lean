/-
  surdref02: sums, differences of digits.
-/
import Derived.Test.YtngohbpgdeiodaaRef2
namespace Go.Proofs.Ytngohbpgdeiodaa
open Go Go.RowKit Ab
set_option linter.unusedSimpArgs false
set_option linter.unusedVariables false
set_option maxHeartbeats 10000000

-- surd/surdref02.add
def a84 : AC := .seq (.reg [⟨some 4, none, .mv (.k .nl)⟩])
  (.seq (.reg [⟨some 5, none, .mv (.k .nl)⟩])
  (.seq (.reg [⟨some 6, none, .mv (.k (.i .i64 0))⟩])
  (.seq (.seq (.reg [⟨some 7, none, .mv (.k (.i .i64 0))⟩])
    (.blk 0
    (.loop
      (.seq (.seq (.reg [⟨some 9, none, .mv (.t 7)⟩, 
              ⟨some 10, none, .mv (.t 0)⟩, 
              ⟨some 11, none, .len (.t 10)⟩, 
              ⟨some 12, none, .bin .lss (.t 9) (.t 11)⟩, 
              ⟨some 13, none, .mv (.t 12)⟩, 
              ⟨some 14, some (13, false), .mv (.t 7)⟩, 
              ⟨some 15, some (13, false), .mv (.t 1)⟩, 
              ⟨some 16, some (13, false), .len (.t 15)⟩, 
              ⟨some 17, some (13, false), .bin .lss (.t 14) (.t 16)⟩, 
              ⟨some 18, none, .pick (.t 13) (.k (.b true)) (.t 17)⟩, 
              ⟨some 19, none, .mv (.t 18)⟩, 
              ⟨some 20, some (19, false), .mv (.t 6)⟩, 
              ⟨some 21, some (19, false), .bin .gtr (.t 20) (.k (.i .i64 0))⟩, 
              ⟨some 22, none, .pick (.t 19) (.k (.b true)) (.t 21)⟩])
          (.cond (.t 22)
          (.skip)
          (.exit 0)))
        (.seq (.blk 1
          (.seq (.reg [⟨some 25, none, .mv (.t 0)⟩, 
                ⟨some 26, none, .mv (.t 7)⟩, 
                ⟨some 27, none, .call 96 [(1, (.t 25)), (1, (.t 26))]⟩, 
                ⟨some 28, none, .mv (.t 1)⟩, 
                ⟨some 29, none, .mv (.t 7)⟩, 
                ⟨some 30, none, .call 96 [(1, (.t 28)), (1, (.t 29))]⟩, 
                ⟨some 31, none, .bin .add (.t 27) (.t 30)⟩, 
                ⟨some 32, none, .mv (.t 6)⟩, 
                ⟨some 33, none, .bin .add (.t 31) (.t 32)⟩, 
                ⟨some 8, none, .mv (.t 33)⟩])
            (.seq (.reg [⟨some 34, none, .mv (.t 5)⟩, 
                ⟨some 35, none, .mv (.t 8)⟩, 
                ⟨some 36, none, .bin .rem (.t 35) (.k (.i .i64 256))⟩, 
                ⟨some 37, none, .bsl 3 1 1 [(.i .i64 0)] [(0, (.t 36))]⟩, 
                ⟨some 38, none, .app 3 1 8 (.t 34) (.t 37)⟩, 
                ⟨some 5, none, .mv (.t 38)⟩])
            (.reg [⟨some 39, none, .mv (.t 8)⟩, 
              ⟨some 40, none, .bin .quo (.t 39) (.k (.i .i64 256))⟩, 
              ⟨some 6, none, .mv (.t 40)⟩]))))
        (.reg [⟨some 23, none, .mv (.t 7)⟩, 
          ⟨some 24, none, .bin .add (.t 23) (.k (.i .i64 1))⟩, 
          ⟨some 7, none, .mv (.t 24)⟩]))))))
  (.seq (.reg [⟨some 41, none, .mv (.t 5)⟩, 
      ⟨some 4, none, .mv (.t 41)⟩])
  (.ret)))))
/-- so many digits as there are in the one, in the other, and one more for a carry -/
def addn (x y : List Nat) : Nat := if (nv 256 x + nv 256 y) / 256 ^ (max x.length y.length) = 0 then max x.length y.length else max x.length y.length + 1
theorem dadd_spec (x y : List Nat) (hx : Lt 256 x) (hy : Lt 256 y) (lx : x.length ≤ 1000000000000) (ly : y.length ≤ 1000000000000) :
    AFun Try.prog J0 84 [.l 1 (D x), .l 1 (D y)] (.o 3 1 (D (fl 256 (addn x y) (nv 256 x + nv 256 y)))) := by
  refine AFun.mk fol J0s Try.func84 rfl (ac := a84) (by kernel_rfl) rfl rfl ?_
  apply vm_start
  unfold a84
  simp only [init_eq, initE]
  generalize hm : max x.length y.length = m
  have han : addn x y = if (nv 256 x + nv 256 y) / 256 ^ m = 0 then m else m + 1 := by unfold addn; rw [hm]
  repeat first
    | (refine hK _ ?_; clear hK K)
    | ((first | refine vm_reg (fun K hK => ?_) | refine vm_dreg (fun K hK => ?_)); simp (disch := (first | omega | assumption)) only [S1, ↓reduceIte, Nat.reduceEqDiff, Nat.reduceAdd, Nat.reduceMul, Nat.reduceDiv, AOp.sb, AOp.mut, ↓Bool.false_eq_true, beq_self_eq_true, ite_self, Nat.reduceLeDiff, Int.reduceEq, Int.reduceSub, Int.reduceAdd, Int.reduceNeg, Int.reduceLT, Int.reduceLE, Nat.reduceLT, W_len, D_len, Nat.div_one, Nat.mul_one, tn_nat, W_nf, D_nf, W_nil, D_nil]; refine hK _ ?_; clear hK K)
    | simp only [Sv, ↓reduceIte, Nat.reduceEqDiff]
  refine vm_loopM [(5, 3, 1)] Nat (fun i => ⟨[(0, .l 1 (D x)), (1, .l 1 (D y)), (5, .ow 1 0 i), (6, .i .i64 (((nv 256 (x.take i) + nv 256 (y.take i)) / 256 ^ i : Nat) : Int)), (7, .i .i64 (i : Int))], [(0, some ⟨3, 1, D (fl 256 i (nv 256 (x.take i) + nv 256 (y.take i))), true, false⟩)], 1⟩)
    (fun i => i ≤ m + 1 ∧ (i = m + 1 → (nv 256 x + nv 256 y) / 256 ^ m ≠ 0)) (fun i => m + 1 - i) 0 [(0, 4)] ⟨by omega, by omega⟩ (by simp (disch := (first | omega | assumption)) only [Sl, Sa, Sw, ↓reduceIte, Nat.reduceEqDiff, Nat.reduceLT, List.all_nil, List.all_cons, Nat.reduceBneDiff, Nat.reduceAdd, bne_iff_ne, ne_eq, reduceCtorEq, not_false_eq_true, not_true_eq_false, Bool.and_true, Bool.true_and, and_true, true_and, and_self]) (by
    simp (disch := (first | omega | assumption)) only [Sl, Sa, Sw, ↓reduceIte, Nat.reduceEqDiff, Nat.reduceLT, List.all_nil, List.all_cons, Nat.reduceBneDiff, Nat.reduceAdd, bne_iff_ne, ne_eq, reduceCtorEq, not_false_eq_true, not_true_eq_false, Bool.and_true, Bool.true_and, and_true, true_and, and_self, i_eq]
    exact ⟨⟨by simp [nv], rfl⟩, rfl⟩) ?_
  intro i ⟨hi, hi2⟩ Q' hQ he hr
  generalize hc : (nv 256 (x.take i) + nv 256 (y.take i)) / 256 ^ i = c
  have hcB : c ≤ 1 := by
    have h1 := nv_take_lt (b := 256) (by decide) hx i
    have h2 := nv_take_lt (b := 256) (by decide) hy i
    rw [← hc]
    exact Nat.le_of_lt_succ ((Nat.div_lt_iff_lt_mul (Nat.pow_pos (by decide))).2 (by omega))
  have gx := Lt_get hx (by decide : 0 < 256) i
  have gy := Lt_get hy (by decide : 0 < 256) i
  obtain ⟨n, hn⟩ : ∃ n, n = x.getD i 0 + y.getD i 0 + c := ⟨_, rfl⟩
  have hs : ((x.getD i 0 : Nat) : Int) + ((y.getD i 0 : Nat) : Int) + (c : Int) = (n : Int) := by omega
  obtain ⟨s1, s2, s3⟩ := add_step (b := 256) (P := 256 ^ i) (A := nv 256 (x.take i)) (Y := nv 256 (y.take i)) (x := x.getD i 0) (y := y.getD i 0) (Nat.pow_pos (by decide)) (by decide)
  rw [hc, ← hn] at s1 s3
  have full : m ≤ i → c = (nv 256 x + nv 256 y) / 256 ^ i := fun h => by
    rw [← hc, List.take_of_length_le (by omega), List.take_of_length_le (by omega)]
  have small : nv 256 x + nv 256 y < 256 ^ (m + 1) := by
    have h1 := nv_lt hx
    have h2 := nv_lt hy
    have h3 : 256 ^ x.length ≤ 256 ^ m := Nat.pow_le_pow_right (by decide) (by omega)
    have h4 : 256 ^ y.length ≤ 256 ^ m := Nat.pow_le_pow_right (by decide) (by omega)
    rw [Nat.pow_succ]; omega
  by_cases h1 : (i : Int) < x.length
  · repeat first
      | (refine hK _ ?_; clear hK K)
      | ((first | refine vm_reg (fun K hK => ?_) | refine vm_dreg (fun K hK => ?_)); simp (disch := (first | omega | assumption)) only [S1, ↓reduceIte, Nat.reduceEqDiff, Nat.reduceAdd, Nat.reduceMul, Nat.reduceDiv, AOp.sb, AOp.mut, ↓Bool.false_eq_true, beq_self_eq_true, ite_self, Nat.reduceLeDiff, Int.reduceEq, Int.reduceSub, Int.reduceAdd, Int.reduceNeg, Int.reduceLT, Int.reduceLE, Nat.reduceLT, W_len, D_len, Nat.div_one, Nat.mul_one, tn_nat, W_nf, D_nf, W_nil, D_nil, h1]; refine hK _ ?_; clear hK K)
      | simp only [Sv, ↓reduceIte, Nat.reduceEqDiff]
    try simp only [Sv, ↓reduceIte, Nat.reduceEqDiff]
    refine vm_reg (fun K hK => ?_)
    simp (disch := (first | omega | assumption)) only [S1, ↓reduceIte, Nat.reduceEqDiff, Nat.reduceAdd, Nat.reduceMul, Nat.reduceDiv, AOp.sb, AOp.mut, ↓Bool.false_eq_true, beq_self_eq_true, ite_self, Nat.reduceLeDiff, Int.reduceEq, Int.reduceSub, Int.reduceAdd, Int.reduceNeg, Int.reduceLT, Int.reduceLE, Nat.reduceLT, W_len, D_len, Nat.div_one, Nat.mul_one, tn_nat, W_nf, D_nf, W_nil, D_nil]
    refine clp_mk _ _ ?_ ?_ ?_ (dat_spec x i) ?_
    · simp (disch := (first | omega | assumption)) only [S1, ↓reduceIte, Nat.reduceEqDiff, Nat.reduceAdd, Nat.reduceMul, Nat.reduceDiv, AOp.sb, AOp.mut, ↓Bool.false_eq_true, beq_self_eq_true, ite_self, Nat.reduceLeDiff, Int.reduceEq, Int.reduceSub, Int.reduceAdd, Int.reduceNeg, Int.reduceLT, Int.reduceLE, Nat.reduceLT, W_len, D_len, Nat.div_one, Nat.mul_one, tn_nat, W_nf, D_nf, W_nil, D_nil]
    · simp (disch := (first | omega | assumption)) only [S1, ↓reduceIte, Nat.reduceEqDiff, Nat.reduceAdd, Nat.reduceMul, Nat.reduceDiv, AOp.sb, AOp.mut, ↓Bool.false_eq_true, beq_self_eq_true, ite_self, Nat.reduceLeDiff, Int.reduceEq, Int.reduceSub, Int.reduceAdd, Int.reduceNeg, Int.reduceLT, Int.reduceLE, Nat.reduceLT, W_len, D_len, Nat.div_one, Nat.mul_one, tn_nat, W_nf, D_nf, W_nil, D_nil]
    · first | rfl | (simp (disch := (first | omega | assumption)) only [S1, ↓reduceIte, Nat.reduceEqDiff, Nat.reduceAdd, Nat.reduceMul, Nat.reduceDiv, AOp.sb, AOp.mut, ↓Bool.false_eq_true, beq_self_eq_true, ite_self, Nat.reduceLeDiff, Int.reduceEq, Int.reduceSub, Int.reduceAdd, Int.reduceNeg, Int.reduceLT, Int.reduceLE, Nat.reduceLT, W_len, D_len, Nat.div_one, Nat.mul_one, tn_nat, W_nf, D_nf, W_nil, D_nil])
    simp (disch := (first | omega | assumption)) only [S1, ↓reduceIte, Nat.reduceEqDiff, Nat.reduceAdd, Nat.reduceMul, Nat.reduceDiv, AOp.sb, AOp.mut, ↓Bool.false_eq_true, beq_self_eq_true, ite_self, Nat.reduceLeDiff, Int.reduceEq, Int.reduceSub, Int.reduceAdd, Int.reduceNeg, Int.reduceLT, Int.reduceLE, Nat.reduceLT, W_len, D_len, Nat.div_one, Nat.mul_one, tn_nat, W_nf, D_nf, W_nil, D_nil]
    refine clp_mk _ _ ?_ ?_ ?_ (dat_spec y i) ?_
    · simp (disch := (first | omega | assumption)) only [S1, ↓reduceIte, Nat.reduceEqDiff, Nat.reduceAdd, Nat.reduceMul, Nat.reduceDiv, AOp.sb, AOp.mut, ↓Bool.false_eq_true, beq_self_eq_true, ite_self, Nat.reduceLeDiff, Int.reduceEq, Int.reduceSub, Int.reduceAdd, Int.reduceNeg, Int.reduceLT, Int.reduceLE, Nat.reduceLT, W_len, D_len, Nat.div_one, Nat.mul_one, tn_nat, W_nf, D_nf, W_nil, D_nil]
    · simp (disch := (first | omega | assumption)) only [S1, ↓reduceIte, Nat.reduceEqDiff, Nat.reduceAdd, Nat.reduceMul, Nat.reduceDiv, AOp.sb, AOp.mut, ↓Bool.false_eq_true, beq_self_eq_true, ite_self, Nat.reduceLeDiff, Int.reduceEq, Int.reduceSub, Int.reduceAdd, Int.reduceNeg, Int.reduceLT, Int.reduceLE, Nat.reduceLT, W_len, D_len, Nat.div_one, Nat.mul_one, tn_nat, W_nf, D_nf, W_nil, D_nil]
    · first | rfl | (simp (disch := (first | omega | assumption)) only [S1, ↓reduceIte, Nat.reduceEqDiff, Nat.reduceAdd, Nat.reduceMul, Nat.reduceDiv, AOp.sb, AOp.mut, ↓Bool.false_eq_true, beq_self_eq_true, ite_self, Nat.reduceLeDiff, Int.reduceEq, Int.reduceSub, Int.reduceAdd, Int.reduceNeg, Int.reduceLT, Int.reduceLE, Nat.reduceLT, W_len, D_len, Nat.div_one, Nat.mul_one, tn_nat, W_nf, D_nf, W_nil, D_nil])
    simp (disch := (first | omega | assumption)) only [S1, ↓reduceIte, Nat.reduceEqDiff, Nat.reduceAdd, Nat.reduceMul, Nat.reduceDiv, AOp.sb, AOp.mut, ↓Bool.false_eq_true, beq_self_eq_true, ite_self, Nat.reduceLeDiff, Int.reduceEq, Int.reduceSub, Int.reduceAdd, Int.reduceNeg, Int.reduceLT, Int.reduceLE, Nat.reduceLT, W_len, D_len, Nat.div_one, Nat.mul_one, tn_nat, W_nf, D_nf, W_nil, D_nil, wi, hs]
    refine hK _ ?_
    clear hK K
    repeat first
      | (refine hK _ ?_; clear hK K)
      | ((first | refine vm_reg (fun K hK => ?_) | refine vm_dreg (fun K hK => ?_)); simp (disch := (first | omega | assumption)) only [S1, ↓reduceIte, Nat.reduceEqDiff, Nat.reduceAdd, Nat.reduceMul, Nat.reduceDiv, AOp.sb, AOp.mut, ↓Bool.false_eq_true, beq_self_eq_true, ite_self, Nat.reduceLeDiff, Int.reduceEq, Int.reduceSub, Int.reduceAdd, Int.reduceNeg, Int.reduceLT, Int.reduceLE, Nat.reduceLT, W_len, D_len, Nat.div_one, Nat.mul_one, tn_nat, W_nf, D_nf, W_nil, D_nil, tmod_256, tdiv_256, wi, D_cat1]; refine hK _ ?_; clear hK K)
      | simp only [Sv, ↓reduceIte, Nat.reduceEqDiff]
    refine hQ _ (i + 1) [(0, 29)] ⟨by omega, by omega⟩ (by omega) ?_
    simp (disch := (first | omega | assumption)) only [Sl, Sa, Sw, ↓reduceIte, Nat.reduceEqDiff, Nat.reduceLT, List.all_nil, List.all_cons, Nat.reduceBneDiff, Nat.reduceAdd, bne_iff_ne, ne_eq, reduceCtorEq, not_false_eq_true, not_true_eq_false, Bool.and_true, Bool.true_and, and_true, true_and, and_self, i_eq]
    refine ⟨⟨?_, by omega⟩, ?_⟩
    · rw [nv_take_succ', nv_take_succ', Nat.pow_succ, s3]
    · rw [nv_take_succ', nv_take_succ', fl_succ, fl_congr (by decide) s2, s1]
  · by_cases h2 : (i : Int) < y.length
    · repeat first
        | (refine hK _ ?_; clear hK K)
        | ((first | refine vm_reg (fun K hK => ?_) | refine vm_dreg (fun K hK => ?_)); simp (disch := (first | omega | assumption)) only [S1, ↓reduceIte, Nat.reduceEqDiff, Nat.reduceAdd, Nat.reduceMul, Nat.reduceDiv, AOp.sb, AOp.mut, ↓Bool.false_eq_true, beq_self_eq_true, ite_self, Nat.reduceLeDiff, Int.reduceEq, Int.reduceSub, Int.reduceAdd, Int.reduceNeg, Int.reduceLT, Int.reduceLE, Nat.reduceLT, W_len, D_len, Nat.div_one, Nat.mul_one, tn_nat, W_nf, D_nf, W_nil, D_nil, h1, h2]; refine hK _ ?_; clear hK K)
        | simp only [Sv, ↓reduceIte, Nat.reduceEqDiff]
      try simp only [Sv, ↓reduceIte, Nat.reduceEqDiff]
      refine vm_reg (fun K hK => ?_)
      simp (disch := (first | omega | assumption)) only [S1, ↓reduceIte, Nat.reduceEqDiff, Nat.reduceAdd, Nat.reduceMul, Nat.reduceDiv, AOp.sb, AOp.mut, ↓Bool.false_eq_true, beq_self_eq_true, ite_self, Nat.reduceLeDiff, Int.reduceEq, Int.reduceSub, Int.reduceAdd, Int.reduceNeg, Int.reduceLT, Int.reduceLE, Nat.reduceLT, W_len, D_len, Nat.div_one, Nat.mul_one, tn_nat, W_nf, D_nf, W_nil, D_nil]
      refine clp_mk _ _ ?_ ?_ ?_ (dat_spec x i) ?_
      · simp (disch := (first | omega | assumption)) only [S1, ↓reduceIte, Nat.reduceEqDiff, Nat.reduceAdd, Nat.reduceMul, Nat.reduceDiv, AOp.sb, AOp.mut, ↓Bool.false_eq_true, beq_self_eq_true, ite_self, Nat.reduceLeDiff, Int.reduceEq, Int.reduceSub, Int.reduceAdd, Int.reduceNeg, Int.reduceLT, Int.reduceLE, Nat.reduceLT, W_len, D_len, Nat.div_one, Nat.mul_one, tn_nat, W_nf, D_nf, W_nil, D_nil]
      · simp (disch := (first | omega | assumption)) only [S1, ↓reduceIte, Nat.reduceEqDiff, Nat.reduceAdd, Nat.reduceMul, Nat.reduceDiv, AOp.sb, AOp.mut, ↓Bool.false_eq_true, beq_self_eq_true, ite_self, Nat.reduceLeDiff, Int.reduceEq, Int.reduceSub, Int.reduceAdd, Int.reduceNeg, Int.reduceLT, Int.reduceLE, Nat.reduceLT, W_len, D_len, Nat.div_one, Nat.mul_one, tn_nat, W_nf, D_nf, W_nil, D_nil]
      · first | rfl | (simp (disch := (first | omega | assumption)) only [S1, ↓reduceIte, Nat.reduceEqDiff, Nat.reduceAdd, Nat.reduceMul, Nat.reduceDiv, AOp.sb, AOp.mut, ↓Bool.false_eq_true, beq_self_eq_true, ite_self, Nat.reduceLeDiff, Int.reduceEq, Int.reduceSub, Int.reduceAdd, Int.reduceNeg, Int.reduceLT, Int.reduceLE, Nat.reduceLT, W_len, D_len, Nat.div_one, Nat.mul_one, tn_nat, W_nf, D_nf, W_nil, D_nil])
      simp (disch := (first | omega | assumption)) only [S1, ↓reduceIte, Nat.reduceEqDiff, Nat.reduceAdd, Nat.reduceMul, Nat.reduceDiv, AOp.sb, AOp.mut, ↓Bool.false_eq_true, beq_self_eq_true, ite_self, Nat.reduceLeDiff, Int.reduceEq, Int.reduceSub, Int.reduceAdd, Int.reduceNeg, Int.reduceLT, Int.reduceLE, Nat.reduceLT, W_len, D_len, Nat.div_one, Nat.mul_one, tn_nat, W_nf, D_nf, W_nil, D_nil]
      refine clp_mk _ _ ?_ ?_ ?_ (dat_spec y i) ?_
      · simp (disch := (first | omega | assumption)) only [S1, ↓reduceIte, Nat.reduceEqDiff, Nat.reduceAdd, Nat.reduceMul, Nat.reduceDiv, AOp.sb, AOp.mut, ↓Bool.false_eq_true, beq_self_eq_true, ite_self, Nat.reduceLeDiff, Int.reduceEq, Int.reduceSub, Int.reduceAdd, Int.reduceNeg, Int.reduceLT, Int.reduceLE, Nat.reduceLT, W_len, D_len, Nat.div_one, Nat.mul_one, tn_nat, W_nf, D_nf, W_nil, D_nil]
      · simp (disch := (first | omega | assumption)) only [S1, ↓reduceIte, Nat.reduceEqDiff, Nat.reduceAdd, Nat.reduceMul, Nat.reduceDiv, AOp.sb, AOp.mut, ↓Bool.false_eq_true, beq_self_eq_true, ite_self, Nat.reduceLeDiff, Int.reduceEq, Int.reduceSub, Int.reduceAdd, Int.reduceNeg, Int.reduceLT, Int.reduceLE, Nat.reduceLT, W_len, D_len, Nat.div_one, Nat.mul_one, tn_nat, W_nf, D_nf, W_nil, D_nil]
      · first | rfl | (simp (disch := (first | omega | assumption)) only [S1, ↓reduceIte, Nat.reduceEqDiff, Nat.reduceAdd, Nat.reduceMul, Nat.reduceDiv, AOp.sb, AOp.mut, ↓Bool.false_eq_true, beq_self_eq_true, ite_self, Nat.reduceLeDiff, Int.reduceEq, Int.reduceSub, Int.reduceAdd, Int.reduceNeg, Int.reduceLT, Int.reduceLE, Nat.reduceLT, W_len, D_len, Nat.div_one, Nat.mul_one, tn_nat, W_nf, D_nf, W_nil, D_nil])
      simp (disch := (first | omega | assumption)) only [S1, ↓reduceIte, Nat.reduceEqDiff, Nat.reduceAdd, Nat.reduceMul, Nat.reduceDiv, AOp.sb, AOp.mut, ↓Bool.false_eq_true, beq_self_eq_true, ite_self, Nat.reduceLeDiff, Int.reduceEq, Int.reduceSub, Int.reduceAdd, Int.reduceNeg, Int.reduceLT, Int.reduceLE, Nat.reduceLT, W_len, D_len, Nat.div_one, Nat.mul_one, tn_nat, W_nf, D_nf, W_nil, D_nil, wi, hs]
      refine hK _ ?_
      clear hK K
      repeat first
        | (refine hK _ ?_; clear hK K)
        | ((first | refine vm_reg (fun K hK => ?_) | refine vm_dreg (fun K hK => ?_)); simp (disch := (first | omega | assumption)) only [S1, ↓reduceIte, Nat.reduceEqDiff, Nat.reduceAdd, Nat.reduceMul, Nat.reduceDiv, AOp.sb, AOp.mut, ↓Bool.false_eq_true, beq_self_eq_true, ite_self, Nat.reduceLeDiff, Int.reduceEq, Int.reduceSub, Int.reduceAdd, Int.reduceNeg, Int.reduceLT, Int.reduceLE, Nat.reduceLT, W_len, D_len, Nat.div_one, Nat.mul_one, tn_nat, W_nf, D_nf, W_nil, D_nil, tmod_256, tdiv_256, wi, D_cat1]; refine hK _ ?_; clear hK K)
        | simp only [Sv, ↓reduceIte, Nat.reduceEqDiff]
      refine hQ _ (i + 1) [(0, 29)] ⟨by omega, by omega⟩ (by omega) ?_
      simp (disch := (first | omega | assumption)) only [Sl, Sa, Sw, ↓reduceIte, Nat.reduceEqDiff, Nat.reduceLT, List.all_nil, List.all_cons, Nat.reduceBneDiff, Nat.reduceAdd, bne_iff_ne, ne_eq, reduceCtorEq, not_false_eq_true, not_true_eq_false, Bool.and_true, Bool.true_and, and_true, true_and, and_self, i_eq]
      refine ⟨⟨?_, by omega⟩, ?_⟩
      · rw [nv_take_succ', nv_take_succ', Nat.pow_succ, s3]
      · rw [nv_take_succ', nv_take_succ', fl_succ, fl_congr (by decide) s2, s1]
    · by_cases h3 : (0 : Int) < c
      · have hne : i ≠ m + 1 := fun h => by
          have := full (by omega)
          rw [h, Nat.div_eq_of_lt small] at this
          omega
        repeat first
          | (refine hK _ ?_; clear hK K)
          | ((first | refine vm_reg (fun K hK => ?_) | refine vm_dreg (fun K hK => ?_)); simp (disch := (first | omega | assumption)) only [S1, ↓reduceIte, Nat.reduceEqDiff, Nat.reduceAdd, Nat.reduceMul, Nat.reduceDiv, AOp.sb, AOp.mut, ↓Bool.false_eq_true, beq_self_eq_true, ite_self, Nat.reduceLeDiff, Int.reduceEq, Int.reduceSub, Int.reduceAdd, Int.reduceNeg, Int.reduceLT, Int.reduceLE, Nat.reduceLT, W_len, D_len, Nat.div_one, Nat.mul_one, tn_nat, W_nf, D_nf, W_nil, D_nil, h1, h2, h3]; refine hK _ ?_; clear hK K)
          | simp only [Sv, ↓reduceIte, Nat.reduceEqDiff]
        try simp only [Sv, ↓reduceIte, Nat.reduceEqDiff]
        refine vm_reg (fun K hK => ?_)
        simp (disch := (first | omega | assumption)) only [S1, ↓reduceIte, Nat.reduceEqDiff, Nat.reduceAdd, Nat.reduceMul, Nat.reduceDiv, AOp.sb, AOp.mut, ↓Bool.false_eq_true, beq_self_eq_true, ite_self, Nat.reduceLeDiff, Int.reduceEq, Int.reduceSub, Int.reduceAdd, Int.reduceNeg, Int.reduceLT, Int.reduceLE, Nat.reduceLT, W_len, D_len, Nat.div_one, Nat.mul_one, tn_nat, W_nf, D_nf, W_nil, D_nil]
        refine clp_mk _ _ ?_ ?_ ?_ (dat_spec x i) ?_
        · simp (disch := (first | omega | assumption)) only [S1, ↓reduceIte, Nat.reduceEqDiff, Nat.reduceAdd, Nat.reduceMul, Nat.reduceDiv, AOp.sb, AOp.mut, ↓Bool.false_eq_true, beq_self_eq_true, ite_self, Nat.reduceLeDiff, Int.reduceEq, Int.reduceSub, Int.reduceAdd, Int.reduceNeg, Int.reduceLT, Int.reduceLE, Nat.reduceLT, W_len, D_len, Nat.div_one, Nat.mul_one, tn_nat, W_nf, D_nf, W_nil, D_nil]
        · simp (disch := (first | omega | assumption)) only [S1, ↓reduceIte, Nat.reduceEqDiff, Nat.reduceAdd, Nat.reduceMul, Nat.reduceDiv, AOp.sb, AOp.mut, ↓Bool.false_eq_true, beq_self_eq_true, ite_self, Nat.reduceLeDiff, Int.reduceEq, Int.reduceSub, Int.reduceAdd, Int.reduceNeg, Int.reduceLT, Int.reduceLE, Nat.reduceLT, W_len, D_len, Nat.div_one, Nat.mul_one, tn_nat, W_nf, D_nf, W_nil, D_nil]
        · first | rfl | (simp (disch := (first | omega | assumption)) only [S1, ↓reduceIte, Nat.reduceEqDiff, Nat.reduceAdd, Nat.reduceMul, Nat.reduceDiv, AOp.sb, AOp.mut, ↓Bool.false_eq_true, beq_self_eq_true, ite_self, Nat.reduceLeDiff, Int.reduceEq, Int.reduceSub, Int.reduceAdd, Int.reduceNeg, Int.reduceLT, Int.reduceLE, Nat.reduceLT, W_len, D_len, Nat.div_one, Nat.mul_one, tn_nat, W_nf, D_nf, W_nil, D_nil])
        simp (disch := (first | omega | assumption)) only [S1, ↓reduceIte, Nat.reduceEqDiff, Nat.reduceAdd, Nat.reduceMul, Nat.reduceDiv, AOp.sb, AOp.mut, ↓Bool.false_eq_true, beq_self_eq_true, ite_self, Nat.reduceLeDiff, Int.reduceEq, Int.reduceSub, Int.reduceAdd, Int.reduceNeg, Int.reduceLT, Int.reduceLE, Nat.reduceLT, W_len, D_len, Nat.div_one, Nat.mul_one, tn_nat, W_nf, D_nf, W_nil, D_nil]
        refine clp_mk _ _ ?_ ?_ ?_ (dat_spec y i) ?_
        · simp (disch := (first | omega | assumption)) only [S1, ↓reduceIte, Nat.reduceEqDiff, Nat.reduceAdd, Nat.reduceMul, Nat.reduceDiv, AOp.sb, AOp.mut, ↓Bool.false_eq_true, beq_self_eq_true, ite_self, Nat.reduceLeDiff, Int.reduceEq, Int.reduceSub, Int.reduceAdd, Int.reduceNeg, Int.reduceLT, Int.reduceLE, Nat.reduceLT, W_len, D_len, Nat.div_one, Nat.mul_one, tn_nat, W_nf, D_nf, W_nil, D_nil]
        · simp (disch := (first | omega | assumption)) only [S1, ↓reduceIte, Nat.reduceEqDiff, Nat.reduceAdd, Nat.reduceMul, Nat.reduceDiv, AOp.sb, AOp.mut, ↓Bool.false_eq_true, beq_self_eq_true, ite_self, Nat.reduceLeDiff, Int.reduceEq, Int.reduceSub, Int.reduceAdd, Int.reduceNeg, Int.reduceLT, Int.reduceLE, Nat.reduceLT, W_len, D_len, Nat.div_one, Nat.mul_one, tn_nat, W_nf, D_nf, W_nil, D_nil]
        · first | rfl | (simp (disch := (first | omega | assumption)) only [S1, ↓reduceIte, Nat.reduceEqDiff, Nat.reduceAdd, Nat.reduceMul, Nat.reduceDiv, AOp.sb, AOp.mut, ↓Bool.false_eq_true, beq_self_eq_true, ite_self, Nat.reduceLeDiff, Int.reduceEq, Int.reduceSub, Int.reduceAdd, Int.reduceNeg, Int.reduceLT, Int.reduceLE, Nat.reduceLT, W_len, D_len, Nat.div_one, Nat.mul_one, tn_nat, W_nf, D_nf, W_nil, D_nil])
        simp (disch := (first | omega | assumption)) only [S1, ↓reduceIte, Nat.reduceEqDiff, Nat.reduceAdd, Nat.reduceMul, Nat.reduceDiv, AOp.sb, AOp.mut, ↓Bool.false_eq_true, beq_self_eq_true, ite_self, Nat.reduceLeDiff, Int.reduceEq, Int.reduceSub, Int.reduceAdd, Int.reduceNeg, Int.reduceLT, Int.reduceLE, Nat.reduceLT, W_len, D_len, Nat.div_one, Nat.mul_one, tn_nat, W_nf, D_nf, W_nil, D_nil, wi, hs]
        refine hK _ ?_
        clear hK K
        repeat first
          | (refine hK _ ?_; clear hK K)
          | ((first | refine vm_reg (fun K hK => ?_) | refine vm_dreg (fun K hK => ?_)); simp (disch := (first | omega | assumption)) only [S1, ↓reduceIte, Nat.reduceEqDiff, Nat.reduceAdd, Nat.reduceMul, Nat.reduceDiv, AOp.sb, AOp.mut, ↓Bool.false_eq_true, beq_self_eq_true, ite_self, Nat.reduceLeDiff, Int.reduceEq, Int.reduceSub, Int.reduceAdd, Int.reduceNeg, Int.reduceLT, Int.reduceLE, Nat.reduceLT, W_len, D_len, Nat.div_one, Nat.mul_one, tn_nat, W_nf, D_nf, W_nil, D_nil, tmod_256, tdiv_256, wi, D_cat1]; refine hK _ ?_; clear hK K)
          | simp only [Sv, ↓reduceIte, Nat.reduceEqDiff]
        refine hQ _ (i + 1) [(0, 29)] ⟨by omega, fun h => by have := full (by omega); rw [show m = i from by omega, ← this]; omega⟩ (by omega) ?_
        simp (disch := (first | omega | assumption)) only [Sl, Sa, Sw, ↓reduceIte, Nat.reduceEqDiff, Nat.reduceLT, List.all_nil, List.all_cons, Nat.reduceBneDiff, Nat.reduceAdd, bne_iff_ne, ne_eq, reduceCtorEq, not_false_eq_true, not_true_eq_false, Bool.and_true, Bool.true_and, and_true, true_and, and_self, i_eq]
        refine ⟨⟨?_, by omega⟩, ?_⟩
        · rw [nv_take_succ', nv_take_succ', Nat.pow_succ, s3]
        · rw [nv_take_succ', nv_take_succ', fl_succ, fl_congr (by decide) s2, s1]
      · repeat first
          | (refine hK _ ?_; clear hK K)
          | ((first | refine vm_reg (fun K hK => ?_) | refine vm_dreg (fun K hK => ?_)); simp (disch := (first | omega | assumption)) only [S1, ↓reduceIte, Nat.reduceEqDiff, Nat.reduceAdd, Nat.reduceMul, Nat.reduceDiv, AOp.sb, AOp.mut, ↓Bool.false_eq_true, beq_self_eq_true, ite_self, Nat.reduceLeDiff, Int.reduceEq, Int.reduceSub, Int.reduceAdd, Int.reduceNeg, Int.reduceLT, Int.reduceLE, Nat.reduceLT, W_len, D_len, Nat.div_one, Nat.mul_one, tn_nat, W_nf, D_nf, W_nil, D_nil, h1, h2, h3]; refine hK _ ?_; clear hK K)
          | simp only [Sv, ↓reduceIte, Nat.reduceEqDiff]
        refine he _ _ ?_
        repeat first
          | (refine hK _ ?_; clear hK K)
          | ((first | refine vm_reg (fun K hK => ?_) | refine vm_dreg (fun K hK => ?_)); simp (disch := (first | omega | assumption)) only [S1, ↓reduceIte, Nat.reduceEqDiff, Nat.reduceAdd, Nat.reduceMul, Nat.reduceDiv, AOp.sb, AOp.mut, ↓Bool.false_eq_true, beq_self_eq_true, ite_self, Nat.reduceLeDiff, Int.reduceEq, Int.reduceSub, Int.reduceAdd, Int.reduceNeg, Int.reduceLT, Int.reduceLE, Nat.reduceLT, W_len, D_len, Nat.div_one, Nat.mul_one, tn_nat, W_nf, D_nf, W_nil, D_nil]; refine hK _ ?_; clear hK K)
          | simp only [Sv, ↓reduceIte, Nat.reduceEqDiff]
        have e : fl 256 i (nv 256 (x.take i) + nv 256 (y.take i)) = fl 256 (addn x y) (nv 256 x + nv 256 y) := by
          rw [List.take_of_length_le (by omega), List.take_of_length_le (by omega), han]
          have h4 := full (by omega)
          congr 1
          split
          · rename_i h5
            rcases Nat.lt_or_ge m i with h6 | h6
            · exact absurd h5 (hi2 (by omega))
            · omega
          · rename_i h5
            rcases Nat.lt_or_ge m i with h6 | h6
            · omega
            · exfalso; apply h5; rw [show m = i from by omega, ← h4]; omega
        simp (disch := (first | omega | assumption)) only [retOk, retN, ret1, retF, ret1F, V.okArg, and_true, true_and, S1, ↓reduceIte, Nat.reduceEqDiff, Nat.reduceAdd, Nat.reduceMul, Nat.reduceDiv, AOp.sb, AOp.mut, ↓Bool.false_eq_true, beq_self_eq_true, ite_self, Nat.reduceLeDiff, Int.reduceEq, Int.reduceSub, Int.reduceAdd, Int.reduceNeg, Int.reduceLT, Int.reduceLE, Nat.reduceLT, W_len, D_len, Nat.div_one, Nat.mul_one, tn_nat, W_nf, D_nf, W_nil, D_nil, e]

end Go.Proofs.Ytngohbpgdeiodaa
