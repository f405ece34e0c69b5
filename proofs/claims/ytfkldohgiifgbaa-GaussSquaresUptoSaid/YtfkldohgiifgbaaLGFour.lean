/-
  GaussValues, GaussTurns, GaussSquares, GaussNums: the laws' walks.
-/
import Derived.Test.YtfkldohgiifgbaaLGKn
import Derived.Test.YtfkldohgiifgbaaR23e
namespace Go.Proofs.Ytfkldohgiifgbaa
open Go Go.RowKit Ab
set_option linter.unusedSimpArgs false
set_option linter.unusedVariables false
set_option maxHeartbeats 10000000
theorem bz_LGFour : type_of% (And.intro @W_len (And.intro @D_len (And.intro @Nat.div_one (And.intro @Nat.mul_one (And.intro @tn_nat (And.intro @W_nf (And.intro @D_nf (And.intro @W_nil (And.intro @D_nil (And.intro @wi (And.intro @nf_g (And.intro @Bool.false_and (And.intro @W_cell (And.intro @ZC_cell (@ZC_nil))))))))))))))) := And.intro @W_len (And.intro @D_len (And.intro @Nat.div_one (And.intro @Nat.mul_one (And.intro @tn_nat (And.intro @W_nf (And.intro @D_nf (And.intro @W_nil (And.intro @D_nil (And.intro @wi (And.intro @nf_g (And.intro @Bool.false_and (And.intro @W_cell (And.intro @ZC_cell (@ZC_nil))))))))))))))

theorem Pz_small {z : GZ} (h : gsz z < SM) : Pz z := by unfold gsz at h; simp only [SM] at h; unfold Pz Pi; omega
theorem vF_sz (cs : List Int) (z : GZ) : gsz (vF cs z) < SM := by
  unfold vF
  split
  · rename_i h
    exact Nat.lt_of_le_of_lt (horner_sz z (by omega) cs) h.2
  · decide
theorem vsF_Pz (cs : List Int) (zs : List GZ) : ∀ z, z ∈ vsF cs zs → Pz z := fun z hz => by
  unfold vsF at hz
  split at hz
  · obtain ⟨w, _, rfl⟩ := List.mem_map.1 hz
    exact Pz_small (vF_sz cs w)
  · cases hz
theorem sqF_Pz (mid : GZ) (r : Int) : ∀ z, z ∈ sqF mid r → Pz z := fun z hz => by
  unfold sqF at hz
  split at hz
  · rename_i h
    unfold sqE at h
    split at h
    · cases h
    · rename_i h2
      split at h
      · rename_i h3
        unfold sqs at hz
        obtain ⟨k, hk, rfl⟩ := List.mem_map.1 hz
        have hk := List.mem_range.1 hk
        exact Pz_small (sqz (by omega) (by omega))
      · cases h
  · cases hz
-- surd/surdref23.Around
def a27 : AC := .seq (.reg [⟨some 4, none, .bx 27 (.t 1)⟩, 
      ⟨some 6, none, .mv (.k (.i .i64 0))⟩, 
      ⟨some 7, none, .mv (.k (.i .i64 0))⟩])
  (.seq (.reg [⟨some 12, none, .ld true 2 (.t 4)⟩, 
      ⟨some 13, none, .mv (.t 2)⟩, 
      ⟨some 14, none, .call 25 [(1, (.t 12)), (1, (.t 13))]⟩, 
      ⟨some 11, none, .mv (.t 14)⟩, 
      ⟨some 15, none, .ext (.t 11) 0⟩, 
      ⟨some 16, none, .ext (.t 11) 1⟩, 
      ⟨some 8, none, .mv (.t 15)⟩, 
      ⟨some 9, none, .mv (.t 16)⟩])
  (.seq (.seq (.reg [⟨some 17, none, .mv (.t 9)⟩, 
        ⟨some 18, none, .bin .neq (.t 17) (.k (.i .i64 0))⟩])
    (.cond (.t 18)
    (.seq (.reg [⟨some 19, none, .mv (.t 9)⟩, 
          ⟨some 6, none, .mv (.k (.i .i64 0))⟩, 
          ⟨some 7, none, .mv (.t 19)⟩])
      (.ret))
    (.skip)))
  (.seq (.reg [⟨some 21, none, .mv (.t 0)⟩, 
      ⟨some 22, none, .mv (.t 8)⟩, 
      ⟨some 23, none, .call 17 [(2, (.t 21)), (2, (.t 22))]⟩, 
      ⟨some 20, none, .mv (.t 23)⟩, 
      ⟨some 24, none, .ext (.t 20) 0⟩, 
      ⟨some 25, none, .ext (.t 20) 1⟩, 
      ⟨some 10, none, .mv (.t 24)⟩, 
      ⟨some 9, none, .mv (.t 25)⟩])
  (.seq (.seq (.reg [⟨some 26, none, .mv (.t 9)⟩, 
        ⟨some 27, none, .bin .neq (.t 26) (.k (.i .i64 0))⟩])
    (.cond (.t 27)
    (.seq (.reg [⟨some 28, none, .mv (.t 9)⟩, 
          ⟨some 6, none, .mv (.k (.i .i64 0))⟩, 
          ⟨some 7, none, .mv (.t 28)⟩])
      (.ret))
    (.skip)))
  (.seq (.reg [⟨some 29, none, .mv (.t 10)⟩, 
      ⟨some 30, none, .call 23 [(2, (.t 29))]⟩, 
      ⟨some 31, none, .ext (.t 30) 0⟩, 
      ⟨some 32, none, .ext (.t 30) 1⟩, 
      ⟨some 6, none, .mv (.t 31)⟩, 
      ⟨some 7, none, .mv (.t 32)⟩])
  (.ret))))))
theorem raroundS (l : List (Bool × List Nat)) (m : Nat) (hm : m ≤ 2000000) (hl : ZOk l m) (mid : GZ) (hmid : Pz mid) (r : Int) (hr0 : Pi r) : AFun Try.prog J0 27 [.l 2 (ZC l), nV mid, .i .i64 r] (.t [.i .i64 (arF (zcs l) mid r), .i .i64 (arE (zcs l) mid r)]) := by
  have h1 := rsquareS mid r hmid hr0
  have l1 := sqF_len mid r
  have h2 := rvalsS l m hm hl (sqF mid r) (by omega) (sqF_Pz mid r)
  have l2 := vsF_len (zcs l) (sqF mid r)
  have h3 := rturnsS (vsF (zcs l) (sqF mid r)) (by omega) (vsF_Pz _ _)
  obtain ⟨R, hR⟩ : ∃ R, R = arF (zcs l) mid r := ⟨_, rfl⟩
  obtain ⟨e, he0⟩ : ∃ e, e = arE (zcs l) mid r := ⟨_, rfl⟩
  rw [← hR, ← he0]
  have hR0 : e ≠ 0 → R = 0 := fun h => by rw [hR]; unfold arF; rw [← he0, if_neg h]
  simp only [nV] at *
  by_cases c1 : sqE mid r = 0
  · rw [c1] at h1
    by_cases c2 : vsE (zcs l) (sqF mid r) = 0
    · rw [c2] at h2
      have e3 : e = tuE (vsF (zcs l) (sqF mid r)) := by rw [he0]; unfold arE; rw [if_pos c1, if_pos c2]
      have r3 : R = tuF (vsF (zcs l) (sqF mid r)) := by
        by_cases h : e = 0
        · rw [hR]; unfold arF; rw [← he0, if_pos h]
        · rw [hR0 h]; unfold tuF; rw [← e3, if_neg h]
      rw [← e3, ← r3] at h3
      generalize vsF (zcs l) (sqF mid r) = vs at *
      generalize sqF mid r = sq at *
      refine AFun.mk fol J0s Try.func27 rfl (ac := a27) (by kernel_rfl) rfl rfl ?_
      apply vm_start
      unfold a27
      simp only [init_eq, initE]
      have zc1 := h1
      have zc2 := h2
      have zc3 := h3
      repeat first | (refine hK _ ?_; clear hK K) | simp only [Sv, ↓reduceIte, Nat.reduceEqDiff] | ((first | refine vm_reg (fun K hK => ?_) | refine vm_dreg (fun K hK => ?_) | refine clp_q ?_ | refine clq_mk (by assumption) ?_); simp (disch := (first | omega | assumption)) only [S1, ↓reduceIte, Nat.reduceEqDiff, Nat.reduceAdd, Nat.reduceMul, Nat.reduceDiv, AOp.sb, AOp.mut, ↓Bool.false_eq_true, beq_self_eq_true, ite_self, Nat.reduceLeDiff, Int.reduceEq, Int.reduceSub, Int.reduceAdd, Int.reduceNeg, Int.reduceLT, Int.reduceLE, Nat.reduceLT, bz_LGFour])
      simp (disch := (first | omega | assumption)) only [retOk, retN, ret1, retF, ret1F, V.okArg, and_true, true_and, S1, ↓reduceIte, Nat.reduceEqDiff, Nat.reduceAdd, Nat.reduceMul, Nat.reduceDiv, AOp.sb, AOp.mut, ↓Bool.false_eq_true, beq_self_eq_true, ite_self, Nat.reduceLeDiff, Int.reduceEq, Int.reduceSub, Int.reduceAdd, Int.reduceNeg, Int.reduceLT, Int.reduceLE, Nat.reduceLT, bz_LGFour]
    · have e3 : e = vsE (zcs l) (sqF mid r) := by rw [he0]; unfold arE; rw [if_pos c1, if_neg c2]
      rw [← e3] at h2 c2
      rw [hR0 c2]
      generalize vsF (zcs l) (sqF mid r) = vs at *
      generalize sqF mid r = sq at *
      refine AFun.mk fol J0s Try.func27 rfl (ac := a27) (by kernel_rfl) rfl rfl ?_
      apply vm_start
      unfold a27
      simp only [init_eq, initE]
      have zc4 := h1
      have zc5 := h2
      repeat first | (refine hK _ ?_; clear hK K) | simp only [Sv, ↓reduceIte, Nat.reduceEqDiff] | ((first | refine vm_reg (fun K hK => ?_) | refine vm_dreg (fun K hK => ?_) | refine clp_q ?_ | refine clq_mk (by assumption) ?_); simp (disch := (first | omega | assumption)) only [S1, ↓reduceIte, Nat.reduceEqDiff, Nat.reduceAdd, Nat.reduceMul, Nat.reduceDiv, AOp.sb, AOp.mut, ↓Bool.false_eq_true, beq_self_eq_true, ite_self, Nat.reduceLeDiff, Int.reduceEq, Int.reduceSub, Int.reduceAdd, Int.reduceNeg, Int.reduceLT, Int.reduceLE, Nat.reduceLT, bz_LGFour, c2])
      simp (disch := (first | omega | assumption)) only [retOk, retN, ret1, retF, ret1F, V.okArg, and_true, true_and, S1, ↓reduceIte, Nat.reduceEqDiff, Nat.reduceAdd, Nat.reduceMul, Nat.reduceDiv, AOp.sb, AOp.mut, ↓Bool.false_eq_true, beq_self_eq_true, ite_self, Nat.reduceLeDiff, Int.reduceEq, Int.reduceSub, Int.reduceAdd, Int.reduceNeg, Int.reduceLT, Int.reduceLE, Nat.reduceLT, bz_LGFour, c2]
  · have e3 : e = sqE mid r := by rw [he0]; unfold arE; rw [if_neg c1]
    rw [← e3] at h1 c1
    rw [hR0 c1]
    generalize sqF mid r = sq at *
    refine AFun.mk fol J0s Try.func27 rfl (ac := a27) (by kernel_rfl) rfl rfl ?_
    apply vm_start
    unfold a27
    simp only [init_eq, initE]
    have zc6 := h1
    repeat first | (refine hK _ ?_; clear hK K) | simp only [Sv, ↓reduceIte, Nat.reduceEqDiff] | ((first | refine vm_reg (fun K hK => ?_) | refine vm_dreg (fun K hK => ?_) | refine clp_q ?_ | refine clq_mk (by assumption) ?_); simp (disch := (first | omega | assumption)) only [S1, ↓reduceIte, Nat.reduceEqDiff, Nat.reduceAdd, Nat.reduceMul, Nat.reduceDiv, AOp.sb, AOp.mut, ↓Bool.false_eq_true, beq_self_eq_true, ite_self, Nat.reduceLeDiff, Int.reduceEq, Int.reduceSub, Int.reduceAdd, Int.reduceNeg, Int.reduceLT, Int.reduceLE, Nat.reduceLT, bz_LGFour, c1])
    simp (disch := (first | omega | assumption)) only [retOk, retN, ret1, retF, ret1F, V.okArg, and_true, true_and, S1, ↓reduceIte, Nat.reduceEqDiff, Nat.reduceAdd, Nat.reduceMul, Nat.reduceDiv, AOp.sb, AOp.mut, ↓Bool.false_eq_true, beq_self_eq_true, ite_self, Nat.reduceLeDiff, Int.reduceEq, Int.reduceSub, Int.reduceAdd, Int.reduceNeg, Int.reduceLT, Int.reduceLE, Nat.reduceLT, bz_LGFour, c1]
-- surd/surdlaw23.GaussValues
def a3 : AC := .seq (.reg [⟨some 4, none, .mv (.k (.b false))⟩])
  (.seq (.seq (.reg [⟨some 14, none, .call 12 []⟩, 
        ⟨some 15, none, .un .not (.t 14)⟩])
    (.cond (.t 15)
    (.seq (.reg [⟨some 4, none, .mv (.k (.b false))⟩])
      (.ret))
    (.skip)))
  (.seq (.seq (.reg [⟨some 5, none, .mv (.k (.i .i64 0))⟩])
    (.blk 0
    (.loop
      (.seq (.seq (.reg [⟨some 16, none, .mv (.t 5)⟩, 
              ⟨some 17, none, .mv (.t 1)⟩, 
              ⟨some 18, none, .len (.t 17)⟩, 
              ⟨some 19, none, .bin .lss (.t 16) (.t 18)⟩])
          (.cond (.t 19)
          (.skip)
          (.exit 0)))
        (.seq (.blk 1
          (.seq (.reg [⟨some 23, none, .mv (.t 0)⟩, 
                ⟨some 24, none, .mv (.t 1)⟩, 
                ⟨some 25, none, .mv (.t 5)⟩, 
                ⟨some 26, none, .idx 2 (.t 24) (.t 25)⟩, 
                ⟨some 27, none, .ld true 2 (.t 26)⟩, 
                ⟨some 28, none, .call 13 [(2, (.t 23)), (1, (.t 27))]⟩, 
                ⟨some 22, none, .mv (.t 28)⟩, 
                ⟨some 29, none, .ext (.t 22) 0⟩, 
                ⟨some 30, none, .ext (.t 22) 1⟩, 
                ⟨some 6, none, .al 27 [(.i .i64 0), (.i .i64 0)]⟩, 
                ⟨none, none, .st 2 (.t 6) (.t 29)⟩, 
                ⟨some 7, none, .mv (.t 30)⟩])
            (.seq (.reg [⟨some 32, none, .mv (.t 0)⟩, 
                ⟨some 33, none, .mv (.t 1)⟩, 
                ⟨some 34, none, .mv (.t 5)⟩, 
                ⟨some 35, none, .idx 2 (.t 33) (.t 34)⟩, 
                ⟨some 36, none, .ld true 2 (.t 35)⟩, 
                ⟨some 37, none, .call 15 [(1, (.t 36))]⟩, 
                ⟨some 38, none, .call 14 [(2, (.t 32)), (1, (.t 37))]⟩, 
                ⟨some 31, none, .mv (.t 38)⟩, 
                ⟨some 39, none, .ext (.t 31) 0⟩, 
                ⟨some 40, none, .ext (.t 31) 1⟩, 
                ⟨some 8, none, .al 31 [(.i .i64 0), (.i .i64 0)]⟩, 
                ⟨none, none, .st 2 (.t 8) (.t 39)⟩, 
                ⟨some 9, none, .mv (.t 40)⟩])
            (.seq (.reg [⟨some 41, none, .ld true 2 (.t 8)⟩, 
                ⟨some 42, none, .ld true 2 (.t 6)⟩, 
                ⟨some 43, none, .call 16 [(1, (.t 41)), (1, (.t 42))]⟩, 
                ⟨some 44, none, .un .not (.t 43)⟩, 
                ⟨some 45, none, .mv (.t 44)⟩, 
                ⟨some 46, some (45, false), .mv (.t 7)⟩, 
                ⟨some 47, some (45, false), .mv (.t 9)⟩, 
                ⟨some 48, some (45, false), .bin .neq (.t 46) (.t 47)⟩, 
                ⟨some 49, none, .pick (.t 45) (.k (.b true)) (.t 48)⟩])
            (.cond (.t 49)
            (.seq (.reg [⟨some 4, none, .mv (.k (.b false))⟩])
              (.ret))
            (.skip))))))
        (.reg [⟨some 20, none, .mv (.t 5)⟩, 
          ⟨some 21, none, .bin .add (.t 20) (.k (.i .i64 1))⟩, 
          ⟨some 5, none, .mv (.t 21)⟩]))))))
  (.seq (.reg [⟨some 51, none, .mv (.t 0)⟩, 
      ⟨some 52, none, .mv (.t 1)⟩, 
      ⟨some 53, none, .call 17 [(2, (.t 51)), (2, (.t 52))]⟩, 
      ⟨some 50, none, .mv (.t 53)⟩, 
      ⟨some 54, none, .ext (.t 50) 0⟩, 
      ⟨some 55, none, .ext (.t 50) 1⟩, 
      ⟨some 10, none, .mv (.t 54)⟩, 
      ⟨some 11, none, .mv (.t 55)⟩])
  (.seq (.reg [⟨some 57, none, .mv (.t 0)⟩, 
      ⟨some 58, none, .mv (.t 1)⟩, 
      ⟨some 59, none, .call 19 [(2, (.t 58))]⟩, 
      ⟨some 60, none, .call 18 [(2, (.t 57)), (2, (.t 59))]⟩, 
      ⟨some 56, none, .mv (.t 60)⟩, 
      ⟨some 61, none, .ext (.t 56) 0⟩, 
      ⟨some 62, none, .ext (.t 56) 1⟩, 
      ⟨some 12, none, .mv (.t 61)⟩, 
      ⟨some 13, none, .mv (.t 62)⟩])
  (.seq (.reg [⟨some 63, none, .mv (.t 12)⟩, 
      ⟨some 64, none, .mv (.t 10)⟩, 
      ⟨some 65, none, .call 20 [(2, (.t 63)), (2, (.t 64))]⟩, 
      ⟨some 66, none, .mv (.t 65)⟩, 
      ⟨some 67, some (66, true), .mv (.t 11)⟩, 
      ⟨some 68, some (66, true), .mv (.t 13)⟩, 
      ⟨some 69, some (66, true), .bin .eql (.t 67) (.t 68)⟩, 
      ⟨some 70, none, .pick (.t 66) (.t 69) (.k (.b false))⟩, 
      ⟨some 4, none, .mv (.t 70)⟩])
  (.ret))))))
theorem gaussValues_spec (l : List (Bool × List Nat)) (zs : List GZ) (m : Nat) (hm : m ≤ 2000000) (hl : ZOk l m) (lz : zs.length ≤ 100000000) (hz : ∀ z, z ∈ zs → Pz z) : AFun Try.prog J0 3 [.l 2 (ZC l), .l 2 (NC zs)] (.b true) := by
  have hnl : (NC zs).length / 2 = zs.length := by rw [NC_len]; omega
  have hnz := NC_len zs
  have hd : zs.length * 2 / 2 = zs.length := by omega
  have q1 := rvalsS l m hm hl zs lz hz
  have q2 := (ours_spec zs lz).frozen
  have q3 := gvalsS l m (by omega) hl zs lz
  have q4 := are_spec (vsF (zcs l) zs) (Nat.le_trans (vsF_len _ _) lz)
  generalize vsF (zcs l) zs = F at *
  generalize vsE (zcs l) zs = E at *
  have v1 := rvalS l m hm hl
  have v2 := gvalS l m (by omega) hl
  have v3 := our_spec
  have v4 := is_spec
  simp only [nV] at v1 v2 v3 v4
  refine AFun.mk fol J0s Try.func3 rfl (ac := a3) (by kernel_rfl) rfl rfl ?_
  apply vm_start
  unfold a3
  simp only [init_eq, initE]
  have zc7 := gknown_spec
  repeat first | (refine hK _ ?_; clear hK K) | simp only [Sv, ↓reduceIte, Nat.reduceEqDiff] | ((first | refine vm_reg (fun K hK => ?_) | refine vm_dreg (fun K hK => ?_) | refine clp_q ?_ | refine clq_mk (by assumption) ?_); simp (disch := (first | omega | assumption)) only [S1, ↓reduceIte, Nat.reduceEqDiff, Nat.reduceAdd, Nat.reduceMul, Nat.reduceDiv, AOp.sb, AOp.mut, ↓Bool.false_eq_true, beq_self_eq_true, ite_self, Nat.reduceLeDiff, Int.reduceEq, Int.reduceSub, Int.reduceAdd, Int.reduceNeg, Int.reduceLT, Int.reduceLE, Nat.reduceLT, bz_LGFour])
  refine vm_loopA [] Nat (fun i => ⟨[(0, .l 2 (ZC l)), (1, .l 2 (NC zs)), (5, .i .i64 (i : Int))], [], 0⟩)
    (fun i => i ≤ zs.length) (fun i => zs.length - i) 0 (Nat.zero_le _) (by simp (disch := (first | omega | assumption)) only [Sl, Sa, Sw, ↓reduceIte, Nat.reduceEqDiff, Nat.reduceLT, List.all_nil, List.all_cons, Nat.reduceBneDiff, Nat.reduceAdd, bne_iff_ne, ne_eq, reduceCtorEq, not_false_eq_true, not_true_eq_false, Bool.and_true, Bool.true_and, and_true, true_and, and_self]) (by
    simp (disch := (first | omega | assumption)) only [Sl, Sa, Sw, ↓reduceIte, Nat.reduceEqDiff, Nat.reduceLT, List.all_nil, List.all_cons, Nat.reduceBneDiff, Nat.reduceAdd, bne_iff_ne, ne_eq, reduceCtorEq, not_false_eq_true, not_true_eq_false, Bool.and_true, Bool.true_and, and_true, true_and, and_self, i_eq]
    repeat' first | rfl | omega | (simp only [List.length_append, List.length_cons, List.length_nil]; done) | apply And.intro) ?_
  intro i hi Q' hQ he hr
  by_cases h : (i : Int) < (zs.length : Int)
  · have hiz : i < zs.length := by omega
    have row := NC_row zs i hiz
    have hzi := hz _ (GZ_mem hiz)
    generalize zs.getD i (0, 0) = z at *
    have u1 := v1 z hzi
    have u2 := v2 z
    have u3 := v3 z
    have u4 := v4 (vF (zcs l) z)
    generalize vF (zcs l) z = v at *
    generalize vE (zcs l) z = e at *
    have zc8 := u1
    have zc9 := u3
    have zc10 := u2
    have zc11 := u4
    repeat first | (refine hK _ ?_; clear hK K) | simp only [Sv, ↓reduceIte, Nat.reduceEqDiff] | ((first | refine vm_reg (fun K hK => ?_) | refine vm_dreg (fun K hK => ?_) | refine clp_q ?_ | refine clq_mk (by assumption) ?_); simp (disch := (first | omega | assumption)) only [S1, ↓reduceIte, Nat.reduceEqDiff, Nat.reduceAdd, Nat.reduceMul, Nat.reduceDiv, AOp.sb, AOp.mut, ↓Bool.false_eq_true, beq_self_eq_true, ite_self, Nat.reduceLeDiff, Int.reduceEq, Int.reduceSub, Int.reduceAdd, Int.reduceNeg, Int.reduceLT, Int.reduceLE, Nat.reduceLT, bz_LGFour, h, hd, hnz, row, eq_self])
    refine hQ _ (i + 1) (by omega) (by omega) ?_
    simp (disch := (first | omega | assumption)) only [Sl, Sa, Sw, ↓reduceIte, Nat.reduceEqDiff, Nat.reduceLT, List.all_nil, List.all_cons, Nat.reduceBneDiff, Nat.reduceAdd, bne_iff_ne, ne_eq, reduceCtorEq, not_false_eq_true, not_true_eq_false, Bool.and_true, Bool.true_and, and_true, true_and, and_self, i_eq]
    repeat' first | rfl | omega | (simp only [List.length_append, List.length_cons, List.length_nil]; done) | apply And.intro
  · obtain rfl : i = zs.length := by omega
    repeat first
      | (refine hK _ ?_; clear hK K)
      | ((first | refine vm_reg (fun K hK => ?_) | refine vm_dreg (fun K hK => ?_)); simp (disch := (first | omega | assumption)) only [S1, ↓reduceIte, Nat.reduceEqDiff, Nat.reduceAdd, Nat.reduceMul, Nat.reduceDiv, AOp.sb, AOp.mut, ↓Bool.false_eq_true, beq_self_eq_true, ite_self, Nat.reduceLeDiff, Int.reduceEq, Int.reduceSub, Int.reduceAdd, Int.reduceNeg, Int.reduceLT, Int.reduceLE, Nat.reduceLT, bz_LGFour, h, hnl]; refine hK _ ?_; clear hK K)
      | simp only [Sv, ↓reduceIte, Nat.reduceEqDiff]
    refine he _ _ ?_
    have zc12 := q1
    have zc13 := q2
    have zc14 := q3
    have zc15 := q4
    repeat first | (refine hK _ ?_; clear hK K) | simp only [Sv, ↓reduceIte, Nat.reduceEqDiff] | ((first | refine vm_reg (fun K hK => ?_) | refine vm_dreg (fun K hK => ?_) | refine clp_q ?_ | refine clq_mk (by assumption) ?_); simp (disch := (first | omega | assumption)) only [S1, ↓reduceIte, Nat.reduceEqDiff, Nat.reduceAdd, Nat.reduceMul, Nat.reduceDiv, AOp.sb, AOp.mut, ↓Bool.false_eq_true, beq_self_eq_true, ite_self, Nat.reduceLeDiff, Int.reduceEq, Int.reduceSub, Int.reduceAdd, Int.reduceNeg, Int.reduceLT, Int.reduceLE, Nat.reduceLT, bz_LGFour, eq_self])
    simp (disch := (first | omega | assumption)) only [retOk, retN, ret1, retF, ret1F, V.okArg, and_true, true_and, S1, ↓reduceIte, Nat.reduceEqDiff, Nat.reduceAdd, Nat.reduceMul, Nat.reduceDiv, AOp.sb, AOp.mut, ↓Bool.false_eq_true, beq_self_eq_true, ite_self, Nat.reduceLeDiff, Int.reduceEq, Int.reduceSub, Int.reduceAdd, Int.reduceNeg, Int.reduceLT, Int.reduceLE, Nat.reduceLT, bz_LGFour, eq_self]
-- surd/surdlaw23.GaussTurns
def a4 : AC := .seq (.reg [⟨some 2, none, .mv (.k (.b false))⟩])
  (.seq (.seq (.reg [⟨some 12, none, .call 12 []⟩, 
        ⟨some 13, none, .un .not (.t 12)⟩])
    (.cond (.t 13)
    (.seq (.reg [⟨some 2, none, .mv (.k (.b false))⟩])
      (.ret))
    (.skip)))
  (.seq (.seq (.reg [⟨some 3, none, .mv (.k (.i .i64 0))⟩])
    (.blk 0
    (.loop
      (.seq (.seq (.reg [⟨some 14, none, .mv (.t 3)⟩, 
              ⟨some 15, none, .mv (.t 0)⟩, 
              ⟨some 16, none, .len (.t 15)⟩, 
              ⟨some 17, none, .bin .lss (.t 14) (.t 16)⟩])
          (.cond (.t 17)
          (.skip)
          (.exit 0)))
        (.seq (.blk 1
          (.seq (.reg [⟨some 21, none, .mv (.t 0)⟩, 
                ⟨some 22, none, .mv (.t 3)⟩, 
                ⟨some 23, none, .idx 2 (.t 21) (.t 22)⟩, 
                ⟨some 24, none, .ld true 2 (.t 23)⟩, 
                ⟨some 25, none, .call 21 [(1, (.t 24))]⟩, 
                ⟨some 20, none, .mv (.t 25)⟩, 
                ⟨some 26, none, .ext (.t 20) 0⟩, 
                ⟨some 27, none, .ext (.t 20) 1⟩, 
                ⟨some 4, none, .mv (.t 26)⟩, 
                ⟨some 5, none, .mv (.t 27)⟩])
            (.seq (.reg [⟨some 29, none, .mv (.t 0)⟩, 
                ⟨some 30, none, .mv (.t 3)⟩, 
                ⟨some 31, none, .idx 2 (.t 29) (.t 30)⟩, 
                ⟨some 32, none, .ld true 2 (.t 31)⟩, 
                ⟨some 33, none, .call 15 [(1, (.t 32))]⟩, 
                ⟨some 34, none, .call 22 [(1, (.t 33))]⟩, 
                ⟨some 28, none, .mv (.t 34)⟩, 
                ⟨some 35, none, .ext (.t 28) 0⟩, 
                ⟨some 36, none, .ext (.t 28) 1⟩, 
                ⟨some 6, none, .mv (.t 35)⟩, 
                ⟨some 7, none, .mv (.t 36)⟩])
            (.seq (.reg [⟨some 37, none, .mv (.t 4)⟩, 
                ⟨some 38, none, .mv (.t 6)⟩, 
                ⟨some 39, none, .bin .neq (.t 37) (.t 38)⟩, 
                ⟨some 40, none, .mv (.t 39)⟩, 
                ⟨some 41, some (40, false), .mv (.t 5)⟩, 
                ⟨some 42, some (40, false), .mv (.t 7)⟩, 
                ⟨some 43, some (40, false), .bin .neq (.t 41) (.t 42)⟩, 
                ⟨some 44, none, .pick (.t 40) (.k (.b true)) (.t 43)⟩])
            (.cond (.t 44)
            (.seq (.reg [⟨some 2, none, .mv (.k (.b false))⟩])
              (.ret))
            (.skip))))))
        (.reg [⟨some 18, none, .mv (.t 3)⟩, 
          ⟨some 19, none, .bin .add (.t 18) (.k (.i .i64 1))⟩, 
          ⟨some 3, none, .mv (.t 19)⟩]))))))
  (.seq (.reg [⟨some 46, none, .mv (.t 0)⟩, 
      ⟨some 47, none, .call 23 [(2, (.t 46))]⟩, 
      ⟨some 45, none, .mv (.t 47)⟩, 
      ⟨some 48, none, .ext (.t 45) 0⟩, 
      ⟨some 49, none, .ext (.t 45) 1⟩, 
      ⟨some 8, none, .mv (.t 48)⟩, 
      ⟨some 9, none, .mv (.t 49)⟩])
  (.seq (.reg [⟨some 51, none, .mv (.t 0)⟩, 
      ⟨some 52, none, .call 19 [(2, (.t 51))]⟩, 
      ⟨some 53, none, .call 24 [(2, (.t 52))]⟩, 
      ⟨some 50, none, .mv (.t 53)⟩, 
      ⟨some 54, none, .ext (.t 50) 0⟩, 
      ⟨some 55, none, .ext (.t 50) 1⟩, 
      ⟨some 10, none, .mv (.t 54)⟩, 
      ⟨some 11, none, .mv (.t 55)⟩])
  (.seq (.reg [⟨some 56, none, .mv (.t 8)⟩, 
      ⟨some 57, none, .mv (.t 10)⟩, 
      ⟨some 58, none, .bin .eql (.t 56) (.t 57)⟩, 
      ⟨some 59, none, .mv (.t 58)⟩, 
      ⟨some 60, some (59, true), .mv (.t 9)⟩, 
      ⟨some 61, some (59, true), .mv (.t 11)⟩, 
      ⟨some 62, some (59, true), .bin .eql (.t 60) (.t 61)⟩, 
      ⟨some 63, none, .pick (.t 59) (.t 62) (.k (.b false))⟩, 
      ⟨some 2, none, .mv (.t 63)⟩])
  (.ret))))))
theorem gaussTurns_spec (zs : List GZ) (lz : zs.length ≤ 100000000) (hz : ∀ z, z ∈ zs → Pz z) : AFun Try.prog J0 4 [.l 2 (NC zs)] (.b true) := by
  have hnl : (NC zs).length / 2 = zs.length := by rw [NC_len]; omega
  have hnz := NC_len zs
  have hd : zs.length * 2 / 2 = zs.length := by omega
  have q1 := rturnsS zs lz hz
  have q2 := (ours_spec zs lz).frozen
  have q3 := gturnsS zs lz
  generalize tuF zs = F at *
  generalize tuE zs = E at *
  have v1 := reiS
  have v2 := geiS
  have v3 := our_spec
  simp only [nV] at v1 v2 v3
  refine AFun.mk fol J0s Try.func4 rfl (ac := a4) (by kernel_rfl) rfl rfl ?_
  apply vm_start
  unfold a4
  simp only [init_eq, initE]
  have zc16 := gknown_spec
  repeat first | (refine hK _ ?_; clear hK K) | simp only [Sv, ↓reduceIte, Nat.reduceEqDiff] | ((first | refine vm_reg (fun K hK => ?_) | refine vm_dreg (fun K hK => ?_) | refine clp_q ?_ | refine clq_mk (by assumption) ?_); simp (disch := (first | omega | assumption)) only [S1, ↓reduceIte, Nat.reduceEqDiff, Nat.reduceAdd, Nat.reduceMul, Nat.reduceDiv, AOp.sb, AOp.mut, ↓Bool.false_eq_true, beq_self_eq_true, ite_self, Nat.reduceLeDiff, Int.reduceEq, Int.reduceSub, Int.reduceAdd, Int.reduceNeg, Int.reduceLT, Int.reduceLE, Nat.reduceLT, bz_LGFour])
  refine vm_loopA [] Nat (fun i => ⟨[(0, .l 2 (NC zs)), (3, .i .i64 (i : Int))], [], 0⟩)
    (fun i => i ≤ zs.length) (fun i => zs.length - i) 0 (Nat.zero_le _) (by simp (disch := (first | omega | assumption)) only [Sl, Sa, Sw, ↓reduceIte, Nat.reduceEqDiff, Nat.reduceLT, List.all_nil, List.all_cons, Nat.reduceBneDiff, Nat.reduceAdd, bne_iff_ne, ne_eq, reduceCtorEq, not_false_eq_true, not_true_eq_false, Bool.and_true, Bool.true_and, and_true, true_and, and_self]) (by
    simp (disch := (first | omega | assumption)) only [Sl, Sa, Sw, ↓reduceIte, Nat.reduceEqDiff, Nat.reduceLT, List.all_nil, List.all_cons, Nat.reduceBneDiff, Nat.reduceAdd, bne_iff_ne, ne_eq, reduceCtorEq, not_false_eq_true, not_true_eq_false, Bool.and_true, Bool.true_and, and_true, true_and, and_self, i_eq]
    repeat' first | rfl | omega | (simp only [List.length_append, List.length_cons, List.length_nil]; done) | apply And.intro) ?_
  intro i hi Q' hQ he hr
  by_cases h : (i : Int) < (zs.length : Int)
  · have hiz : i < zs.length := by omega
    have row := NC_row zs i hiz
    have hzi := hz _ (GZ_mem hiz)
    generalize zs.getD i (0, 0) = z at *
    have u1 := v1 z hzi
    have u2 := v2 z
    have u3 := v3 z
    generalize eiF z = v at *
    generalize eiE z = e at *
    have zc17 := u1
    have zc18 := u3
    have zc19 := u2
    repeat first | (refine hK _ ?_; clear hK K) | simp only [Sv, ↓reduceIte, Nat.reduceEqDiff] | ((first | refine vm_reg (fun K hK => ?_) | refine vm_dreg (fun K hK => ?_) | refine clp_q ?_ | refine clq_mk (by assumption) ?_); simp (disch := (first | omega | assumption)) only [S1, ↓reduceIte, Nat.reduceEqDiff, Nat.reduceAdd, Nat.reduceMul, Nat.reduceDiv, AOp.sb, AOp.mut, ↓Bool.false_eq_true, beq_self_eq_true, ite_self, Nat.reduceLeDiff, Int.reduceEq, Int.reduceSub, Int.reduceAdd, Int.reduceNeg, Int.reduceLT, Int.reduceLE, Nat.reduceLT, bz_LGFour, h, hd, hnz, row, eq_self])
    refine hQ _ (i + 1) (by omega) (by omega) ?_
    simp (disch := (first | omega | assumption)) only [Sl, Sa, Sw, ↓reduceIte, Nat.reduceEqDiff, Nat.reduceLT, List.all_nil, List.all_cons, Nat.reduceBneDiff, Nat.reduceAdd, bne_iff_ne, ne_eq, reduceCtorEq, not_false_eq_true, not_true_eq_false, Bool.and_true, Bool.true_and, and_true, true_and, and_self, i_eq]
    repeat' first | rfl | omega | (simp only [List.length_append, List.length_cons, List.length_nil]; done) | apply And.intro
  · obtain rfl : i = zs.length := by omega
    repeat first
      | (refine hK _ ?_; clear hK K)
      | ((first | refine vm_reg (fun K hK => ?_) | refine vm_dreg (fun K hK => ?_)); simp (disch := (first | omega | assumption)) only [S1, ↓reduceIte, Nat.reduceEqDiff, Nat.reduceAdd, Nat.reduceMul, Nat.reduceDiv, AOp.sb, AOp.mut, ↓Bool.false_eq_true, beq_self_eq_true, ite_self, Nat.reduceLeDiff, Int.reduceEq, Int.reduceSub, Int.reduceAdd, Int.reduceNeg, Int.reduceLT, Int.reduceLE, Nat.reduceLT, bz_LGFour, h, hnl]; refine hK _ ?_; clear hK K)
      | simp only [Sv, ↓reduceIte, Nat.reduceEqDiff]
    refine he _ _ ?_
    have zc20 := q1
    have zc21 := q2
    have zc22 := q3
    repeat first | (refine hK _ ?_; clear hK K) | simp only [Sv, ↓reduceIte, Nat.reduceEqDiff] | ((first | refine vm_reg (fun K hK => ?_) | refine vm_dreg (fun K hK => ?_) | refine clp_q ?_ | refine clq_mk (by assumption) ?_); simp (disch := (first | omega | assumption)) only [S1, ↓reduceIte, Nat.reduceEqDiff, Nat.reduceAdd, Nat.reduceMul, Nat.reduceDiv, AOp.sb, AOp.mut, ↓Bool.false_eq_true, beq_self_eq_true, ite_self, Nat.reduceLeDiff, Int.reduceEq, Int.reduceSub, Int.reduceAdd, Int.reduceNeg, Int.reduceLT, Int.reduceLE, Nat.reduceLT, bz_LGFour, eq_self])
    simp (disch := (first | omega | assumption)) only [retOk, retN, ret1, retF, ret1F, V.okArg, and_true, true_and, S1, ↓reduceIte, Nat.reduceEqDiff, Nat.reduceAdd, Nat.reduceMul, Nat.reduceDiv, AOp.sb, AOp.mut, ↓Bool.false_eq_true, beq_self_eq_true, ite_self, Nat.reduceLeDiff, Int.reduceEq, Int.reduceSub, Int.reduceAdd, Int.reduceNeg, Int.reduceLT, Int.reduceLE, Nat.reduceLT, bz_LGFour, eq_self]
-- surd/surdlaw23.GaussSquares
def a5 : AC := .seq (.reg [⟨some 4, none, .bx 27 (.t 1)⟩, 
      ⟨some 6, none, .mv (.k (.b false))⟩])
  (.seq (.seq (.reg [⟨some 13, none, .call 12 []⟩, 
        ⟨some 14, none, .un .not (.t 13)⟩])
    (.cond (.t 14)
    (.seq (.reg [⟨some 6, none, .mv (.k (.b false))⟩])
      (.ret))
    (.skip)))
  (.seq (.reg [⟨some 16, none, .ld true 2 (.t 4)⟩, 
      ⟨some 17, none, .mv (.t 2)⟩, 
      ⟨some 18, none, .call 25 [(1, (.t 16)), (1, (.t 17))]⟩, 
      ⟨some 15, none, .mv (.t 18)⟩, 
      ⟨some 19, none, .ext (.t 15) 0⟩, 
      ⟨some 20, none, .ext (.t 15) 1⟩, 
      ⟨some 7, none, .mv (.t 19)⟩, 
      ⟨some 8, none, .mv (.t 20)⟩])
  (.seq (.reg [⟨some 22, none, .ld true 2 (.t 4)⟩, 
      ⟨some 23, none, .call 15 [(1, (.t 22))]⟩, 
      ⟨some 24, none, .mv (.t 2)⟩, 
      ⟨some 25, none, .call 26 [(1, (.t 23)), (1, (.t 24))]⟩, 
      ⟨some 21, none, .mv (.t 25)⟩, 
      ⟨some 26, none, .ext (.t 21) 0⟩, 
      ⟨some 27, none, .ext (.t 21) 1⟩, 
      ⟨some 9, none, .mv (.t 26)⟩, 
      ⟨some 10, none, .mv (.t 27)⟩])
  (.seq (.seq (.reg [⟨some 28, none, .mv (.t 9)⟩, 
        ⟨some 29, none, .mv (.t 7)⟩, 
        ⟨some 30, none, .call 20 [(2, (.t 28)), (2, (.t 29))]⟩, 
        ⟨some 31, none, .un .not (.t 30)⟩, 
        ⟨some 32, none, .mv (.t 31)⟩, 
        ⟨some 33, some (32, false), .mv (.t 8)⟩, 
        ⟨some 34, some (32, false), .mv (.t 10)⟩, 
        ⟨some 35, some (32, false), .bin .neq (.t 33) (.t 34)⟩, 
        ⟨some 36, none, .pick (.t 32) (.k (.b true)) (.t 35)⟩])
    (.cond (.t 36)
    (.seq (.reg [⟨some 6, none, .mv (.k (.b false))⟩])
      (.ret))
    (.skip)))
  (.seq (.seq (.reg [⟨some 37, none, .mv (.t 2)⟩, 
        ⟨some 38, none, .bin .gtr (.t 37) (.k (.i .i64 60))⟩, 
        ⟨some 39, none, .mv (.t 38)⟩, 
        ⟨some 40, some (39, true), .mv (.t 2)⟩, 
        ⟨some 41, some (39, true), .bin .leq (.t 40) (.k (.i .i64 4096))⟩, 
        ⟨some 42, none, .pick (.t 39) (.t 41) (.k (.b false))⟩])
    (.cond (.t 42)
    (.seq (.reg [⟨some 6, none, .mv (.k (.b true))⟩])
      (.ret))
    (.skip)))
  (.seq (.reg [⟨some 44, none, .mv (.t 0)⟩, 
      ⟨some 45, none, .ld true 2 (.t 4)⟩, 
      ⟨some 46, none, .mv (.t 2)⟩, 
      ⟨some 47, none, .call 27 [(2, (.t 44)), (1, (.t 45)), (1, (.t 46))]⟩, 
      ⟨some 43, none, .mv (.t 47)⟩, 
      ⟨some 48, none, .ext (.t 43) 0⟩, 
      ⟨some 49, none, .ext (.t 43) 1⟩, 
      ⟨some 11, none, .mv (.t 48)⟩, 
      ⟨some 8, none, .mv (.t 49)⟩])
  (.seq (.reg [⟨some 51, none, .mv (.t 0)⟩, 
      ⟨some 52, none, .ld true 2 (.t 4)⟩, 
      ⟨some 53, none, .call 15 [(1, (.t 52))]⟩, 
      ⟨some 54, none, .mv (.t 2)⟩, 
      ⟨some 55, none, .call 28 [(2, (.t 51)), (1, (.t 53)), (1, (.t 54))]⟩, 
      ⟨some 50, none, .mv (.t 55)⟩, 
      ⟨some 56, none, .ext (.t 50) 0⟩, 
      ⟨some 57, none, .ext (.t 50) 1⟩, 
      ⟨some 12, none, .mv (.t 56)⟩, 
      ⟨some 10, none, .mv (.t 57)⟩])
  (.seq (.reg [⟨some 58, none, .mv (.t 11)⟩, 
      ⟨some 59, none, .mv (.t 12)⟩, 
      ⟨some 60, none, .bin .eql (.t 58) (.t 59)⟩, 
      ⟨some 61, none, .mv (.t 60)⟩, 
      ⟨some 62, some (61, true), .mv (.t 8)⟩, 
      ⟨some 63, some (61, true), .mv (.t 10)⟩, 
      ⟨some 64, some (61, true), .bin .eql (.t 62) (.t 63)⟩, 
      ⟨some 65, none, .pick (.t 61) (.t 64) (.k (.b false))⟩, 
      ⟨some 6, none, .mv (.t 65)⟩])
  (.ret)))))))))
theorem gaussSquares_spec (l : List (Bool × List Nat)) (mid : GZ) (r : Int) (m : Nat) (hm : m ≤ 2000000) (hl : ZOk l m) (hmid : Pz mid) (hr0 : Pi r) : AFun Try.prog J0 5 [.l 2 (ZC l), nV mid, .i .i64 r] (.b true) := by
  have q1 := rsquareS mid r hmid hr0
  have q2 := gsquareS mid r hr0
  have q3 := are_spec (sqF mid r) (by have := sqF_len mid r; omega)
  have q4 := raroundS l m hm hl mid hmid r hr0
  have q5 := garoundS l m (by omega) hl mid r hr0
  have q6 := our_spec mid
  generalize sqF mid r = F at *
  generalize sqE mid r = E at *
  generalize arF (zcs l) mid r = AF at *
  generalize arE (zcs l) mid r = AE at *
  simp only [nV] at *
  by_cases h1 : 60 < r
  · by_cases h2 : r ≤ 4096
    · refine AFun.mk fol J0s Try.func5 rfl (ac := a5) (by kernel_rfl) rfl rfl ?_
      apply vm_start
      unfold a5
      simp only [init_eq, initE]
      have zc23 := gknown_spec
      have zc24 := q1
      have zc25 := q6
      have zc26 := q2
      have zc27 := q3
      repeat first | (refine hK _ ?_; clear hK K) | simp only [Sv, ↓reduceIte, Nat.reduceEqDiff] | ((first | refine vm_reg (fun K hK => ?_) | refine vm_dreg (fun K hK => ?_) | refine clp_q ?_ | refine clq_mk (by assumption) ?_); simp (disch := (first | omega | assumption)) only [S1, ↓reduceIte, Nat.reduceEqDiff, Nat.reduceAdd, Nat.reduceMul, Nat.reduceDiv, AOp.sb, AOp.mut, ↓Bool.false_eq_true, beq_self_eq_true, ite_self, Nat.reduceLeDiff, Int.reduceEq, Int.reduceSub, Int.reduceAdd, Int.reduceNeg, Int.reduceLT, Int.reduceLE, Nat.reduceLT, bz_LGFour, h1, h2, eq_self])
      simp (disch := (first | omega | assumption)) only [retOk, retN, ret1, retF, ret1F, V.okArg, and_true, true_and, S1, ↓reduceIte, Nat.reduceEqDiff, Nat.reduceAdd, Nat.reduceMul, Nat.reduceDiv, AOp.sb, AOp.mut, ↓Bool.false_eq_true, beq_self_eq_true, ite_self, Nat.reduceLeDiff, Int.reduceEq, Int.reduceSub, Int.reduceAdd, Int.reduceNeg, Int.reduceLT, Int.reduceLE, Nat.reduceLT, bz_LGFour]
    · refine AFun.mk fol J0s Try.func5 rfl (ac := a5) (by kernel_rfl) rfl rfl ?_
      apply vm_start
      unfold a5
      simp only [init_eq, initE]
      have zc28 := gknown_spec
      have zc29 := q1
      have zc30 := q6
      have zc31 := q2
      have zc32 := q3
      have zc33 := q4
      have zc34 := q5
      repeat first | (refine hK _ ?_; clear hK K) | simp only [Sv, ↓reduceIte, Nat.reduceEqDiff] | ((first | refine vm_reg (fun K hK => ?_) | refine vm_dreg (fun K hK => ?_) | refine clp_q ?_ | refine clq_mk (by assumption) ?_); simp (disch := (first | omega | assumption)) only [S1, ↓reduceIte, Nat.reduceEqDiff, Nat.reduceAdd, Nat.reduceMul, Nat.reduceDiv, AOp.sb, AOp.mut, ↓Bool.false_eq_true, beq_self_eq_true, ite_self, Nat.reduceLeDiff, Int.reduceEq, Int.reduceSub, Int.reduceAdd, Int.reduceNeg, Int.reduceLT, Int.reduceLE, Nat.reduceLT, bz_LGFour, h1, h2, eq_self])
      simp (disch := (first | omega | assumption)) only [retOk, retN, ret1, retF, ret1F, V.okArg, and_true, true_and, S1, ↓reduceIte, Nat.reduceEqDiff, Nat.reduceAdd, Nat.reduceMul, Nat.reduceDiv, AOp.sb, AOp.mut, ↓Bool.false_eq_true, beq_self_eq_true, ite_self, Nat.reduceLeDiff, Int.reduceEq, Int.reduceSub, Int.reduceAdd, Int.reduceNeg, Int.reduceLT, Int.reduceLE, Nat.reduceLT, bz_LGFour, h1, h2, eq_self]
  · refine AFun.mk fol J0s Try.func5 rfl (ac := a5) (by kernel_rfl) rfl rfl ?_
    apply vm_start
    unfold a5
    simp only [init_eq, initE]
    have zc35 := gknown_spec
    have zc36 := q1
    have zc37 := q6
    have zc38 := q2
    have zc39 := q3
    have zc40 := q4
    have zc41 := q5
    repeat first | (refine hK _ ?_; clear hK K) | simp only [Sv, ↓reduceIte, Nat.reduceEqDiff] | ((first | refine vm_reg (fun K hK => ?_) | refine vm_dreg (fun K hK => ?_) | refine clp_q ?_ | refine clq_mk (by assumption) ?_); simp (disch := (first | omega | assumption)) only [S1, ↓reduceIte, Nat.reduceEqDiff, Nat.reduceAdd, Nat.reduceMul, Nat.reduceDiv, AOp.sb, AOp.mut, ↓Bool.false_eq_true, beq_self_eq_true, ite_self, Nat.reduceLeDiff, Int.reduceEq, Int.reduceSub, Int.reduceAdd, Int.reduceNeg, Int.reduceLT, Int.reduceLE, Nat.reduceLT, bz_LGFour, h1, eq_self])
    simp (disch := (first | omega | assumption)) only [retOk, retN, ret1, retF, ret1F, V.okArg, and_true, true_and, S1, ↓reduceIte, Nat.reduceEqDiff, Nat.reduceAdd, Nat.reduceMul, Nat.reduceDiv, AOp.sb, AOp.mut, ↓Bool.false_eq_true, beq_self_eq_true, ite_self, Nat.reduceLeDiff, Int.reduceEq, Int.reduceSub, Int.reduceAdd, Int.reduceNeg, Int.reduceLT, Int.reduceLE, Nat.reduceLT, bz_LGFour, h1, eq_self]
-- surd/surdlaw23.GaussNums
def a9 : AC := .seq (.reg [⟨some 3, none, .bx 27 (.t 0)⟩, 
      ⟨some 4, none, .bx 27 (.t 1)⟩, 
      ⟨some 6, none, .mv (.k (.b false))⟩])
  (.seq (.seq (.reg [⟨some 13, none, .call 12 []⟩, 
        ⟨some 14, none, .un .not (.t 13)⟩])
    (.cond (.t 14)
    (.seq (.reg [⟨some 6, none, .mv (.k (.b false))⟩])
      (.ret))
    (.skip)))
  (.seq (.reg [⟨some 16, none, .ld true 2 (.t 3)⟩, 
      ⟨some 17, none, .call 34 [(1, (.t 16))]⟩, 
      ⟨some 15, none, .mv (.t 17)⟩, 
      ⟨some 18, none, .ext (.t 15) 0⟩, 
      ⟨some 19, none, .ext (.t 15) 1⟩, 
      ⟨some 7, none, .mv (.t 18)⟩, 
      ⟨some 8, none, .mv (.t 19)⟩])
  (.seq (.reg [⟨some 21, none, .ld true 2 (.t 3)⟩, 
      ⟨some 22, none, .call 15 [(1, (.t 21))]⟩, 
      ⟨some 23, none, .call 35 [(1, (.t 22))]⟩, 
      ⟨some 20, none, .mv (.t 23)⟩, 
      ⟨some 24, none, .ext (.t 20) 0⟩, 
      ⟨some 25, none, .ext (.t 20) 1⟩, 
      ⟨some 9, none, .mv (.t 24)⟩, 
      ⟨some 10, none, .mv (.t 25)⟩])
  (.seq (.seq (.reg [⟨some 26, none, .mv (.t 7)⟩, 
        ⟨some 27, none, .mv (.t 9)⟩, 
        ⟨some 28, none, .bin .neq (.t 26) (.t 27)⟩, 
        ⟨some 29, none, .mv (.t 28)⟩, 
        ⟨some 30, some (29, false), .mv (.t 8)⟩, 
        ⟨some 31, some (29, false), .mv (.t 10)⟩, 
        ⟨some 32, some (29, false), .bin .neq (.t 30) (.t 31)⟩, 
        ⟨some 33, none, .pick (.t 29) (.k (.b true)) (.t 32)⟩])
    (.cond (.t 33)
    (.seq (.reg [⟨some 6, none, .mv (.k (.b false))⟩])
      (.ret))
    (.skip)))
  (.seq (.reg [⟨some 35, none, .ld true 2 (.t 3)⟩, 
      ⟨some 36, none, .ld true 2 (.t 4)⟩, 
      ⟨some 37, none, .call 36 [(1, (.t 35)), (1, (.t 36))]⟩, 
      ⟨some 34, none, .mv (.t 37)⟩, 
      ⟨some 38, none, .ext (.t 34) 0⟩, 
      ⟨some 39, none, .ext (.t 34) 1⟩, 
      ⟨some 11, none, .al 27 [(.i .i64 0), (.i .i64 0)]⟩, 
      ⟨none, none, .st 2 (.t 11) (.t 38)⟩, 
      ⟨some 8, none, .mv (.t 39)⟩])
  (.seq (.dreg [⟨some 41, none, .ld true 2 (.t 3)⟩, 
      ⟨some 42, none, .call 15 [(1, (.t 41))]⟩, 
      ⟨some 43, none, .ld true 2 (.t 4)⟩, 
      ⟨some 44, none, .call 15 [(1, (.t 43))]⟩, 
      ⟨some 45, none, .call 37 [(1, (.t 42)), (1, (.t 44))]⟩, 
      ⟨some 40, none, .mv (.t 45)⟩, 
      ⟨some 46, none, .ext (.t 40) 0⟩, 
      ⟨some 47, none, .ext (.t 40) 1⟩, 
      ⟨some 12, none, .al 31 [(.i .i64 0), (.i .i64 0)]⟩, 
      ⟨none, none, .st 2 (.t 12) (.t 46)⟩, 
      ⟨some 10, none, .mv (.t 47)⟩])
  (.seq (.seq (.reg [⟨some 48, none, .ld true 2 (.t 12)⟩, 
        ⟨some 49, none, .ld true 2 (.t 11)⟩, 
        ⟨some 50, none, .call 16 [(1, (.t 48)), (1, (.t 49))]⟩, 
        ⟨some 51, none, .un .not (.t 50)⟩, 
        ⟨some 52, none, .mv (.t 51)⟩, 
        ⟨some 53, some (52, false), .mv (.t 8)⟩, 
        ⟨some 54, some (52, false), .mv (.t 10)⟩, 
        ⟨some 55, some (52, false), .bin .neq (.t 53) (.t 54)⟩, 
        ⟨some 56, none, .pick (.t 52) (.k (.b true)) (.t 55)⟩])
    (.cond (.t 56)
    (.seq (.reg [⟨some 6, none, .mv (.k (.b false))⟩])
      (.ret))
    (.skip)))
  (.seq (.reg [⟨some 58, none, .ld true 2 (.t 3)⟩, 
      ⟨some 59, none, .ld true 2 (.t 4)⟩, 
      ⟨some 60, none, .call 38 [(1, (.t 58)), (1, (.t 59))]⟩, 
      ⟨some 57, none, .mv (.t 60)⟩, 
      ⟨some 61, none, .ext (.t 57) 0⟩, 
      ⟨some 62, none, .ext (.t 57) 1⟩, 
      ⟨none, none, .st 2 (.t 11) (.t 61)⟩, 
      ⟨some 8, none, .mv (.t 62)⟩])
  (.seq (.dreg [⟨some 64, none, .ld true 2 (.t 3)⟩, 
      ⟨some 65, none, .call 15 [(1, (.t 64))]⟩, 
      ⟨some 66, none, .ld true 2 (.t 4)⟩, 
      ⟨some 67, none, .call 15 [(1, (.t 66))]⟩, 
      ⟨some 68, none, .call 39 [(1, (.t 65)), (1, (.t 67))]⟩, 
      ⟨some 63, none, .mv (.t 68)⟩, 
      ⟨some 69, none, .ext (.t 63) 0⟩, 
      ⟨some 70, none, .ext (.t 63) 1⟩, 
      ⟨none, none, .st 2 (.t 12) (.t 69)⟩, 
      ⟨some 10, none, .mv (.t 70)⟩])
  (.seq (.seq (.reg [⟨some 71, none, .ld true 2 (.t 12)⟩, 
        ⟨some 72, none, .ld true 2 (.t 11)⟩, 
        ⟨some 73, none, .call 16 [(1, (.t 71)), (1, (.t 72))]⟩, 
        ⟨some 74, none, .un .not (.t 73)⟩, 
        ⟨some 75, none, .mv (.t 74)⟩, 
        ⟨some 76, some (75, false), .mv (.t 8)⟩, 
        ⟨some 77, some (75, false), .mv (.t 10)⟩, 
        ⟨some 78, some (75, false), .bin .neq (.t 76) (.t 77)⟩, 
        ⟨some 79, none, .pick (.t 75) (.k (.b true)) (.t 78)⟩])
    (.cond (.t 79)
    (.seq (.reg [⟨some 6, none, .mv (.k (.b false))⟩])
      (.ret))
    (.skip)))
  (.seq (.reg [⟨some 81, none, .ld true 2 (.t 3)⟩, 
      ⟨some 82, none, .call 40 [(1, (.t 81))]⟩, 
      ⟨some 80, none, .mv (.t 82)⟩, 
      ⟨some 83, none, .ext (.t 80) 0⟩, 
      ⟨some 84, none, .ext (.t 80) 1⟩, 
      ⟨none, none, .st 2 (.t 11) (.t 83)⟩, 
      ⟨some 8, none, .mv (.t 84)⟩])
  (.seq (.reg [⟨some 86, none, .ld true 2 (.t 3)⟩, 
      ⟨some 87, none, .call 15 [(1, (.t 86))]⟩, 
      ⟨some 88, none, .call 41 [(1, (.t 87))]⟩, 
      ⟨some 85, none, .mv (.t 88)⟩, 
      ⟨some 89, none, .ext (.t 85) 0⟩, 
      ⟨some 90, none, .ext (.t 85) 1⟩, 
      ⟨none, none, .st 2 (.t 12) (.t 89)⟩, 
      ⟨some 10, none, .mv (.t 90)⟩])
  (.seq (.seq (.reg [⟨some 91, none, .ld true 2 (.t 12)⟩, 
        ⟨some 92, none, .ld true 2 (.t 11)⟩, 
        ⟨some 93, none, .call 16 [(1, (.t 91)), (1, (.t 92))]⟩, 
        ⟨some 94, none, .un .not (.t 93)⟩, 
        ⟨some 95, none, .mv (.t 94)⟩, 
        ⟨some 96, some (95, false), .mv (.t 8)⟩, 
        ⟨some 97, some (95, false), .mv (.t 10)⟩, 
        ⟨some 98, some (95, false), .bin .neq (.t 96) (.t 97)⟩, 
        ⟨some 99, none, .pick (.t 95) (.k (.b true)) (.t 98)⟩])
    (.cond (.t 99)
    (.seq (.reg [⟨some 6, none, .mv (.k (.b false))⟩])
      (.ret))
    (.skip)))
  (.seq (.reg [⟨some 101, none, .ld true 2 (.t 3)⟩, 
      ⟨some 102, none, .call 42 [(1, (.t 101))]⟩, 
      ⟨some 100, none, .mv (.t 102)⟩, 
      ⟨some 103, none, .ext (.t 100) 0⟩, 
      ⟨some 104, none, .ext (.t 100) 1⟩, 
      ⟨some 7, none, .mv (.t 103)⟩, 
      ⟨some 8, none, .mv (.t 104)⟩])
  (.seq (.reg [⟨some 106, none, .ld true 2 (.t 3)⟩, 
      ⟨some 107, none, .call 15 [(1, (.t 106))]⟩, 
      ⟨some 108, none, .call 43 [(1, (.t 107))]⟩, 
      ⟨some 105, none, .mv (.t 108)⟩, 
      ⟨some 109, none, .ext (.t 105) 0⟩, 
      ⟨some 110, none, .ext (.t 105) 1⟩, 
      ⟨some 9, none, .mv (.t 109)⟩, 
      ⟨some 10, none, .mv (.t 110)⟩])
  (.seq (.seq (.reg [⟨some 111, none, .mv (.t 7)⟩, 
        ⟨some 112, none, .mv (.t 9)⟩, 
        ⟨some 113, none, .bin .neq (.t 111) (.t 112)⟩, 
        ⟨some 114, none, .mv (.t 113)⟩, 
        ⟨some 115, some (114, false), .mv (.t 8)⟩, 
        ⟨some 116, some (114, false), .mv (.t 10)⟩, 
        ⟨some 117, some (114, false), .bin .neq (.t 115) (.t 116)⟩, 
        ⟨some 118, none, .pick (.t 114) (.k (.b true)) (.t 117)⟩])
    (.cond (.t 118)
    (.seq (.reg [⟨some 6, none, .mv (.k (.b false))⟩])
      (.ret))
    (.skip)))
  (.seq (.reg [⟨some 120, none, .ld true 2 (.t 3)⟩, 
      ⟨some 121, none, .mv (.t 2)⟩, 
      ⟨some 122, none, .call 44 [(1, (.t 120)), (1, (.t 121))]⟩, 
      ⟨some 119, none, .mv (.t 122)⟩, 
      ⟨some 123, none, .ext (.t 119) 0⟩, 
      ⟨some 124, none, .ext (.t 119) 1⟩, 
      ⟨none, none, .st 2 (.t 11) (.t 123)⟩, 
      ⟨some 8, none, .mv (.t 124)⟩])
  (.seq (.reg [⟨some 126, none, .ld true 2 (.t 3)⟩, 
      ⟨some 127, none, .call 15 [(1, (.t 126))]⟩, 
      ⟨some 128, none, .mv (.t 2)⟩, 
      ⟨some 129, none, .call 45 [(1, (.t 127)), (1, (.t 128))]⟩, 
      ⟨some 125, none, .mv (.t 129)⟩, 
      ⟨some 130, none, .ext (.t 125) 0⟩, 
      ⟨some 131, none, .ext (.t 125) 1⟩, 
      ⟨none, none, .st 2 (.t 12) (.t 130)⟩, 
      ⟨some 10, none, .mv (.t 131)⟩])
  (.seq (.reg [⟨some 132, none, .ld true 2 (.t 12)⟩, 
      ⟨some 133, none, .ld true 2 (.t 11)⟩, 
      ⟨some 134, none, .call 16 [(1, (.t 132)), (1, (.t 133))]⟩, 
      ⟨some 135, none, .mv (.t 134)⟩, 
      ⟨some 136, some (135, true), .mv (.t 8)⟩, 
      ⟨some 137, some (135, true), .mv (.t 10)⟩, 
      ⟨some 138, some (135, true), .bin .eql (.t 136) (.t 137)⟩, 
      ⟨some 139, none, .pick (.t 135) (.t 138) (.k (.b false))⟩, 
      ⟨some 6, none, .mv (.t 139)⟩])
  (.ret))))))))))))))))))))
set_option maxRecDepth 100000 in
theorem gaussNums_spec (a b : GZ) (n : Int) (ha : Pz a) (hb : Pz b) (hn : Pi n) : AFun Try.prog J0 9 [nV a, nV b, .i .i64 n] (.b true) := by
  have p1 := rsizeS a ha
  have p2 := gsize_spec a
  have p3 := our_spec a
  have p4 := our_spec b
  have p5 := raddS a b ha hb
  have p6 := gaddS a b
  have p7 := is_spec (aF a b)
  have p8 := rmulS a b ha hb
  have p9 := gmulS a b
  have p10 := is_spec (mF a b)
  have p11 := rconjS a ha
  have p12 := gconjS a
  have p13 := is_spec (cF a)
  have p14 := rnormS a ha
  have p15 := gnormS a
  have p16 := rpowS a n ha hn
  have p17 := gpowS a n hn
  have p18 := is_spec (pF a n)
  generalize szV a = v1 at *
  generalize szE a = v2 at *
  generalize aF a b = v3 at *
  generalize aE a b = v4 at *
  generalize mF a b = v5 at *
  generalize mE a b = v6 at *
  generalize cF a = v7 at *
  generalize nF a = v8 at *
  generalize nE a = v9 at *
  generalize pF a n = v10 at *
  generalize pE a n = v11 at *
  simp only [nV] at *
  refine AFun.mk fol J0s Try.func9 rfl (ac := a9) (by kernel_rfl) rfl rfl ?_
  apply vm_start
  unfold a9
  simp only [init_eq, initE]
  have zc42 := gknown_spec
  have zc43 := p1
  have zc44 := p2
  have zc45 := p3
  have zc46 := p4
  have zc47 := p5
  have zc48 := p6
  have zc49 := p7
  have zc50 := p8
  have zc51 := p9
  have zc52 := p10
  have zc53 := p11
  have zc54 := p12
  have zc55 := p13
  have zc56 := p14
  have zc57 := p15
  have zc58 := p16
  have zc59 := p17
  have zc60 := p18
  repeat first | (refine hK _ ?_; clear hK K) | simp only [Sv, ↓reduceIte, Nat.reduceEqDiff] | ((first | refine vm_reg (fun K hK => ?_) | refine vm_dreg (fun K hK => ?_) | refine clp_q ?_ | refine clq_mk (by assumption) ?_); simp (disch := (first | omega | assumption)) only [S1, ↓reduceIte, Nat.reduceEqDiff, Nat.reduceAdd, Nat.reduceMul, Nat.reduceDiv, AOp.sb, AOp.mut, ↓Bool.false_eq_true, beq_self_eq_true, ite_self, Nat.reduceLeDiff, Int.reduceEq, Int.reduceSub, Int.reduceAdd, Int.reduceNeg, Int.reduceLT, Int.reduceLE, Nat.reduceLT, bz_LGFour, eq_self])
  simp (disch := (first | omega | assumption)) only [retOk, retN, ret1, retF, ret1F, V.okArg, and_true, true_and, S1, ↓reduceIte, Nat.reduceEqDiff, Nat.reduceAdd, Nat.reduceMul, Nat.reduceDiv, AOp.sb, AOp.mut, ↓Bool.false_eq_true, beq_self_eq_true, ite_self, Nat.reduceLeDiff, Int.reduceEq, Int.reduceSub, Int.reduceAdd, Int.reduceNeg, Int.reduceLT, Int.reduceLE, Nat.reduceLT, bz_LGFour, eq_self]
end Go.Proofs.Ytfkldohgiifgbaa
