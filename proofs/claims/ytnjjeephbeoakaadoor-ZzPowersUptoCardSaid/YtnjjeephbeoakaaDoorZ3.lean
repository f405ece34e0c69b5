/-
  surdref04.Mul: at school, in base 256.
-/
import Derived.Test.YtnjjeephbeoakaaDoorGH
import Derived.Test.YtnjjeephbeoakaaDoorNM8
namespace Go.Proofs.YtnjjeephbeoakaaDoor
open Go Go.RowKit Ab
set_option linter.unusedSimpArgs false
set_option linter.unusedVariables false
set_option maxHeartbeats 10000000
theorem bz_Z3 : type_of% (And.intro @W_len (And.intro @D_len (And.intro @Nat.div_one (And.intro @Nat.mul_one (And.intro @tn_nat (And.intro @W_nf (And.intro @D_nf (And.intro @W_nil (And.intro @D_nil (And.intro @wi (@D_get))))))))))) := And.intro @W_len (And.intro @D_len (And.intro @Nat.div_one (And.intro @Nat.mul_one (And.intro @tn_nat (And.intro @W_nf (And.intro @D_nf (And.intro @W_nil (And.intro @D_nil (And.intro @wi (@D_get))))))))))

theorem tn_pq (a b : Nat) : ((a : Int) + (b : Int)).toNat = a + b := by omega
theorem acc_bnd {s i x y : Nat} (h : s ≤ 65025 * i) (hx : x < 256) (hy : y < 256) : s + x * y ≤ 65025 * (i + 1) := by
  have h1 : x * y ≤ 255 * 255 := Nat.mul_le_mul (by omega) (by omega)
  omega
-- surd/surdref04.Mul
def a53 : AC := .seq (.reg [⟨some 4, none, .mv (.k .nl)⟩])
  (.seq (.reg [⟨some 13, none, .mv (.t 0)⟩, 
      ⟨some 14, none, .call 51 [(1, (.t 13))]⟩, 
      ⟨some 15, none, .mv (.t 1)⟩, 
      ⟨some 16, none, .call 51 [(1, (.t 15))]⟩, 
      ⟨some 5, none, .mv (.t 14)⟩, 
      ⟨some 6, none, .mv (.t 16)⟩])
  (.seq (.reg [⟨some 17, none, .mv (.t 5)⟩, 
      ⟨some 18, none, .len (.t 17)⟩, 
      ⟨some 19, none, .mv (.t 6)⟩, 
      ⟨some 20, none, .len (.t 19)⟩, 
      ⟨some 21, none, .bin .add (.t 18) (.t 20)⟩, 
      ⟨some 22, none, .bin .add (.t 21) (.k (.i .i64 1))⟩, 
      ⟨some 23, none, .mk 3 1 8 [(.i .i64 0)] (.t 22) (.t 22)⟩, 
      ⟨some 7, none, .mv (.t 23)⟩])
  (.seq (.seq (.reg [⟨some 8, none, .mv (.k (.i .i64 0))⟩])
    (.blk 0
    (.loop
      (.seq (.seq (.reg [⟨some 24, none, .mv (.t 8)⟩, 
              ⟨some 25, none, .mv (.t 5)⟩, 
              ⟨some 26, none, .len (.t 25)⟩, 
              ⟨some 27, none, .bin .lss (.t 24) (.t 26)⟩])
          (.cond (.t 27)
          (.skip)
          (.exit 0)))
        (.seq (.blk 1
          (.seq (.reg [⟨some 9, none, .mv (.k (.i .i64 0))⟩])
            (.blk 2
            (.loop
              (.seq (.seq (.reg [⟨some 30, none, .mv (.t 9)⟩, 
                      ⟨some 31, none, .mv (.t 6)⟩, 
                      ⟨some 32, none, .len (.t 31)⟩, 
                      ⟨some 33, none, .bin .lss (.t 30) (.t 32)⟩])
                  (.cond (.t 33)
                  (.skip)
                  (.exit 2)))
                (.seq (.blk 3
                  (.dreg [⟨some 36, none, .mv (.t 7)⟩, 
                      ⟨some 37, none, .mv (.t 8)⟩, 
                      ⟨some 38, none, .mv (.t 9)⟩, 
                      ⟨some 39, none, .bin .add (.t 37) (.t 38)⟩, 
                      ⟨some 40, none, .mv (.t 7)⟩, 
                      ⟨some 41, none, .mv (.t 8)⟩, 
                      ⟨some 42, none, .mv (.t 9)⟩, 
                      ⟨some 43, none, .bin .add (.t 41) (.t 42)⟩, 
                      ⟨some 44, none, .idx 1 (.t 40) (.t 43)⟩, 
                      ⟨some 45, none, .ld false 1 (.t 44)⟩, 
                      ⟨some 46, none, .mv (.t 5)⟩, 
                      ⟨some 47, none, .mv (.t 8)⟩, 
                      ⟨some 48, none, .idx 1 (.t 46) (.t 47)⟩, 
                      ⟨some 49, none, .ld false 1 (.t 48)⟩, 
                      ⟨some 50, none, .mv (.t 6)⟩, 
                      ⟨some 51, none, .mv (.t 9)⟩, 
                      ⟨some 52, none, .idx 1 (.t 50) (.t 51)⟩, 
                      ⟨some 53, none, .ld false 1 (.t 52)⟩, 
                      ⟨some 54, none, .bin .mul (.t 49) (.t 53)⟩, 
                      ⟨some 55, none, .bin .add (.t 45) (.t 54)⟩, 
                      ⟨some 56, none, .idx 1 (.t 36) (.t 39)⟩, 
                      ⟨none, none, .st 1 (.t 56) (.t 55)⟩]))
                (.reg [⟨some 34, none, .mv (.t 9)⟩, 
                  ⟨some 35, none, .bin .add (.t 34) (.k (.i .i64 1))⟩, 
                  ⟨some 9, none, .mv (.t 35)⟩])))))))
        (.reg [⟨some 28, none, .mv (.t 8)⟩, 
          ⟨some 29, none, .bin .add (.t 28) (.k (.i .i64 1))⟩, 
          ⟨some 8, none, .mv (.t 29)⟩]))))))
  (.seq (.reg [⟨some 10, none, .mv (.k (.i .i64 0))⟩])
  (.seq (.seq (.reg [⟨some 11, none, .mv (.k (.i .i64 0))⟩])
    (.blk 4
    (.loop
      (.seq (.seq (.reg [⟨some 57, none, .mv (.t 11)⟩, 
              ⟨some 58, none, .mv (.t 7)⟩, 
              ⟨some 59, none, .len (.t 58)⟩, 
              ⟨some 60, none, .bin .lss (.t 57) (.t 59)⟩])
          (.cond (.t 60)
          (.skip)
          (.exit 4)))
        (.seq (.blk 5
          (.seq (.reg [⟨some 63, none, .mv (.t 7)⟩, 
                ⟨some 64, none, .mv (.t 11)⟩, 
                ⟨some 65, none, .idx 1 (.t 63) (.t 64)⟩, 
                ⟨some 66, none, .ld false 1 (.t 65)⟩, 
                ⟨some 67, none, .mv (.t 10)⟩, 
                ⟨some 68, none, .bin .add (.t 66) (.t 67)⟩, 
                ⟨some 12, none, .mv (.t 68)⟩])
            (.seq (.reg [⟨some 69, none, .mv (.t 7)⟩, 
                ⟨some 70, none, .mv (.t 11)⟩, 
                ⟨some 71, none, .mv (.t 12)⟩, 
                ⟨some 72, none, .bin .rem (.t 71) (.k (.i .i64 256))⟩, 
                ⟨some 73, none, .idx 1 (.t 69) (.t 70)⟩, 
                ⟨none, none, .st 1 (.t 73) (.t 72)⟩])
            (.reg [⟨some 74, none, .mv (.t 12)⟩, 
              ⟨some 75, none, .bin .quo (.t 74) (.k (.i .i64 256))⟩, 
              ⟨some 10, none, .mv (.t 75)⟩]))))
        (.reg [⟨some 61, none, .mv (.t 11)⟩, 
          ⟨some 62, none, .bin .add (.t 61) (.k (.i .i64 1))⟩, 
          ⟨some 11, none, .mv (.t 62)⟩]))))))
  (.seq (.reg [⟨some 76, none, .mv (.t 7)⟩, 
      ⟨some 77, none, .call 60 [(1, (.t 76))]⟩, 
      ⟨some 4, none, .mv (.t 77)⟩])
  (.ret)))))))
theorem rmul_spec (a b : List Nat) (ha : Wd a) (hb : Wd b) (la : a.length ≤ 100000000) (lb : b.length ≤ 100000000) :
    AFun Tryd.prog J0 53 [.l 1 (W a), .l 1 (W b)] (.o 33 1 (W (dg B (nv B a * nv B b)))) := by
  have da := digits_spec a ha (by omega)
  have db := digits_spec b hb (by omega)
  have lda := dg256_len ha
  have ldb := dg256_len hb
  have ea := nv_dg D2 (nv B a)
  have eb := nv_dg D2 (nv B b)
  have wa := dg_Lt (b := 256) (by decide) (nv B a)
  have wb := dg_Lt (b := 256) (by decide) (nv B b)
  generalize dg 256 (nv B a) = x at *
  generalize dg 256 (nv B b) = y at *
  rw [← ea, ← eb]
  obtain ⟨p, hp⟩ : ∃ p, p = x.length := ⟨_, rfl⟩
  obtain ⟨q, hq⟩ : ∃ q, q = y.length := ⟨_, rfl⟩
  obtain ⟨n, hn⟩ : ∃ n, n = p + q + 1 := ⟨_, rfl⟩
  have hnI : (p : Int) + (q : Int) + 1 = (n : Int) := by omega
  have hn0 : (0 : Int) ≤ (n : Int) := by omega
  have hT : nv 256 x * nv 256 y < 256 ^ n := by
    have h1 := nv_lt wa
    have h2 := nv_lt wb
    have h3 := Nat.mul_lt_mul_of_lt_of_lt h1 h2
    rw [← Nat.pow_add] at h3
    exact Nat.lt_of_lt_of_le h3 (Nat.pow_le_pow_right (by decide) (by omega))
  obtain ⟨T, hTe⟩ : ∃ T, T = nv 256 x * nv 256 y := ⟨_, rfl⟩
  rw [← hTe] at hT ⊢
  refine AFun.mk fol J0s Tryd.func53 rfl (ac := a53) (by kernel_rfl) rfl rfl ?_
  apply vm_start
  unfold a53
  simp only [init_eq, initE]
  have zc1 := da
  have zc2 := db
  repeat first | (refine hK _ ?_; clear hK K) | simp only [Sv, ↓reduceIte, Nat.reduceEqDiff] | ((first | refine vm_reg (fun K hK => ?_) | refine vm_dreg (fun K hK => ?_) | refine vm_dregx (fun K hK => ?_) | refine clp_q ?_ | refine clq_mk (by assumption) ?_); simp (disch := (first | omega | assumption)) only [S1, ↓reduceIte, Nat.reduceEqDiff, Nat.reduceAdd, Nat.reduceMul, Nat.reduceDiv, AOp.sb, AOp.mut, ↓Bool.false_eq_true, beq_self_eq_true, ite_self, Nat.reduceLeDiff, Int.reduceEq, Int.reduceSub, Int.reduceAdd, Int.reduceNeg, Int.reduceLT, Int.reduceLE, Nat.reduceLT, bz_Z3, ← hp, ← hq, hnI, mk_D])
  refine vm_loopA [] (Nat × List Nat) (fun s => ⟨[(5, .l 1 (D x)), (6, .l 1 (D y)), (7, .ow 1 0 n), (8, .i .i64 (s.1 : Int))],
      [(0, some ⟨3, 1, D s.2, true, false⟩)], 1⟩)
    (fun s => s.1 ≤ p ∧ s.2.length = n ∧ nv 256 s.2 = nv 256 (x.take s.1) * nv 256 y ∧ ∀ j, s.2.getD j 0 ≤ 65025 * s.1) (fun s => p - s.1) (0, List.replicate n 0)
    ⟨Nat.zero_le _, by simp, by rw [nv_rep, List.take_zero, show nv 256 [] = 0 from rfl, Nat.zero_mul], fun j => by simp only [List.getD_eq_getElem?_getD, List.getElem?_replicate]; split <;> simp⟩ (by simp (disch := (first | omega | assumption)) only [Sl, Sa, Sw, ↓reduceIte, Nat.reduceEqDiff, Nat.reduceLT, List.all_nil, List.all_cons, Nat.reduceBneDiff, Nat.reduceAdd, bne_iff_ne, ne_eq, reduceCtorEq, not_false_eq_true, not_true_eq_false, Bool.and_true, Bool.true_and, and_true, true_and, and_self]) (by
    simp (disch := (first | omega | assumption)) only [Sl, Sa, Sw, ↓reduceIte, Nat.reduceEqDiff, Nat.reduceLT, List.all_nil, List.all_cons, Nat.reduceBneDiff, Nat.reduceAdd, bne_iff_ne, ne_eq, reduceCtorEq, not_false_eq_true, not_true_eq_false, Bool.and_true, Bool.true_and, and_true, true_and, and_self, i_eq]
    repeat' first | rfl | omega | (simp only [List.length_append, List.length_cons, List.length_nil]; done) | apply And.intro) ?_
  rintro ⟨i, S⟩ ⟨hi, lS, vS, bS⟩ Q' hQ he hr
  simp only [] at hi lS vS bS ⊢
  by_cases hil : (i : Int) < (p : Int)
  · have hxi := Lt_get wa (by decide) i
    repeat first
      | (refine hK _ ?_; clear hK K)
      | ((first | refine vm_reg (fun K hK => ?_) | refine vm_dreg (fun K hK => ?_) | refine vm_dregx (fun K hK => ?_)); simp (disch := (first | omega | assumption)) only [S1, ↓reduceIte, Nat.reduceEqDiff, Nat.reduceAdd, Nat.reduceMul, Nat.reduceDiv, AOp.sb, AOp.mut, ↓Bool.false_eq_true, beq_self_eq_true, ite_self, Nat.reduceLeDiff, Int.reduceEq, Int.reduceSub, Int.reduceAdd, Int.reduceNeg, Int.reduceLT, Int.reduceLE, Nat.reduceLT, bz_Z3, hil, ← hp, ← hq]; refine hK _ ?_; clear hK K)
      | simp only [Sv, ↓reduceIte, Nat.reduceEqDiff]
    refine vm_loopA [] (Nat × List Nat) (fun s => ⟨[(5, .l 1 (D x)), (6, .l 1 (D y)), (7, .ow 1 0 n), (8, .i .i64 (i : Int)), (9, .i .i64 (s.1 : Int))],
        [(0, some ⟨3, 1, D s.2, true, false⟩)], 1⟩)
      (fun s => s.1 ≤ q ∧ s.2.length = n ∧ nv 256 s.2 = nv 256 (x.take i) * nv 256 y + 256 ^ i * (x.getD i 0 * nv 256 (y.take s.1)) ∧ (∀ j, s.2.getD j 0 ≤ 65025 * (i + 1)) ∧ ∀ j, i + s.1 ≤ j → s.2.getD j 0 ≤ 65025 * i) (fun s => q - s.1) (0, S)
      ⟨Nat.zero_le _, lS, by simp only [List.take_zero, show nv 256 [] = 0 from rfl, Nat.mul_zero, Nat.add_zero]; exact vS, fun j => by have := bS j; simp only; omega, fun j _ => bS j⟩ (by simp (disch := (first | omega | assumption)) only [Sl, Sa, Sw, ↓reduceIte, Nat.reduceEqDiff, Nat.reduceLT, List.all_nil, List.all_cons, Nat.reduceBneDiff, Nat.reduceAdd, bne_iff_ne, ne_eq, reduceCtorEq, not_false_eq_true, not_true_eq_false, Bool.and_true, Bool.true_and, and_true, true_and, and_self]) (by
      simp (disch := (first | omega | assumption)) only [Sl, Sa, Sw, ↓reduceIte, Nat.reduceEqDiff, Nat.reduceLT, List.all_nil, List.all_cons, Nat.reduceBneDiff, Nat.reduceAdd, bne_iff_ne, ne_eq, reduceCtorEq, not_false_eq_true, not_true_eq_false, Bool.and_true, Bool.true_and, and_true, true_and, and_self, i_eq]
      repeat' first | rfl | omega | (simp only [List.length_append, List.length_cons, List.length_nil]; done) | apply And.intro) ?_
    rintro ⟨k, U⟩ ⟨hk, lU, vU, bU, cU⟩ Q'' hQ' he' hr'
    simp only [] at hk lU vU bU cU ⊢
    by_cases hkl : (k : Int) < (q : Int)
    · have hyk := Lt_get wb (by decide) k
      have hik := cU (i + k) (Nat.le_refl _)
      have hab := acc_bnd hik hxi hyk
      have htk := nv_take_succ (b := 256) y k (by omega)
      have hst := nv_set (b := 256) U (i + k) (U.getD (i + k) 0 + x.getD i 0 * y.getD k 0) (by omega)
      have hmI : (((U.getD (i + k) 0 : Nat)) : Int) + ((x.getD i 0 : Nat) : Int) * ((y.getD k 0 : Nat) : Int) = ((U.getD (i + k) 0 + x.getD i 0 * y.getD k 0 : Nat) : Int) := by rw [Int.natCast_add, Int.natCast_mul]
      have hxy : x.getD i 0 * y.getD k 0 ≤ 65025 := by have := acc_bnd (s := 0) (i := 0) (by omega) hxi hyk; omega
      obtain ⟨z, hz⟩ : ∃ z, z = x.getD i 0 * y.getD k 0 := ⟨_, rfl⟩
      have hzI : ((x.getD i 0 : Nat) : Int) * ((y.getD k 0 : Nat) : Int) = (z : Int) := by rw [hz, Int.natCast_mul]
      rw [← hz] at hab hst hmI hxy
      rw [hzI] at hmI
      repeat first
        | (refine hK _ ?_; clear hK K)
        | ((first | refine vm_reg (fun K hK => ?_) | refine vm_dreg (fun K hK => ?_) | refine vm_dregx (fun K hK => ?_)); simp (disch := (first | omega | assumption)) only [S1, ↓reduceIte, Nat.reduceEqDiff, Nat.reduceAdd, Nat.reduceMul, Nat.reduceDiv, AOp.sb, AOp.mut, ↓Bool.false_eq_true, beq_self_eq_true, ite_self, Nat.reduceLeDiff, Int.reduceEq, Int.reduceSub, Int.reduceAdd, Int.reduceNeg, Int.reduceLT, Int.reduceLE, Nat.reduceLT, bz_Z3, hkl, ← hp, ← hq, tn_pq, lU, hzI, hmI, D_set]; refine hK _ ?_; clear hK K)
        | simp only [Sv, ↓reduceIte, Nat.reduceEqDiff]
      refine hQ' _ (k + 1, U.set (i + k) (U.getD (i + k) 0 + z)) ⟨by simp only; omega, by simp only [List.length_set]; exact lU, ?_, fun j => ?_, fun j hj => ?_⟩ (by simp only; omega) ?_
      · simp only []
        have e : 256 ^ i * (x.getD i 0 * (256 ^ k * y.getD k 0)) = 256 ^ (i + k) * z := by rw [hz, Nat.pow_add, Nat.mul_assoc, Nat.mul_left_comm (x.getD i 0)]
        rw [htk, Nat.mul_add, Nat.mul_add, e, ← Nat.add_assoc, ← vU]
        rw [Nat.mul_add] at hst
        omega
      · simp only []
        by_cases hj : i + k = j
        · subst hj; rw [getD_set _ _ _ (by omega)]; exact hab
        · rw [getD_set_ne _ _ _ _ hj]; exact bU j
      · simp only [] at hj ⊢
        rw [getD_set_ne _ _ _ _ (by omega)]; exact cU j (by omega)
      · simp (disch := (first | omega | assumption)) only [Sl, Sa, Sw, ↓reduceIte, Nat.reduceEqDiff, Nat.reduceLT, List.all_nil, List.all_cons, Nat.reduceBneDiff, Nat.reduceAdd, bne_iff_ne, ne_eq, reduceCtorEq, not_false_eq_true, not_true_eq_false, Bool.and_true, Bool.true_and, and_true, true_and, and_self, i_eq]
        repeat' first | rfl | omega | (simp only [List.length_append, List.length_cons, List.length_nil]; done) | apply And.intro
    · obtain rfl : k = q := by omega
      rw [show y.take k = y from by rw [hq, List.take_length]] at vU
      repeat first
        | (refine hK _ ?_; clear hK K)
        | ((first | refine vm_reg (fun K hK => ?_) | refine vm_dreg (fun K hK => ?_) | refine vm_dregx (fun K hK => ?_)); simp (disch := (first | omega | assumption)) only [S1, ↓reduceIte, Nat.reduceEqDiff, Nat.reduceAdd, Nat.reduceMul, Nat.reduceDiv, AOp.sb, AOp.mut, ↓Bool.false_eq_true, beq_self_eq_true, ite_self, Nat.reduceLeDiff, Int.reduceEq, Int.reduceSub, Int.reduceAdd, Int.reduceNeg, Int.reduceLT, Int.reduceLE, Nat.reduceLT, bz_Z3, hkl, ← hp, ← hq]; refine hK _ ?_; clear hK K)
        | simp only [Sv, ↓reduceIte, Nat.reduceEqDiff]
      refine he' _ _ ?_
      repeat first
        | (refine hK _ ?_; clear hK K)
        | ((first | refine vm_reg (fun K hK => ?_) | refine vm_dreg (fun K hK => ?_) | refine vm_dregx (fun K hK => ?_)); simp (disch := (first | omega | assumption)) only [S1, ↓reduceIte, Nat.reduceEqDiff, Nat.reduceAdd, Nat.reduceMul, Nat.reduceDiv, AOp.sb, AOp.mut, ↓Bool.false_eq_true, beq_self_eq_true, ite_self, Nat.reduceLeDiff, Int.reduceEq, Int.reduceSub, Int.reduceAdd, Int.reduceNeg, Int.reduceLT, Int.reduceLE, Nat.reduceLT, bz_Z3]; refine hK _ ?_; clear hK K)
        | simp only [Sv, ↓reduceIte, Nat.reduceEqDiff]
      refine hQ _ (i + 1, U) ⟨by simp only; omega, lU, ?_, bU⟩ (by simp only; omega) ?_
      · simp only []
        rw [vU, nv_take_succ (b := 256) x i (by omega), Nat.add_mul, Nat.mul_assoc]
      · simp (disch := (first | omega | assumption)) only [Sl, Sa, Sw, ↓reduceIte, Nat.reduceEqDiff, Nat.reduceLT, List.all_nil, List.all_cons, Nat.reduceBneDiff, Nat.reduceAdd, bne_iff_ne, ne_eq, reduceCtorEq, not_false_eq_true, not_true_eq_false, Bool.and_true, Bool.true_and, and_true, true_and, and_self, i_eq]
        repeat' first | rfl | omega | (simp only [List.length_append, List.length_cons, List.length_nil]; done) | apply And.intro
  · obtain rfl : i = p := by omega
    rw [show x.take i = x from by rw [hp, List.take_length]] at vS
    rw [← hTe] at vS
    obtain ⟨M, hM⟩ : ∃ M, M = 65025 * i := ⟨_, rfl⟩
    have hMb : M ≤ 65025 * 800000000 := by omega
    rw [← hM] at bS
    repeat first
      | (refine hK _ ?_; clear hK K)
      | ((first | refine vm_reg (fun K hK => ?_) | refine vm_dreg (fun K hK => ?_) | refine vm_dregx (fun K hK => ?_)); simp (disch := (first | omega | assumption)) only [S1, ↓reduceIte, Nat.reduceEqDiff, Nat.reduceAdd, Nat.reduceMul, Nat.reduceDiv, AOp.sb, AOp.mut, ↓Bool.false_eq_true, beq_self_eq_true, ite_self, Nat.reduceLeDiff, Int.reduceEq, Int.reduceSub, Int.reduceAdd, Int.reduceNeg, Int.reduceLT, Int.reduceLE, Nat.reduceLT, bz_Z3, hil, ← hp, ← hq]; refine hK _ ?_; clear hK K)
      | simp only [Sv, ↓reduceIte, Nat.reduceEqDiff]
    refine he _ _ ?_
    repeat first
      | (refine hK _ ?_; clear hK K)
      | ((first | refine vm_reg (fun K hK => ?_) | refine vm_dreg (fun K hK => ?_) | refine vm_dregx (fun K hK => ?_)); simp (disch := (first | omega | assumption)) only [S1, ↓reduceIte, Nat.reduceEqDiff, Nat.reduceAdd, Nat.reduceMul, Nat.reduceDiv, AOp.sb, AOp.mut, ↓Bool.false_eq_true, beq_self_eq_true, ite_self, Nat.reduceLeDiff, Int.reduceEq, Int.reduceSub, Int.reduceAdd, Int.reduceNeg, Int.reduceLT, Int.reduceLE, Nat.reduceLT, bz_Z3]; refine hK _ ?_; clear hK K)
      | simp only [Sv, ↓reduceIte, Nat.reduceEqDiff]
    refine vm_loopA [] (Nat × List Nat × Nat) (fun s => ⟨[(7, .ow 1 0 n), (10, .i .i64 (s.2.2 : Int)), (11, .i .i64 (s.1 : Int))],
        [(0, some ⟨3, 1, D (s.2.1 ++ S.drop s.1), true, false⟩)], 1⟩)
      (fun s => s.1 ≤ n ∧ s.2.1.length = s.1 ∧ Lt 256 s.2.1 ∧ s.2.2 ≤ M ∧ nv 256 s.2.1 + 256 ^ s.1 * (s.2.2 + nv 256 (S.drop s.1)) = T) (fun s => n - s.1) (0, [], 0)
      ⟨Nat.zero_le _, rfl, Lt_nil, Nat.zero_le _, by simp [nv, vS]⟩ (by simp (disch := (first | omega | assumption)) only [Sl, Sa, Sw, ↓reduceIte, Nat.reduceEqDiff, Nat.reduceLT, List.all_nil, List.all_cons, Nat.reduceBneDiff, Nat.reduceAdd, bne_iff_ne, ne_eq, reduceCtorEq, not_false_eq_true, not_true_eq_false, Bool.and_true, Bool.true_and, and_true, true_and, and_self]) (by
      simp (disch := (first | omega | assumption)) only [Sl, Sa, Sw, ↓reduceIte, Nat.reduceEqDiff, Nat.reduceLT, List.all_nil, List.all_cons, Nat.reduceBneDiff, Nat.reduceAdd, bne_iff_ne, ne_eq, reduceCtorEq, not_false_eq_true, not_true_eq_false, Bool.and_true, Bool.true_and, and_true, true_and, and_self, i_eq]
      repeat' first | rfl | omega | (simp only [List.length_append, List.length_cons, List.length_nil]; done) | apply And.intro) ?_
    rintro ⟨j, E, c⟩ ⟨hj, lE, wE, hc, vE⟩ Q'' hQ' he' hr'
    simp only [] at hj lE wE hc vE ⊢
    by_cases hjl : (j : Int) < (n : Int)
    · have hjS : j < S.length := by omega
      have hll : (E ++ S.drop j).length = n := by rw [List.length_append, lE, List.length_drop]; omega
      have hget : (E ++ S.drop j).getD j 0 = S.getD j 0 := by rw [List.getD_eq_getElem?_getD, List.getElem?_append_right (by omega), lE, Nat.sub_self, List.getElem?_drop, Nat.add_zero, List.getD_eq_getElem?_getD]
      have hbj := bS j
      obtain ⟨t, ht⟩ : ∃ t, t = S.getD j 0 + c := ⟨_, rfl⟩
      have htI : ((S.getD j 0 : Nat) : Int) + (c : Int) = (t : Int) := by omega
      have hset : (E ++ S.drop j).set j (t % 256) = (E ++ [t % 256]) ++ S.drop (j + 1) := by
        rw [List.drop_eq_getElem_cons hjS, List.set_append_right _ _ (by omega), lE, Nat.sub_self, List.set_cons_zero, List.append_assoc]; rfl
      have hdr := nv_drop_get (b := 256) S j hjS
      repeat first
        | (refine hK _ ?_; clear hK K)
        | ((first | refine vm_reg (fun K hK => ?_) | refine vm_dreg (fun K hK => ?_) | refine vm_dregx (fun K hK => ?_)); simp (disch := (first | omega | assumption)) only [S1, ↓reduceIte, Nat.reduceEqDiff, Nat.reduceAdd, Nat.reduceMul, Nat.reduceDiv, AOp.sb, AOp.mut, ↓Bool.false_eq_true, beq_self_eq_true, ite_self, Nat.reduceLeDiff, Int.reduceEq, Int.reduceSub, Int.reduceAdd, Int.reduceNeg, Int.reduceLT, Int.reduceLE, Nat.reduceLT, bz_Z3, hjl, hll, hget, htI, tmod_256, tdiv_256, D_set, hset]; refine hK _ ?_; clear hK K)
        | simp only [Sv, ↓reduceIte, Nat.reduceEqDiff]
      refine hQ' _ (j + 1, E ++ [t % 256], t / 256) ⟨by simp only; omega, by simp [lE], Lt_app.2 ⟨wE, fun z hz => by rw [List.mem_singleton] at hz; omega⟩, by simp only; omega, ?_⟩ (by simp only; omega) ?_
      · simp only []
        rw [nv_app, nv_one, lE, Nat.pow_succ, Nat.mul_assoc, Nat.add_assoc, ← Nat.mul_add, ← vE, hdr]
        rw [show t % 256 + 256 * (t / 256 + nv 256 (S.drop (j + 1))) = c + (S.getD j 0 + 256 * nv 256 (S.drop (j + 1))) from by rw [Nat.mul_add]; omega]
      · simp (disch := (first | omega | assumption)) only [Sl, Sa, Sw, ↓reduceIte, Nat.reduceEqDiff, Nat.reduceLT, List.all_nil, List.all_cons, Nat.reduceBneDiff, Nat.reduceAdd, bne_iff_ne, ne_eq, reduceCtorEq, not_false_eq_true, not_true_eq_false, Bool.and_true, Bool.true_and, and_true, true_and, and_self, i_eq]
        repeat' first | rfl | omega | (simp only [List.length_append, List.length_cons, List.length_nil]; done) | apply And.intro
    · obtain rfl : j = n := by omega
      have hd0 : S.drop j = [] := List.drop_of_length_le (by omega)
      rw [hd0, show nv 256 [] = 0 from rfl, Nat.add_zero] at vE
      have hc0 : c = 0 := by
        rcases Nat.eq_zero_or_pos c with h | h
        · exact h
        · have := Nat.mul_le_mul_left (256 ^ j) (show 1 ≤ c from h)
          omega
      rw [hc0, Nat.mul_zero, Nat.add_zero] at vE
      have hof := of_spec E wE (by omega)
      rw [vE] at hof
      repeat first
        | (refine hK _ ?_; clear hK K)
        | ((first | refine vm_reg (fun K hK => ?_) | refine vm_dreg (fun K hK => ?_) | refine vm_dregx (fun K hK => ?_)); simp (disch := (first | omega | assumption)) only [S1, ↓reduceIte, Nat.reduceEqDiff, Nat.reduceAdd, Nat.reduceMul, Nat.reduceDiv, AOp.sb, AOp.mut, ↓Bool.false_eq_true, beq_self_eq_true, ite_self, Nat.reduceLeDiff, Int.reduceEq, Int.reduceSub, Int.reduceAdd, Int.reduceNeg, Int.reduceLT, Int.reduceLE, Nat.reduceLT, bz_Z3, hjl]; refine hK _ ?_; clear hK K)
        | simp only [Sv, ↓reduceIte, Nat.reduceEqDiff]
      refine he' _ _ ?_
      have zc3 := hof
      repeat first | (refine hK _ ?_; clear hK K) | simp only [Sv, ↓reduceIte, Nat.reduceEqDiff] | ((first | refine vm_reg (fun K hK => ?_) | refine vm_dreg (fun K hK => ?_) | refine vm_dregx (fun K hK => ?_) | refine clp_q ?_ | refine clq_mk (by assumption) ?_); simp (disch := (first | omega | assumption)) only [S1, ↓reduceIte, Nat.reduceEqDiff, Nat.reduceAdd, Nat.reduceMul, Nat.reduceDiv, AOp.sb, AOp.mut, ↓Bool.false_eq_true, beq_self_eq_true, ite_self, Nat.reduceLeDiff, Int.reduceEq, Int.reduceSub, Int.reduceAdd, Int.reduceNeg, Int.reduceLT, Int.reduceLE, Nat.reduceLT, bz_Z3, hd0, List.append_nil])
      simp (disch := (first | omega | assumption)) only [retOk, retN, ret1, retF, ret1F, V.okArg, and_true, true_and, S1, ↓reduceIte, Nat.reduceEqDiff, Nat.reduceAdd, Nat.reduceMul, Nat.reduceDiv, AOp.sb, AOp.mut, ↓Bool.false_eq_true, beq_self_eq_true, ite_self, Nat.reduceLeDiff, Int.reduceEq, Int.reduceSub, Int.reduceAdd, Int.reduceNeg, Int.reduceLT, Int.reduceLE, Nat.reduceLT, bz_Z3, hd0, List.append_nil]
end Go.Proofs.YtnjjeephbeoakaaDoor
