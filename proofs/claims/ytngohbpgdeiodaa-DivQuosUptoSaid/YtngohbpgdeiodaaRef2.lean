/-
  surdref02: from digits to words; sums, differences of digits.
-/
import Derived.Test.YtngohbpgdeiodaaRef1
namespace Go.Proofs.Ytngohbpgdeiodaa
open Go Go.RowKit Ab
set_option linter.unusedSimpArgs false
set_option linter.unusedVariables false
set_option maxHeartbeats 10000000

theorem B0c : (0 : Int) = ((0 : Nat) : Int) := rfl
-- surd/surdref02.Of
def a56 : AC := .seq (.reg [⟨some 2, none, .mv (.k .nl)⟩])
  (.seq (.reg [⟨some 7, none, .mv (.t 0)⟩, 
      ⟨some 8, none, .call 76 [(1, (.t 7))]⟩, 
      ⟨some 0, none, .mv (.t 8)⟩])
  (.seq (.reg [⟨some 3, none, .mv (.k .nl)⟩])
  (.seq (.seq (.reg [⟨some 4, none, .mv (.k (.i .i64 0))⟩])
    (.blk 0
    (.loop
      (.seq (.seq (.reg [⟨some 9, none, .mv (.t 4)⟩, 
              ⟨some 10, none, .mv (.t 0)⟩, 
              ⟨some 11, none, .len (.t 10)⟩, 
              ⟨some 12, none, .bin .lss (.t 9) (.t 11)⟩])
          (.cond (.t 12)
          (.skip)
          (.exit 0)))
        (.seq (.blk 1
          (.seq (.reg [⟨some 5, none, .mv (.k (.i .u64 0))⟩])
            (.seq (.seq (.reg [⟨some 6, none, .mv (.k (.i .i64 7))⟩])
              (.blk 2
              (.loop
                (.seq (.seq (.reg [⟨some 15, none, .mv (.t 6)⟩, 
                        ⟨some 16, none, .bin .geq (.t 15) (.k (.i .i64 0))⟩])
                    (.cond (.t 16)
                    (.skip)
                    (.exit 2)))
                  (.seq (.blk 3
                    (.seq (.reg [⟨some 19, none, .mv (.t 5)⟩, 
                          ⟨some 20, none, .bin .mul (.t 19) (.k (.i .u64 256))⟩, 
                          ⟨some 5, none, .mv (.t 20)⟩])
                      (.seq (.reg [⟨some 21, none, .mv (.t 4)⟩, 
                          ⟨some 22, none, .mv (.t 6)⟩, 
                          ⟨some 23, none, .bin .add (.t 21) (.t 22)⟩, 
                          ⟨some 24, none, .mv (.t 0)⟩, 
                          ⟨some 25, none, .len (.t 24)⟩, 
                          ⟨some 26, none, .bin .lss (.t 23) (.t 25)⟩])
                      (.cond (.t 26)
                      (.reg [⟨some 27, none, .mv (.t 5)⟩, 
                          ⟨some 28, none, .mv (.t 0)⟩, 
                          ⟨some 29, none, .mv (.t 4)⟩, 
                          ⟨some 30, none, .mv (.t 6)⟩, 
                          ⟨some 31, none, .bin .add (.t 29) (.t 30)⟩, 
                          ⟨some 32, none, .idx 1 (.t 28) (.t 31)⟩, 
                          ⟨some 33, none, .ld false 1 (.t 32)⟩, 
                          ⟨some 34, none, .cvt .u64 (.t 33)⟩, 
                          ⟨some 35, none, .bin .add (.t 27) (.t 34)⟩, 
                          ⟨some 5, none, .mv (.t 35)⟩])
                      (.skip)))))
                  (.reg [⟨some 17, none, .mv (.t 6)⟩, 
                    ⟨some 18, none, .bin .sub (.t 17) (.k (.i .i64 1))⟩, 
                    ⟨some 6, none, .mv (.t 18)⟩]))))))
            (.reg [⟨some 36, none, .mv (.t 3)⟩, 
              ⟨some 37, none, .mv (.t 5)⟩, 
              ⟨some 38, none, .bsl 29 1 1 [(.i .u64 0)] [(0, (.t 37))]⟩, 
              ⟨some 39, none, .app 29 1 8 (.t 36) (.t 38)⟩, 
              ⟨some 3, none, .mv (.t 39)⟩]))))
        (.reg [⟨some 13, none, .mv (.t 4)⟩, 
          ⟨some 14, none, .bin .add (.t 13) (.k (.i .i64 8))⟩, 
          ⟨some 4, none, .mv (.t 14)⟩]))))))
  (.seq (.reg [⟨some 40, none, .mv (.t 3)⟩, 
      ⟨some 2, none, .mv (.t 40)⟩])
  (.ret)))))
theorem of_spec (d : List Nat) (hd : Lt 256 d) (ld : d.length ≤ 1099511627776) : AFun Try.prog J0 56 [.l 1 (D d)] (.o 29 1 (W (dg B (nv 256 d)))) := by
  refine AFun.mk fol J0s Try.func56 rfl (ac := a56) (by kernel_rfl) rfl rfl ?_
  apply vm_start
  unfold a56
  simp only [init_eq, initE]
  obtain ⟨t, ht⟩ : ∃ t, t = tz d := ⟨_, rfl⟩
  have lt : t.length ≤ 1099511627776 := by rw [ht]; exact Nat.le_trans (tz_len d) ld
  have hl : Lt 256 t := by rw [ht]; exact Lt_tz hd
  repeat first
    | (refine hK _ ?_; clear hK K)
    | ((first | refine vm_reg (fun K hK => ?_) | refine vm_dreg (fun K hK => ?_)); simp (disch := (first | omega | assumption)) only [S1, ↓reduceIte, Nat.reduceEqDiff, Nat.reduceAdd, Nat.reduceMul, Nat.reduceDiv, AOp.sb, AOp.mut, ↓Bool.false_eq_true, beq_self_eq_true, ite_self, Nat.reduceLeDiff, Int.reduceEq, Int.reduceSub, Int.reduceAdd, Int.reduceNeg, Int.reduceLT, Int.reduceLE, Nat.reduceLT, W_len, D_len, Nat.div_one, Nat.mul_one, tn_nat, W_nf, D_nf, W_nil, D_nil]; refine hK _ ?_; clear hK K)
    | simp only [Sv, ↓reduceIte, Nat.reduceEqDiff]
  try simp only [Sv, ↓reduceIte, Nat.reduceEqDiff]
  refine vm_reg (fun K hK => ?_)
  simp (disch := (first | omega | assumption)) only [S1, ↓reduceIte, Nat.reduceEqDiff, Nat.reduceAdd, Nat.reduceMul, Nat.reduceDiv, AOp.sb, AOp.mut, ↓Bool.false_eq_true, beq_self_eq_true, ite_self, Nat.reduceLeDiff, Int.reduceEq, Int.reduceSub, Int.reduceAdd, Int.reduceNeg, Int.reduceLT, Int.reduceLE, Nat.reduceLT, W_len, D_len, Nat.div_one, Nat.mul_one, tn_nat, W_nf, D_nf, W_nil, D_nil]
  refine clp_mk _ _ ?_ ?_ ?_ (cut0_spec d (by omega)) ?_
  · simp (disch := (first | omega | assumption)) only [S1, ↓reduceIte, Nat.reduceEqDiff, Nat.reduceAdd, Nat.reduceMul, Nat.reduceDiv, AOp.sb, AOp.mut, ↓Bool.false_eq_true, beq_self_eq_true, ite_self, Nat.reduceLeDiff, Int.reduceEq, Int.reduceSub, Int.reduceAdd, Int.reduceNeg, Int.reduceLT, Int.reduceLE, Nat.reduceLT, W_len, D_len, Nat.div_one, Nat.mul_one, tn_nat, W_nf, D_nf, W_nil, D_nil]
  · simp (disch := (first | omega | assumption)) only [S1, ↓reduceIte, Nat.reduceEqDiff, Nat.reduceAdd, Nat.reduceMul, Nat.reduceDiv, AOp.sb, AOp.mut, ↓Bool.false_eq_true, beq_self_eq_true, ite_self, Nat.reduceLeDiff, Int.reduceEq, Int.reduceSub, Int.reduceAdd, Int.reduceNeg, Int.reduceLT, Int.reduceLE, Nat.reduceLT, W_len, D_len, Nat.div_one, Nat.mul_one, tn_nat, W_nf, D_nf, W_nil, D_nil]
  · first | rfl | (simp (disch := (first | omega | assumption)) only [S1, ↓reduceIte, Nat.reduceEqDiff, Nat.reduceAdd, Nat.reduceMul, Nat.reduceDiv, AOp.sb, AOp.mut, ↓Bool.false_eq_true, beq_self_eq_true, ite_self, Nat.reduceLeDiff, Int.reduceEq, Int.reduceSub, Int.reduceAdd, Int.reduceNeg, Int.reduceLT, Int.reduceLE, Nat.reduceLT, W_len, D_len, Nat.div_one, Nat.mul_one, tn_nat, W_nf, D_nf, W_nil, D_nil])
  simp only [← ht]
  simp (disch := (first | omega | assumption)) only [S1, ↓reduceIte, Nat.reduceEqDiff, Nat.reduceAdd, Nat.reduceMul, Nat.reduceDiv, AOp.sb, AOp.mut, ↓Bool.false_eq_true, beq_self_eq_true, ite_self, Nat.reduceLeDiff, Int.reduceEq, Int.reduceSub, Int.reduceAdd, Int.reduceNeg, Int.reduceLT, Int.reduceLE, Nat.reduceLT, W_len, D_len, Nat.div_one, Nat.mul_one, tn_nat, W_nf, D_nf, W_nil, D_nil]
  refine hK _ ?_
  clear hK K
  obtain ⟨v, hv⟩ : ∃ v, v = nv 256 t := ⟨_, rfl⟩
  repeat first
    | (refine hK _ ?_; clear hK K)
    | ((first | refine vm_reg (fun K hK => ?_) | refine vm_dreg (fun K hK => ?_)); simp (disch := (first | omega | assumption)) only [S1, ↓reduceIte, Nat.reduceEqDiff, Nat.reduceAdd, Nat.reduceMul, Nat.reduceDiv, AOp.sb, AOp.mut, ↓Bool.false_eq_true, beq_self_eq_true, ite_self, Nat.reduceLeDiff, Int.reduceEq, Int.reduceSub, Int.reduceAdd, Int.reduceNeg, Int.reduceLT, Int.reduceLE, Nat.reduceLT, W_len, D_len, Nat.div_one, Nat.mul_one, tn_nat, W_nf, D_nf, W_nil, D_nil]; refine hK _ ?_; clear hK K)
    | simp only [Sv, ↓reduceIte, Nat.reduceEqDiff]
  refine vm_loopM [(3, 29, 1)] Nat (fun i => ⟨[(0, .l 1 (D t)), (3, .ow 1 0 i), (4, .i .i64 ((8 * i : Nat) : Int))], [(0, some ⟨29, 1, W (fl B i v), true, false⟩)], 1⟩)
    (fun i => 8 * i < t.length + 8) (fun i => t.length + 8 - 8 * i) 0 [(0, 6)] (by omega) (by simp (disch := (first | omega | assumption)) only [Sl, Sa, Sw, ↓reduceIte, Nat.reduceEqDiff, Nat.reduceLT, List.all_nil, List.all_cons, Nat.reduceBneDiff, Nat.reduceAdd, bne_iff_ne, ne_eq, reduceCtorEq, not_false_eq_true, not_true_eq_false, Bool.and_true, Bool.true_and, and_true, true_and, and_self]) (by
    simp (disch := (first | omega | assumption)) only [Sl, Sa, Sw, ↓reduceIte, Nat.reduceEqDiff, Nat.reduceLT, List.all_nil, List.all_cons, Nat.reduceBneDiff, Nat.reduceAdd, bne_iff_ne, ne_eq, reduceCtorEq, not_false_eq_true, not_true_eq_false, Bool.and_true, Bool.true_and, and_true, true_and, and_self, i_eq]
    exact ⟨rfl, rfl⟩) ?_
  intro i hi Q' hQ he hr
  by_cases h : ((8 * i : Nat) : Int) < t.length
  · obtain ⟨w, hw⟩ : ∃ w, w = v / B ^ i % B := ⟨_, rfl⟩
    have hwl : w < 18446744073709551616 := by rw [hw]; exact Nat.mod_lt _ B0
    repeat first
      | (refine hK _ ?_; clear hK K)
      | ((first | refine vm_reg (fun K hK => ?_) | refine vm_dreg (fun K hK => ?_)); simp (disch := (first | omega | assumption)) only [S1, ↓reduceIte, Nat.reduceEqDiff, Nat.reduceAdd, Nat.reduceMul, Nat.reduceDiv, AOp.sb, AOp.mut, ↓Bool.false_eq_true, beq_self_eq_true, ite_self, Nat.reduceLeDiff, Int.reduceEq, Int.reduceSub, Int.reduceAdd, Int.reduceNeg, Int.reduceLT, Int.reduceLE, Nat.reduceLT, W_len, D_len, Nat.div_one, Nat.mul_one, tn_nat, W_nf, D_nf, W_nil, D_nil, h]; refine hK _ ?_; clear hK K)
      | simp only [Sv, ↓reduceIte, Nat.reduceEqDiff]
    refine vm_loop Nat (fun k => ⟨[(0, .l 1 (D t)), (3, .ow 1 0 i), (4, .i .i64 ((8 * i : Nat) : Int)), (5, .i .u64 ((w / 256 ^ k : Nat) : Int)), (6, .i .i64 ((k : Int) - 1))], [(0, some ⟨29, 1, W (fl B i v), true, false⟩)], 1⟩)
      (fun k => k ≤ 8) (fun k => k) 8 [] (by omega) (by
      simp (disch := (first | omega | assumption)) only [Sl, Sa, Sw, ↓reduceIte, Nat.reduceEqDiff, Nat.reduceLT, List.all_nil, List.all_cons, Nat.reduceBneDiff, Nat.reduceAdd, bne_iff_ne, ne_eq, reduceCtorEq, not_false_eq_true, not_true_eq_false, Bool.and_true, Bool.true_and, and_true, true_and, and_self, i_eq]
      exact ⟨by rw [Nat.div_eq_of_lt hwl]; rfl, rfl⟩) ?_
    intro k hk Q'' hQ' he' hr'
    by_cases h1 : (0 : Int) ≤ (k : Int) - 1
    · obtain ⟨n, rfl⟩ : ∃ n, k = n + 1 := ⟨k - 1, by omega⟩
      have e : ((n + 1 : Nat) : Int) - 1 = (n : Int) := by omega
      have h1 : (0 : Int) ≤ (n : Int) := by omega
      have dig : t.getD (8 * i + n) 0 = w / 256 ^ n % 256 := by
        rw [nv_digit (b := 256) (by decide) hl, hw, ← hv, Nat.pow_add, ← Nat.div_div_eq_div_mul, ← B_256]
        rw [show B = 256 ^ n * 256 ^ (8 - n) from by rw [← Nat.pow_add, show n + (8 - n) = 8 from by omega]; rfl, Nat.mod_mul_right_div_self]
        rw [show 256 ^ (8 - n) = 256 * 256 ^ (7 - n) from by rw [Nat.mul_comm, ← Nat.pow_succ]; congr 1; omega, Nat.mod_mul_right_mod]
      have hx : w / 256 ^ n < 18446744073709551616 := Nat.lt_of_le_of_lt (Nat.div_le_self _ _) hwl
      obtain ⟨x, hx0⟩ : ∃ x, x = w / 256 ^ n := ⟨_, rfl⟩
      rw [Nat.pow_succ, ← Nat.div_div_eq_div_mul, ← hx0]
      rw [← hx0] at dig hx
      simp only [e]
      by_cases h2 : ((8 * i : Nat) : Int) + (n : Int) < t.length
      · have tn : (((8 * i : Nat) : Int) + (n : Int)).toNat = 8 * i + n := by omega
        repeat first
          | (refine hK _ ?_; clear hK K)
          | ((first | refine vm_reg (fun K hK => ?_) | refine vm_dreg (fun K hK => ?_)); simp (disch := (first | omega | assumption)) only [S1, ↓reduceIte, Nat.reduceEqDiff, Nat.reduceAdd, Nat.reduceMul, Nat.reduceDiv, AOp.sb, AOp.mut, ↓Bool.false_eq_true, beq_self_eq_true, ite_self, Nat.reduceLeDiff, Int.reduceEq, Int.reduceSub, Int.reduceAdd, Int.reduceNeg, Int.reduceLT, Int.reduceLE, Nat.reduceLT, W_len, D_len, Nat.div_one, Nat.mul_one, tn_nat, W_nf, D_nf, W_nil, D_nil, h1, h2, wi, D_get, wu]; refine hK _ ?_; clear hK K)
          | simp only [Sv, ↓reduceIte, Nat.reduceEqDiff]
        refine hQ' _ n [] (by omega) (by omega) ?_
        rw [tn, dig, wu (n := ((x % 256 : Nat) : Int)) (by omega), wu (by omega)]
        simp (disch := (first | omega | assumption)) only [Sl, Sa, Sw, ↓reduceIte, Nat.reduceEqDiff, Nat.reduceLT, List.all_nil, List.all_cons, Nat.reduceBneDiff, Nat.reduceAdd, bne_iff_ne, ne_eq, reduceCtorEq, not_false_eq_true, not_true_eq_false, Bool.and_true, Bool.true_and, and_true, true_and, and_self, i_eq]
        rw [← hx0]; omega
      · rw [List.getD_eq_getElem?_getD, List.getElem?_eq_none (by omega)] at dig
        repeat first
          | (refine hK _ ?_; clear hK K)
          | ((first | refine vm_reg (fun K hK => ?_) | refine vm_dreg (fun K hK => ?_)); simp (disch := (first | omega | assumption)) only [S1, ↓reduceIte, Nat.reduceEqDiff, Nat.reduceAdd, Nat.reduceMul, Nat.reduceDiv, AOp.sb, AOp.mut, ↓Bool.false_eq_true, beq_self_eq_true, ite_self, Nat.reduceLeDiff, Int.reduceEq, Int.reduceSub, Int.reduceAdd, Int.reduceNeg, Int.reduceLT, Int.reduceLE, Nat.reduceLT, W_len, D_len, Nat.div_one, Nat.mul_one, tn_nat, W_nf, D_nf, W_nil, D_nil, h1, h2, wi, wu]; refine hK _ ?_; clear hK K)
          | simp only [Sv, ↓reduceIte, Nat.reduceEqDiff]
        refine hQ' _ n [] (by omega) (by omega) ?_
        simp (disch := (first | omega | assumption)) only [Sl, Sa, Sw, ↓reduceIte, Nat.reduceEqDiff, Nat.reduceLT, List.all_nil, List.all_cons, Nat.reduceBneDiff, Nat.reduceAdd, bne_iff_ne, ne_eq, reduceCtorEq, not_false_eq_true, not_true_eq_false, Bool.and_true, Bool.true_and, and_true, true_and, and_self, i_eq]
        rw [← hx0]; simp at dig; omega
    · obtain rfl : k = 0 := by omega
      repeat first
        | (refine hK _ ?_; clear hK K)
        | ((first | refine vm_reg (fun K hK => ?_) | refine vm_dreg (fun K hK => ?_)); simp (disch := (first | omega | assumption)) only [S1, ↓reduceIte, Nat.reduceEqDiff, Nat.reduceAdd, Nat.reduceMul, Nat.reduceDiv, AOp.sb, AOp.mut, ↓Bool.false_eq_true, beq_self_eq_true, ite_self, Nat.reduceLeDiff, Int.reduceEq, Int.reduceSub, Int.reduceAdd, Int.reduceNeg, Int.reduceLT, Int.reduceLE, Nat.reduceLT, W_len, D_len, Nat.div_one, Nat.mul_one, tn_nat, W_nf, D_nf, W_nil, D_nil, h1]; refine hK _ ?_; clear hK K)
        | simp only [Sv, ↓reduceIte, Nat.reduceEqDiff]
      refine he' _ _ ?_
      repeat first
        | (refine hK _ ?_; clear hK K)
        | ((first | refine vm_reg (fun K hK => ?_) | refine vm_dreg (fun K hK => ?_)); simp (disch := (first | omega | assumption)) only [S1, ↓reduceIte, Nat.reduceEqDiff, Nat.reduceAdd, Nat.reduceMul, Nat.reduceDiv, AOp.sb, AOp.mut, ↓Bool.false_eq_true, beq_self_eq_true, ite_self, Nat.reduceLeDiff, Int.reduceEq, Int.reduceSub, Int.reduceAdd, Int.reduceNeg, Int.reduceLT, Int.reduceLE, Nat.reduceLT, W_len, D_len, Nat.div_one, Nat.mul_one, tn_nat, W_nf, D_nf, W_nil, D_nil, wi, W_app1]; refine hK _ ?_; clear hK K)
        | simp only [Sv, ↓reduceIte, Nat.reduceEqDiff]
      refine hQ _ (i + 1) [(0, 6)] (by omega) (by omega) ?_
      simp (disch := (first | omega | assumption)) only [Sl, Sa, Sw, ↓reduceIte, Nat.reduceEqDiff, Nat.reduceLT, List.all_nil, List.all_cons, Nat.reduceBneDiff, Nat.reduceAdd, bne_iff_ne, ne_eq, reduceCtorEq, not_false_eq_true, not_true_eq_false, Bool.and_true, Bool.true_and, and_true, true_and, and_self, i_eq]
      exact ⟨by omega, by rw [fl_succ, ← hw]; simp⟩
  · repeat first
      | (refine hK _ ?_; clear hK K)
      | ((first | refine vm_reg (fun K hK => ?_) | refine vm_dreg (fun K hK => ?_)); simp (disch := (first | omega | assumption)) only [S1, ↓reduceIte, Nat.reduceEqDiff, Nat.reduceAdd, Nat.reduceMul, Nat.reduceDiv, AOp.sb, AOp.mut, ↓Bool.false_eq_true, beq_self_eq_true, ite_self, Nat.reduceLeDiff, Int.reduceEq, Int.reduceSub, Int.reduceAdd, Int.reduceNeg, Int.reduceLT, Int.reduceLE, Nat.reduceLT, W_len, D_len, Nat.div_one, Nat.mul_one, tn_nat, W_nf, D_nf, W_nil, D_nil, h]; refine hK _ ?_; clear hK K)
      | simp only [Sv, ↓reduceIte, Nat.reduceEqDiff]
    refine he _ _ ?_
    repeat first
      | (refine hK _ ?_; clear hK K)
      | ((first | refine vm_reg (fun K hK => ?_) | refine vm_dreg (fun K hK => ?_)); simp (disch := (first | omega | assumption)) only [S1, ↓reduceIte, Nat.reduceEqDiff, Nat.reduceAdd, Nat.reduceMul, Nat.reduceDiv, AOp.sb, AOp.mut, ↓Bool.false_eq_true, beq_self_eq_true, ite_self, Nat.reduceLeDiff, Int.reduceEq, Int.reduceSub, Int.reduceAdd, Int.reduceNeg, Int.reduceLT, Int.reduceLE, Nat.reduceLT, W_len, D_len, Nat.div_one, Nat.mul_one, tn_nat, W_nf, D_nf, W_nil, D_nil]; refine hK _ ?_; clear hK K)
      | simp only [Sv, ↓reduceIte, Nat.reduceEqDiff]
    have e : fl B i v = dg B (nv 256 d) := by
      have e0 : nv 256 d = v := by rw [hv, ht, nv_tz]
      have h1 := nv_lt hl
      have h2 : 256 ^ t.length ≤ 256 ^ (8 * i) := Nat.pow_le_pow_right (by decide) (by omega)
      rw [e0]
      refine fl_full B2 ?_ (by rw [B_256, hv]; omega)
      rcases Nat.eq_zero_or_pos i with h0 | h0
      · exact .inl h0
      · refine .inr ?_
        have h3 : t ≠ [] := fun h4 => by rw [h4] at hi; simp at hi; omega
        have h4 := nv_top (b := 256) (by rw [ht, tz_tz] : tz t = t) h3
        rw [B_256, hv]
        exact Nat.le_trans (Nat.pow_le_pow_right (by decide) (by omega)) h4
    simp (disch := (first | omega | assumption)) only [retOk, retN, ret1, retF, ret1F, V.okArg, and_true, true_and, S1, ↓reduceIte, Nat.reduceEqDiff, Nat.reduceAdd, Nat.reduceMul, Nat.reduceDiv, AOp.sb, AOp.mut, ↓Bool.false_eq_true, beq_self_eq_true, ite_self, Nat.reduceLeDiff, Int.reduceEq, Int.reduceSub, Int.reduceAdd, Int.reduceNeg, Int.reduceLT, Int.reduceLE, Nat.reduceLT, W_len, D_len, Nat.div_one, Nat.mul_one, tn_nat, W_nf, D_nf, W_nil, D_nil, e]
end Go.Proofs.Ytngohbpgdeiodaa
