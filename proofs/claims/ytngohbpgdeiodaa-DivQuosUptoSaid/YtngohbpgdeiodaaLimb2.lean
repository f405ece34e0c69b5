/-
  limb: taking away, comparing.
-/
import Derived.Test.YtngohbpgdeiodaaLimb1
import Derived.Test.YtngohbpgdeiodaaNM2
namespace Go.Proofs.Ytngohbpgdeiodaa
open Go Go.RowKit Ab
set_option linter.unusedSimpArgs false
set_option linter.unusedVariables false
set_option maxHeartbeats 10000000

theorem mk_W (n : Nat) : (List.replicate n [V.i .u64 0]).flatten = W (List.replicate n 0) := by
  induction n with
  | zero => rfl
  | succ n ih => rw [List.replicate_succ, List.flatten_cons, ih, List.replicate_succ]; rfl
theorem mx (a b : Nat) : max (a : Int) (b : Int) = ((max a b : Nat) : Int) := by omega
theorem W_eq {a b : List Nat} (h : a = b) : W a = W b := by rw [h]
theorem rep_len (n x : Nat) : (List.replicate n x).length = n := by simp

-- surd/limb.Sub
def a107 : AC := .seq (.reg [⟨some 4, none, .mv (.k .nl)⟩, 
      ⟨some 5, none, .mv (.k (.i .u64 0))⟩])
  (.seq (.reg [⟨some 9, none, .mv (.t 0)⟩, 
      ⟨some 10, none, .len (.t 9)⟩, 
      ⟨some 11, none, .mv (.t 1)⟩, 
      ⟨some 12, none, .len (.t 11)⟩, 
      ⟨some 13, none, .mm true (.t 10) (.t 12)⟩, 
      ⟨some 14, none, .mk 29 1 8 [(.i .u64 0)] (.t 13) (.t 13)⟩, 
      ⟨some 6, none, .mv (.t 14)⟩])
  (.seq (.reg [⟨some 7, none, .mv (.k (.i .u64 0))⟩])
  (.seq (.seq (.reg [⟨some 15, none, .mv (.t 6)⟩, 
        ⟨some 16, none, .len (.t 15)⟩, 
        ⟨some 17, none, .mv (.k (.i .i64 0))⟩])
    (.blk 0
    (.loop
      (.seq (.reg [⟨some 18, none, .bin .lss (.t 17) (.t 16)⟩])
        (.seq (.cond (.t 18)
          (.skip)
          (.exit 0))
        (.seq (.blk 1
          (.seq (.reg [⟨some 19, none, .mv (.t 17)⟩, 
                ⟨some 8, none, .mv (.t 19)⟩])
            (.reg [⟨some 21, none, .mv (.t 6)⟩, 
              ⟨some 22, none, .mv (.t 8)⟩, 
              ⟨some 23, none, .mv (.t 0)⟩, 
              ⟨some 24, none, .mv (.t 8)⟩, 
              ⟨some 25, none, .call 92 [(1, (.t 23)), (1, (.t 24))]⟩, 
              ⟨some 26, none, .mv (.t 1)⟩, 
              ⟨some 27, none, .mv (.t 8)⟩, 
              ⟨some 28, none, .call 92 [(1, (.t 26)), (1, (.t 27))]⟩, 
              ⟨some 29, none, .mv (.t 7)⟩, 
              ⟨some 30, none, .call 101 [(1, (.t 25)), (1, (.t 28)), (1, (.t 29))]⟩, 
              ⟨some 20, none, .mv (.t 30)⟩, 
              ⟨some 31, none, .ext (.t 20) 0⟩, 
              ⟨some 32, none, .ext (.t 20) 1⟩, 
              ⟨some 33, none, .idx 1 (.t 21) (.t 22)⟩, 
              ⟨none, none, .st 1 (.t 33) (.t 31)⟩, 
              ⟨some 7, none, .mv (.t 32)⟩])))
        (.reg [⟨some 34, none, .bin .add (.t 17) (.k (.i .i64 1))⟩, 
          ⟨some 17, none, .mv (.t 34)⟩])))))))
  (.seq (.reg [⟨some 35, none, .mv (.t 6)⟩, 
      ⟨some 36, none, .mv (.t 7)⟩, 
      ⟨some 4, none, .mv (.t 35)⟩, 
      ⟨some 5, none, .mv (.t 36)⟩])
  (.ret)))))
theorem limbSub_spec (a b : List Nat) (ha : Wd a) (hb : Wd b) (la : a.length ≤ 1099511627776) (lb : b.length ≤ 1099511627776) :
    AFun Try.prog J0 107 [.l 1 (W a), .l 1 (W b)] (.t [.l 1 (W (fl B (max a.length b.length) (nv B a + B ^ (max a.length b.length) - nv B b))), .i .u64 ((if nv B a < nv B b then 1 else 0 : Nat) : Int)]) := by
  refine AFun.mk fol J0s Try.func107 rfl (ac := a107) (by kernel_rfl) rfl rfl ?_
  apply vm_start
  unfold a107
  simp only [init_eq, initE]
  generalize hm : max a.length b.length = m
  have hm' : m ≤ 1099511627776 := by omega
  repeat first
    | (refine hK _ ?_; clear hK K)
    | ((first | refine vm_reg (fun K hK => ?_) | refine vm_dreg (fun K hK => ?_)); simp (disch := (first | omega | assumption)) only [S1, ↓reduceIte, Nat.reduceEqDiff, Nat.reduceAdd, Nat.reduceMul, Nat.reduceDiv, AOp.sb, AOp.mut, ↓Bool.false_eq_true, beq_self_eq_true, ite_self, Nat.reduceLeDiff, Int.reduceEq, Int.reduceSub, Int.reduceAdd, Int.reduceNeg, Int.reduceLT, Int.reduceLE, Nat.reduceLT, W_len, Nat.div_one, mx, hm, mk_W, tn_nat]; refine hK _ ?_; clear hK K)
    | simp only [Sv, ↓reduceIte, Nat.reduceEqDiff]
  refine vm_loop Nat (fun i => ⟨[(0, .l 1 (W a)), (1, .l 1 (W b)), (6, .ow 1 0 m), (7, .i .u64 ((if nv B (a.take i) < nv B (b.take i) then 1 else 0 : Nat) : Int)), (16, .i .i64 (m : Int)), (17, .i .i64 (i : Int))],
    [(0, some ⟨29, 1, W (fl B i (nv B (a.take i) + B ^ i - nv B (b.take i)) ++ List.replicate (m - i) 0), true, false⟩)], 1⟩)
    (fun i => i ≤ m) (fun i => m - i) 0 [(0, 7)] (Nat.zero_le _) (by
    simp (disch := (first | omega | assumption)) only [Sl, Sa, Sw, ↓reduceIte, Nat.reduceEqDiff, Nat.reduceLT, List.all_nil, List.all_cons, Nat.reduceBneDiff, Nat.reduceAdd, bne_iff_ne, ne_eq, reduceCtorEq, not_false_eq_true, not_true_eq_false, Bool.and_true, Bool.true_and, and_true, true_and, and_self]
    exact ⟨⟨by simp [nv], rfl⟩, W_eq (by simp [fl])⟩) ?_
  intro i hi Q' hQ he hr
  by_cases h : (i : Int) < m
  · have lf : (fl B i (nv B (a.take i) + B ^ i - nv B (b.take i))).length = i := fl_len _ _
    generalize hc : (if nv B (a.take i) < nv B (b.take i) then 1 else 0 : Nat) = c
    have hc1 : c ≤ 1 := by rw [← hc]; split <;> omega
    generalize hl : fl B i (nv B (a.take i) + B ^ i - nv B (b.take i)) = l at lf
    repeat first
      | (refine hK _ ?_; clear hK K)
      | ((first | refine vm_reg (fun K hK => ?_) | refine vm_dreg (fun K hK => ?_)); simp (disch := (first | omega | assumption)) only [S1, ↓reduceIte, Nat.reduceEqDiff, Nat.reduceAdd, Nat.reduceMul, Nat.reduceDiv, AOp.sb, AOp.mut, ↓Bool.false_eq_true, beq_self_eq_true, ite_self, Nat.reduceLeDiff, Int.reduceEq, Int.reduceSub, Int.reduceAdd, Int.reduceNeg, Int.reduceLT, Int.reduceLE, Nat.reduceLT, h]; refine hK _ ?_; clear hK K)
      | simp only [Sv, ↓reduceIte, Nat.reduceEqDiff]
    try simp only [Sv, ↓reduceIte, Nat.reduceEqDiff]
    refine vm_reg (fun K hK => ?_)
    simp (disch := (first | omega | assumption)) only [S1, ↓reduceIte, Nat.reduceEqDiff, Nat.reduceAdd, Nat.reduceMul, Nat.reduceDiv, AOp.sb, AOp.mut, ↓Bool.false_eq_true, beq_self_eq_true, ite_self, Nat.reduceLeDiff, Int.reduceEq, Int.reduceSub, Int.reduceAdd, Int.reduceNeg, Int.reduceLT, Int.reduceLE, Nat.reduceLT]
    refine clp_mk _ _ ?_ ?_ ?_ (at_spec a i) ?_
    · simp (disch := (first | omega | assumption)) only [S1, ↓reduceIte, Nat.reduceEqDiff, Nat.reduceAdd, Nat.reduceMul, Nat.reduceDiv, AOp.sb, AOp.mut, ↓Bool.false_eq_true, beq_self_eq_true, ite_self, Nat.reduceLeDiff, Int.reduceEq, Int.reduceSub, Int.reduceAdd, Int.reduceNeg, Int.reduceLT, Int.reduceLE, Nat.reduceLT]
    · simp (disch := (first | omega | assumption)) only [S1, ↓reduceIte, Nat.reduceEqDiff, Nat.reduceAdd, Nat.reduceMul, Nat.reduceDiv, AOp.sb, AOp.mut, ↓Bool.false_eq_true, beq_self_eq_true, ite_self, Nat.reduceLeDiff, Int.reduceEq, Int.reduceSub, Int.reduceAdd, Int.reduceNeg, Int.reduceLT, Int.reduceLE, Nat.reduceLT]
    · first | rfl | (simp (disch := (first | omega | assumption)) only [S1, ↓reduceIte, Nat.reduceEqDiff, Nat.reduceAdd, Nat.reduceMul, Nat.reduceDiv, AOp.sb, AOp.mut, ↓Bool.false_eq_true, beq_self_eq_true, ite_self, Nat.reduceLeDiff, Int.reduceEq, Int.reduceSub, Int.reduceAdd, Int.reduceNeg, Int.reduceLT, Int.reduceLE, Nat.reduceLT])
    simp (disch := (first | omega | assumption)) only [S1, ↓reduceIte, Nat.reduceEqDiff, Nat.reduceAdd, Nat.reduceMul, Nat.reduceDiv, AOp.sb, AOp.mut, ↓Bool.false_eq_true, beq_self_eq_true, ite_self, Nat.reduceLeDiff, Int.reduceEq, Int.reduceSub, Int.reduceAdd, Int.reduceNeg, Int.reduceLT, Int.reduceLE, Nat.reduceLT]
    refine clp_mk _ _ ?_ ?_ ?_ (at_spec b i) ?_
    · simp (disch := (first | omega | assumption)) only [S1, ↓reduceIte, Nat.reduceEqDiff, Nat.reduceAdd, Nat.reduceMul, Nat.reduceDiv, AOp.sb, AOp.mut, ↓Bool.false_eq_true, beq_self_eq_true, ite_self, Nat.reduceLeDiff, Int.reduceEq, Int.reduceSub, Int.reduceAdd, Int.reduceNeg, Int.reduceLT, Int.reduceLE, Nat.reduceLT]
    · simp (disch := (first | omega | assumption)) only [S1, ↓reduceIte, Nat.reduceEqDiff, Nat.reduceAdd, Nat.reduceMul, Nat.reduceDiv, AOp.sb, AOp.mut, ↓Bool.false_eq_true, beq_self_eq_true, ite_self, Nat.reduceLeDiff, Int.reduceEq, Int.reduceSub, Int.reduceAdd, Int.reduceNeg, Int.reduceLT, Int.reduceLE, Nat.reduceLT]
    · first | rfl | (simp (disch := (first | omega | assumption)) only [S1, ↓reduceIte, Nat.reduceEqDiff, Nat.reduceAdd, Nat.reduceMul, Nat.reduceDiv, AOp.sb, AOp.mut, ↓Bool.false_eq_true, beq_self_eq_true, ite_self, Nat.reduceLeDiff, Int.reduceEq, Int.reduceSub, Int.reduceAdd, Int.reduceNeg, Int.reduceLT, Int.reduceLE, Nat.reduceLT])
    simp (disch := (first | omega | assumption)) only [S1, ↓reduceIte, Nat.reduceEqDiff, Nat.reduceAdd, Nat.reduceMul, Nat.reduceDiv, AOp.sb, AOp.mut, ↓Bool.false_eq_true, beq_self_eq_true, ite_self, Nat.reduceLeDiff, Int.reduceEq, Int.reduceSub, Int.reduceAdd, Int.reduceNeg, Int.reduceLT, Int.reduceLE, Nat.reduceLT]
    refine clp_mk _ _ ?_ ?_ ?_ (subW_spec (a.getD i 0) (b.getD i 0) c (Wd_get ha i) (Wd_get hb i) hc1) ?_
    · simp (disch := (first | omega | assumption)) only [S1, ↓reduceIte, Nat.reduceEqDiff, Nat.reduceAdd, Nat.reduceMul, Nat.reduceDiv, AOp.sb, AOp.mut, ↓Bool.false_eq_true, beq_self_eq_true, ite_self, Nat.reduceLeDiff, Int.reduceEq, Int.reduceSub, Int.reduceAdd, Int.reduceNeg, Int.reduceLT, Int.reduceLE, Nat.reduceLT]
    · simp (disch := (first | omega | assumption)) only [S1, ↓reduceIte, Nat.reduceEqDiff, Nat.reduceAdd, Nat.reduceMul, Nat.reduceDiv, AOp.sb, AOp.mut, ↓Bool.false_eq_true, beq_self_eq_true, ite_self, Nat.reduceLeDiff, Int.reduceEq, Int.reduceSub, Int.reduceAdd, Int.reduceNeg, Int.reduceLT, Int.reduceLE, Nat.reduceLT]
    · first | rfl | (simp (disch := (first | omega | assumption)) only [S1, ↓reduceIte, Nat.reduceEqDiff, Nat.reduceAdd, Nat.reduceMul, Nat.reduceDiv, AOp.sb, AOp.mut, ↓Bool.false_eq_true, beq_self_eq_true, ite_self, Nat.reduceLeDiff, Int.reduceEq, Int.reduceSub, Int.reduceAdd, Int.reduceNeg, Int.reduceLT, Int.reduceLE, Nat.reduceLT])
    have ll : (l ++ List.replicate (m - i) 0).length = m := by rw [List.length_append, lf, rep_len]; omega
    simp (disch := (first | omega | assumption)) only [S1, ↓reduceIte, Nat.reduceEqDiff, Nat.reduceAdd, Nat.reduceMul, Nat.reduceDiv, AOp.sb, AOp.mut, ↓Bool.false_eq_true, beq_self_eq_true, ite_self, Nat.reduceLeDiff, Int.reduceEq, Int.reduceSub, Int.reduceAdd, Int.reduceNeg, Int.reduceLT, Int.reduceLE, Nat.reduceLT, W_len, tn_nat, Nat.mul_one, W_set, ll]
    refine hK _ ?_
    clear hK K
    repeat first
      | (refine hK _ ?_; clear hK K)
      | ((first | refine vm_reg (fun K hK => ?_) | refine vm_dreg (fun K hK => ?_)); simp (disch := (first | omega | assumption)) only [S1, ↓reduceIte, Nat.reduceEqDiff, Nat.reduceAdd, Nat.reduceMul, Nat.reduceDiv, AOp.sb, AOp.mut, ↓Bool.false_eq_true, beq_self_eq_true, ite_self, Nat.reduceLeDiff, Int.reduceEq, Int.reduceSub, Int.reduceAdd, Int.reduceNeg, Int.reduceLT, Int.reduceLE, Nat.reduceLT, wi]; refine hK _ ?_; clear hK K)
      | simp only [Sv, ↓reduceIte, Nat.reduceEqDiff]
    refine hQ _ (i + 1) [] (by omega) (by omega) ?_
    have st := sub_step (b := B) (P := B ^ i) (Nat.pow_pos (by decide)) (nv_take_lt (b := B) (by decide) ha i) (nv_take_lt (b := B) (by decide) hb i) (show a.getD i 0 < B from Wd_get ha i) (show b.getD i 0 < B from Wd_get hb i)
    rw [hc] at st
    obtain ⟨s1, s2, s3⟩ := st
    simp (disch := (first | omega | assumption)) only [Sl, Sa, Sw, ↓reduceIte, Nat.reduceEqDiff, Nat.reduceLT, List.all_nil, List.all_cons, Nat.reduceBneDiff, Nat.reduceAdd, bne_iff_ne, ne_eq, reduceCtorEq, not_false_eq_true, not_true_eq_false, Bool.and_true, Bool.true_and, and_true, true_and, and_self, i_eq]
    refine ⟨⟨?_, by omega⟩, W_eq ?_⟩
    · rw [nv_take_succ', nv_take_succ']; simp only [s3]
    · have e : nv B (a.take (i + 1)) + B ^ (i + 1) - nv B (b.take (i + 1)) = nv B (a.take i) + B ^ i * a.getD i 0 + B ^ i * B - (nv B (b.take i) + B ^ i * b.getD i 0) := by rw [nv_take_succ', nv_take_succ', Nat.pow_succ]
      rw [e, fl_succ, fl_congr (by decide) s2, hl, s1]
      obtain ⟨k, hk⟩ : ∃ k, m - i = k + 1 := ⟨m - i - 1, by omega⟩
      rw [hk, List.replicate_succ, show m - (i + 1) = k from by omega, List.set_append_right _ _ (by omega), lf, Nat.sub_self, List.set_cons_zero, List.append_assoc]
      rfl
  · obtain rfl : i = m := by omega
    repeat first
      | (refine hK _ ?_; clear hK K)
      | ((first | refine vm_reg (fun K hK => ?_) | refine vm_dreg (fun K hK => ?_)); simp (disch := (first | omega | assumption)) only [S1, ↓reduceIte, Nat.reduceEqDiff, Nat.reduceAdd, Nat.reduceMul, Nat.reduceDiv, AOp.sb, AOp.mut, ↓Bool.false_eq_true, beq_self_eq_true, ite_self, Nat.reduceLeDiff, Int.reduceEq, Int.reduceSub, Int.reduceAdd, Int.reduceNeg, Int.reduceLT, Int.reduceLE, Nat.reduceLT, h]; refine hK _ ?_; clear hK K)
      | simp only [Sv, ↓reduceIte, Nat.reduceEqDiff]
    refine he _ _ ?_
    repeat first
      | (refine hK _ ?_; clear hK K)
      | ((first | refine vm_reg (fun K hK => ?_) | refine vm_dreg (fun K hK => ?_)); simp (disch := (first | omega | assumption)) only [S1, ↓reduceIte, Nat.reduceEqDiff, Nat.reduceAdd, Nat.reduceMul, Nat.reduceDiv, AOp.sb, AOp.mut, ↓Bool.false_eq_true, beq_self_eq_true, ite_self, Nat.reduceLeDiff, Int.reduceEq, Int.reduceSub, Int.reduceAdd, Int.reduceNeg, Int.reduceLT, Int.reduceLE, Nat.reduceLT]; refine hK _ ?_; clear hK K)
      | simp only [Sv, ↓reduceIte, Nat.reduceEqDiff]
    simp (disch := (first | omega | assumption)) only [retOk, retN, ret1, retF, ret1F, V.okArg, and_true, true_and, S1, ↓reduceIte, Nat.reduceEqDiff, Nat.reduceAdd, Nat.reduceMul, Nat.reduceDiv, AOp.sb, AOp.mut, ↓Bool.false_eq_true, beq_self_eq_true, ite_self, Nat.reduceLeDiff, Int.reduceEq, Int.reduceSub, Int.reduceAdd, Int.reduceNeg, Int.reduceLT, Int.reduceLE, Nat.reduceLT, l_eq]
    rw [List.take_of_length_le (by omega), List.take_of_length_le (by omega)]
    simp

/-- -1, 0, 1 -/
def sg (x y : Nat) : Int := if x < y then -1 else if x = y then 0 else 1

-- surd/limb.Cmp
def a71 : AC := .seq (.reg [⟨some 4, none, .mv (.k (.i .i64 0))⟩])
  (.seq (.reg [⟨some 9, none, .mv (.t 0)⟩, 
      ⟨some 10, none, .len (.t 9)⟩, 
      ⟨some 11, none, .mv (.t 1)⟩, 
      ⟨some 12, none, .len (.t 11)⟩, 
      ⟨some 13, none, .mm true (.t 10) (.t 12)⟩, 
      ⟨some 5, none, .mv (.t 13)⟩])
  (.seq (.skip)
  (.seq (.seq (.reg [⟨some 14, none, .mv (.t 5)⟩, 
        ⟨some 15, none, .bin .sub (.t 14) (.k (.i .i64 1))⟩, 
        ⟨some 6, none, .mv (.t 15)⟩])
    (.blk 0
    (.loop
      (.seq (.seq (.reg [⟨some 16, none, .mv (.t 6)⟩, 
              ⟨some 17, none, .bin .geq (.t 16) (.k (.i .i64 0))⟩])
          (.cond (.t 17)
          (.skip)
          (.exit 0)))
        (.seq (.blk 1
          (.seq (.reg [⟨some 20, none, .mv (.t 0)⟩, 
                ⟨some 21, none, .mv (.t 6)⟩, 
                ⟨some 22, none, .call 92 [(1, (.t 20)), (1, (.t 21))]⟩, 
                ⟨some 23, none, .mv (.t 1)⟩, 
                ⟨some 24, none, .mv (.t 6)⟩, 
                ⟨some 25, none, .call 92 [(1, (.t 23)), (1, (.t 24))]⟩, 
                ⟨some 7, none, .mv (.t 22)⟩, 
                ⟨some 8, none, .mv (.t 25)⟩])
            (.seq (.blk 2
              (.seq (.reg [⟨some 27, none, .mv (.t 7)⟩, 
                    ⟨some 28, none, .mv (.t 8)⟩, 
                    ⟨some 29, none, .bin .eql (.t 27) (.t 28)⟩, 
                    ⟨some 26, none, .mv (.t 29)⟩])
                (.cond (.t 26)
                (.exit 1)
                (.seq (.reg [⟨some 31, none, .mv (.t 7)⟩, 
                      ⟨some 32, none, .mv (.t 8)⟩, 
                      ⟨some 33, none, .bin .lss (.t 31) (.t 32)⟩, 
                      ⟨some 30, none, .mv (.t 33)⟩])
                  (.cond (.t 30)
                  (.seq (.reg [⟨some 4, none, .mv (.k (.i .i64 (-1)))⟩])
                    (.ret))
                  (.skip))))))
            (.seq (.reg [⟨some 4, none, .mv (.k (.i .i64 1))⟩])
            (.ret)))))
        (.reg [⟨some 18, none, .mv (.t 6)⟩, 
          ⟨some 19, none, .bin .sub (.t 18) (.k (.i .i64 1))⟩, 
          ⟨some 6, none, .mv (.t 19)⟩]))))))
  (.seq (.reg [⟨some 4, none, .mv (.k (.i .i64 0))⟩])
  (.ret)))))
theorem limbCmp_spec (a b : List Nat) (ha : Wd a) (hb : Wd b) (la : a.length ≤ 1099511627776) (lb : b.length ≤ 1099511627776) :
    AFun Try.prog J0 71 [.l 1 (W a), .l 1 (W b)] (.i .i64 (sg (nv B a) (nv B b))) := by
  refine AFun.mk fol J0s Try.func71 rfl (ac := a71) (by kernel_rfl) rfl rfl ?_
  apply vm_start
  unfold a71
  simp only [init_eq, initE]
  generalize hm : max a.length b.length = m
  repeat first
    | (refine hK _ ?_; clear hK K)
    | ((first | refine vm_reg (fun K hK => ?_) | refine vm_dreg (fun K hK => ?_)); simp (disch := (first | omega | assumption)) only [S1, ↓reduceIte, Nat.reduceEqDiff, Nat.reduceAdd, Nat.reduceMul, Nat.reduceDiv, AOp.sb, AOp.mut, ↓Bool.false_eq_true, beq_self_eq_true, ite_self, Nat.reduceLeDiff, Int.reduceEq, Int.reduceSub, Int.reduceAdd, Int.reduceNeg, Int.reduceLT, Int.reduceLE, Nat.reduceLT, W_len, Nat.div_one, mx, hm, wi]; refine hK _ ?_; clear hK K)
    | simp only [Sv, ↓reduceIte, Nat.reduceEqDiff]
  refine vm_loop Nat (fun i => ⟨[(0, .l 1 (W a)), (1, .l 1 (W b)), (6, .i .i64 ((i : Int) - 1))], [], 0⟩)
    (fun i => i ≤ m ∧ ∀ j, i ≤ j → a.getD j 0 = b.getD j 0) (fun i => i) m [] ⟨Nat.le_refl _, fun j hj => by rw [List.getD_eq_getElem?_getD, List.getD_eq_getElem?_getD, List.getElem?_eq_none (by omega), List.getElem?_eq_none (by omega)]⟩ (by simp (disch := (first | omega | assumption)) only [Sl, Sa, Sw, ↓reduceIte, Nat.reduceEqDiff, Nat.reduceLT, List.all_nil, List.all_cons, Nat.reduceBneDiff, Nat.reduceAdd, bne_iff_ne, ne_eq, reduceCtorEq, not_false_eq_true, not_true_eq_false, Bool.and_true, Bool.true_and, and_true, true_and, and_self]) ?_
  intro i ⟨hi, hj⟩ Q' hQ he hr
  by_cases h : (0 : Int) ≤ (i : Int) - 1
  · obtain ⟨n, rfl⟩ : ∃ n, i = n + 1 := ⟨i - 1, by omega⟩
    have e : ((n + 1 : Nat) : Int) - 1 = (n : Int) := by omega
    have h : (0 : Int) ≤ (n : Int) := by omega
    simp only [e]
    repeat first
      | (refine hK _ ?_; clear hK K)
      | ((first | refine vm_reg (fun K hK => ?_) | refine vm_dreg (fun K hK => ?_)); simp (disch := (first | omega | assumption)) only [S1, ↓reduceIte, Nat.reduceEqDiff, Nat.reduceAdd, Nat.reduceMul, Nat.reduceDiv, AOp.sb, AOp.mut, ↓Bool.false_eq_true, beq_self_eq_true, ite_self, Nat.reduceLeDiff, Int.reduceEq, Int.reduceSub, Int.reduceAdd, Int.reduceNeg, Int.reduceLT, Int.reduceLE, Nat.reduceLT, h]; refine hK _ ?_; clear hK K)
      | simp only [Sv, ↓reduceIte, Nat.reduceEqDiff]
    try simp only [Sv, ↓reduceIte, Nat.reduceEqDiff]
    refine vm_reg (fun K hK => ?_)
    simp (disch := (first | omega | assumption)) only [S1, ↓reduceIte, Nat.reduceEqDiff, Nat.reduceAdd, Nat.reduceMul, Nat.reduceDiv, AOp.sb, AOp.mut, ↓Bool.false_eq_true, beq_self_eq_true, ite_self, Nat.reduceLeDiff, Int.reduceEq, Int.reduceSub, Int.reduceAdd, Int.reduceNeg, Int.reduceLT, Int.reduceLE, Nat.reduceLT]
    refine clp_mk _ _ ?_ ?_ ?_ (at_spec a n) ?_
    · simp (disch := (first | omega | assumption)) only [S1, ↓reduceIte, Nat.reduceEqDiff, Nat.reduceAdd, Nat.reduceMul, Nat.reduceDiv, AOp.sb, AOp.mut, ↓Bool.false_eq_true, beq_self_eq_true, ite_self, Nat.reduceLeDiff, Int.reduceEq, Int.reduceSub, Int.reduceAdd, Int.reduceNeg, Int.reduceLT, Int.reduceLE, Nat.reduceLT]
    · simp (disch := (first | omega | assumption)) only [S1, ↓reduceIte, Nat.reduceEqDiff, Nat.reduceAdd, Nat.reduceMul, Nat.reduceDiv, AOp.sb, AOp.mut, ↓Bool.false_eq_true, beq_self_eq_true, ite_self, Nat.reduceLeDiff, Int.reduceEq, Int.reduceSub, Int.reduceAdd, Int.reduceNeg, Int.reduceLT, Int.reduceLE, Nat.reduceLT]
    · first | rfl | (simp (disch := (first | omega | assumption)) only [S1, ↓reduceIte, Nat.reduceEqDiff, Nat.reduceAdd, Nat.reduceMul, Nat.reduceDiv, AOp.sb, AOp.mut, ↓Bool.false_eq_true, beq_self_eq_true, ite_self, Nat.reduceLeDiff, Int.reduceEq, Int.reduceSub, Int.reduceAdd, Int.reduceNeg, Int.reduceLT, Int.reduceLE, Nat.reduceLT])
    simp (disch := (first | omega | assumption)) only [S1, ↓reduceIte, Nat.reduceEqDiff, Nat.reduceAdd, Nat.reduceMul, Nat.reduceDiv, AOp.sb, AOp.mut, ↓Bool.false_eq_true, beq_self_eq_true, ite_self, Nat.reduceLeDiff, Int.reduceEq, Int.reduceSub, Int.reduceAdd, Int.reduceNeg, Int.reduceLT, Int.reduceLE, Nat.reduceLT]
    refine clp_mk _ _ ?_ ?_ ?_ (at_spec b n) ?_
    · simp (disch := (first | omega | assumption)) only [S1, ↓reduceIte, Nat.reduceEqDiff, Nat.reduceAdd, Nat.reduceMul, Nat.reduceDiv, AOp.sb, AOp.mut, ↓Bool.false_eq_true, beq_self_eq_true, ite_self, Nat.reduceLeDiff, Int.reduceEq, Int.reduceSub, Int.reduceAdd, Int.reduceNeg, Int.reduceLT, Int.reduceLE, Nat.reduceLT]
    · simp (disch := (first | omega | assumption)) only [S1, ↓reduceIte, Nat.reduceEqDiff, Nat.reduceAdd, Nat.reduceMul, Nat.reduceDiv, AOp.sb, AOp.mut, ↓Bool.false_eq_true, beq_self_eq_true, ite_self, Nat.reduceLeDiff, Int.reduceEq, Int.reduceSub, Int.reduceAdd, Int.reduceNeg, Int.reduceLT, Int.reduceLE, Nat.reduceLT]
    · first | rfl | (simp (disch := (first | omega | assumption)) only [S1, ↓reduceIte, Nat.reduceEqDiff, Nat.reduceAdd, Nat.reduceMul, Nat.reduceDiv, AOp.sb, AOp.mut, ↓Bool.false_eq_true, beq_self_eq_true, ite_self, Nat.reduceLeDiff, Int.reduceEq, Int.reduceSub, Int.reduceAdd, Int.reduceNeg, Int.reduceLT, Int.reduceLE, Nat.reduceLT])
    simp (disch := (first | omega | assumption)) only [S1, ↓reduceIte, Nat.reduceEqDiff, Nat.reduceAdd, Nat.reduceMul, Nat.reduceDiv, AOp.sb, AOp.mut, ↓Bool.false_eq_true, beq_self_eq_true, ite_self, Nat.reduceLeDiff, Int.reduceEq, Int.reduceSub, Int.reduceAdd, Int.reduceNeg, Int.reduceLT, Int.reduceLE, Nat.reduceLT]
    refine hK _ ?_
    clear hK K
    by_cases h1 : ((a.getD n 0 : Nat) : Int) = ((b.getD n 0 : Nat) : Int)
    · have hj' : ∀ j, n ≤ j → a.getD j 0 = b.getD j 0 := fun j h3 => by
        rcases Nat.lt_or_ge n j with h4 | h4
        · exact hj j h4
        · obtain rfl : j = n := by omega
          omega
      simp only [h1]
      repeat first
        | (refine hK _ ?_; clear hK K)
        | ((first | refine vm_reg (fun K hK => ?_) | refine vm_dreg (fun K hK => ?_)); simp (disch := (first | omega | assumption)) only [S1, ↓reduceIte, Nat.reduceEqDiff, Nat.reduceAdd, Nat.reduceMul, Nat.reduceDiv, AOp.sb, AOp.mut, ↓Bool.false_eq_true, beq_self_eq_true, ite_self, Nat.reduceLeDiff, Int.reduceEq, Int.reduceSub, Int.reduceAdd, Int.reduceNeg, Int.reduceLT, Int.reduceLE, Nat.reduceLT, wi]; refine hK _ ?_; clear hK K)
        | simp only [Sv, ↓reduceIte, Nat.reduceEqDiff]
      exact hQ _ n [] ⟨by omega, hj'⟩ (by omega) (by simp (disch := (first | omega | assumption)) only [Sl, Sa, Sw, ↓reduceIte, Nat.reduceEqDiff, Nat.reduceLT, List.all_nil, List.all_cons, Nat.reduceBneDiff, Nat.reduceAdd, bne_iff_ne, ne_eq, reduceCtorEq, not_false_eq_true, not_true_eq_false, Bool.and_true, Bool.true_and, and_true, true_and, and_self])
    · have c1 := (nv_eq_of (B := B) (n + 1) hj).1
      have c2 := (nv_eq_of (B := B) (n + 1) hj).2
      by_cases h2 : ((a.getD n 0 : Nat) : Int) < ((b.getD n 0 : Nat) : Int)
      · repeat first
          | (refine hK _ ?_; clear hK K)
          | ((first | refine vm_reg (fun K hK => ?_) | refine vm_dreg (fun K hK => ?_)); simp (disch := (first | omega | assumption)) only [S1, ↓reduceIte, Nat.reduceEqDiff, Nat.reduceAdd, Nat.reduceMul, Nat.reduceDiv, AOp.sb, AOp.mut, ↓Bool.false_eq_true, beq_self_eq_true, ite_self, Nat.reduceLeDiff, Int.reduceEq, Int.reduceSub, Int.reduceAdd, Int.reduceNeg, Int.reduceLT, Int.reduceLE, Nat.reduceLT, h1, h2]; refine hK _ ?_; clear hK K)
          | simp only [Sv, ↓reduceIte, Nat.reduceEqDiff]
        refine hr _ ?_
        have c3 := cmp_lt (b := B) (by decide) ha hb n (by omega)
        have c4 : nv B a < nv B b := c1.1 c3
        simp (disch := (first | omega | assumption)) only [retOk, retN, ret1, retF, ret1F, V.okArg, and_true, true_and, S1, ↓reduceIte, Nat.reduceEqDiff, Nat.reduceAdd, Nat.reduceMul, Nat.reduceDiv, AOp.sb, AOp.mut, ↓Bool.false_eq_true, beq_self_eq_true, ite_self, Nat.reduceLeDiff, Int.reduceEq, Int.reduceSub, Int.reduceAdd, Int.reduceNeg, Int.reduceLT, Int.reduceLE, Nat.reduceLT, i_eq]
        simp [sg, c4]
      · repeat first
          | (refine hK _ ?_; clear hK K)
          | ((first | refine vm_reg (fun K hK => ?_) | refine vm_dreg (fun K hK => ?_)); simp (disch := (first | omega | assumption)) only [S1, ↓reduceIte, Nat.reduceEqDiff, Nat.reduceAdd, Nat.reduceMul, Nat.reduceDiv, AOp.sb, AOp.mut, ↓Bool.false_eq_true, beq_self_eq_true, ite_self, Nat.reduceLeDiff, Int.reduceEq, Int.reduceSub, Int.reduceAdd, Int.reduceNeg, Int.reduceLT, Int.reduceLE, Nat.reduceLT, h1, h2]; refine hK _ ?_; clear hK K)
          | simp only [Sv, ↓reduceIte, Nat.reduceEqDiff]
        refine hr _ ?_
        have c3 := cmp_lt (b := B) (by decide) hb ha n (by omega)
        have c4 : ¬ nv B a < nv B b := fun h => by have := c1.2 h; omega
        have c5 : ¬ nv B a = nv B b := fun h => by have := c2.2 h; omega
        simp (disch := (first | omega | assumption)) only [retOk, retN, ret1, retF, ret1F, V.okArg, and_true, true_and, S1, ↓reduceIte, Nat.reduceEqDiff, Nat.reduceAdd, Nat.reduceMul, Nat.reduceDiv, AOp.sb, AOp.mut, ↓Bool.false_eq_true, beq_self_eq_true, ite_self, Nat.reduceLeDiff, Int.reduceEq, Int.reduceSub, Int.reduceAdd, Int.reduceNeg, Int.reduceLT, Int.reduceLE, Nat.reduceLT, i_eq]
        simp [sg, c4, c5]
  · obtain rfl : i = 0 := by omega
    repeat first
      | (refine hK _ ?_; clear hK K)
      | ((first | refine vm_reg (fun K hK => ?_) | refine vm_dreg (fun K hK => ?_)); simp (disch := (first | omega | assumption)) only [S1, ↓reduceIte, Nat.reduceEqDiff, Nat.reduceAdd, Nat.reduceMul, Nat.reduceDiv, AOp.sb, AOp.mut, ↓Bool.false_eq_true, beq_self_eq_true, ite_self, Nat.reduceLeDiff, Int.reduceEq, Int.reduceSub, Int.reduceAdd, Int.reduceNeg, Int.reduceLT, Int.reduceLE, Nat.reduceLT, h]; refine hK _ ?_; clear hK K)
      | simp only [Sv, ↓reduceIte, Nat.reduceEqDiff]
    refine he _ _ ?_
    repeat first
      | (refine hK _ ?_; clear hK K)
      | ((first | refine vm_reg (fun K hK => ?_) | refine vm_dreg (fun K hK => ?_)); simp (disch := (first | omega | assumption)) only [S1, ↓reduceIte, Nat.reduceEqDiff, Nat.reduceAdd, Nat.reduceMul, Nat.reduceDiv, AOp.sb, AOp.mut, ↓Bool.false_eq_true, beq_self_eq_true, ite_self, Nat.reduceLeDiff, Int.reduceEq, Int.reduceSub, Int.reduceAdd, Int.reduceNeg, Int.reduceLT, Int.reduceLE, Nat.reduceLT]; refine hK _ ?_; clear hK K)
      | simp only [Sv, ↓reduceIte, Nat.reduceEqDiff]
    have c2 := (nv_eq_of (B := B) 0 hj).2.1 rfl
    simp (disch := (first | omega | assumption)) only [retOk, retN, ret1, retF, ret1F, V.okArg, and_true, true_and, S1, ↓reduceIte, Nat.reduceEqDiff, Nat.reduceAdd, Nat.reduceMul, Nat.reduceDiv, AOp.sb, AOp.mut, ↓Bool.false_eq_true, beq_self_eq_true, ite_self, Nat.reduceLeDiff, Int.reduceEq, Int.reduceSub, Int.reduceAdd, Int.reduceNeg, Int.reduceLT, Int.reduceLE, Nat.reduceLT, i_eq]
    simp [sg, c2]
end Go.Proofs.Ytngohbpgdeiodaa
