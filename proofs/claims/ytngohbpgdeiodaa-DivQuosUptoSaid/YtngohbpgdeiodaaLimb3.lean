/-
  limb: adding.
-/
import Derived.Test.YtngohbpgdeiodaaLimb2
namespace Go.Proofs.Ytngohbpgdeiodaa
open Go Go.RowKit Ab
set_option linter.unusedSimpArgs false
set_option linter.unusedVariables false
set_option maxHeartbeats 10000000

/-- words added from the bottom: i of them are done -/
theorem addEnd {a b : List Nat} {i : Nat} (ha : Wd a) (hi : b.length ≤ i) (hia : i ≤ a.length) (hc : (nv B (a.take i) + nv B (b.take i)) / B ^ i = 0) :
    fl B i (nv B (a.take i) + nv B (b.take i)) ++ a.drop i = fl B a.length (nv B a + nv B b) ∧ (nv B a + nv B b) / B ^ a.length = 0 := by
  rw [List.take_of_length_le hi] at hc ⊢
  have h0 : nv B (a.take i) + nv B b < B ^ i := by
    rcases Nat.lt_or_ge (nv B (a.take i) + nv B b) (B ^ i) with h | h
    · exact h
    · have := (Nat.le_div_iff_mul_le (Nat.pow_pos (by decide : 0 < B))).2 (by simpa using h : 1 * B ^ i ≤ _); omega
  have h1 := nv_take_drop (b := B) a i hia
  have hd := nv_lt (Lt_drop ha i)
  rw [List.length_drop] at hd
  have e : nv B a + nv B b = (nv B (a.take i) + nv B b) + B ^ i * nv B (a.drop i) := by omega
  have hl : a.length = i + (a.length - i) := by omega
  have hlt : nv B a + nv B b < B ^ a.length := by
    rw [e, hl, Nat.pow_add]
    have := Nat.mul_le_mul_left (B ^ i) hd
    rw [Nat.mul_succ] at this
    omega
  refine ⟨?_, Nat.div_eq_of_lt hlt⟩
  rw [hl, fl_add, e, Nat.add_mul_div_left _ _ (Nat.pow_pos (by decide)), Nat.div_eq_of_lt h0, Nat.zero_add]
  congr 1
  · exact fl_congr (by decide) (by rw [Nat.add_mul_mod_self_left])
  · have := fl_nv (Lt_drop ha i)
    rw [List.length_drop] at this
    exact this.symm

-- surd/limb.Add
def a67 : AC := .seq (.reg [⟨some 4, none, .mv (.k .nl)⟩, 
      ⟨some 5, none, .mv (.k (.i .u64 0))⟩])
  (.seq (.seq (.reg [⟨some 9, none, .mv (.t 0)⟩, 
        ⟨some 10, none, .len (.t 9)⟩, 
        ⟨some 11, none, .mv (.t 1)⟩, 
        ⟨some 12, none, .len (.t 11)⟩, 
        ⟨some 13, none, .bin .lss (.t 10) (.t 12)⟩])
    (.cond (.t 13)
    (.reg [⟨some 14, none, .mv (.t 1)⟩, 
        ⟨some 15, none, .mv (.t 0)⟩, 
        ⟨some 0, none, .mv (.t 14)⟩, 
        ⟨some 1, none, .mv (.t 15)⟩])
    (.skip)))
  (.seq (.reg [⟨some 16, none, .mv (.t 0)⟩, 
      ⟨some 17, none, .call 69 [(1, (.t 16))]⟩, 
      ⟨some 6, none, .mv (.t 17)⟩])
  (.seq (.reg [⟨some 7, none, .mv (.k (.i .u64 0))⟩])
  (.seq (.skip)
  (.seq (.seq (.reg [⟨some 18, none, .mv (.t 6)⟩, 
        ⟨some 19, none, .len (.t 18)⟩, 
        ⟨some 20, none, .mv (.k (.i .i64 0))⟩])
    (.blk 0
    (.loop
      (.seq (.reg [⟨some 21, none, .bin .lss (.t 20) (.t 19)⟩])
        (.seq (.cond (.t 21)
          (.skip)
          (.exit 0))
        (.seq (.blk 1
          (.seq (.reg [⟨some 22, none, .mv (.t 20)⟩, 
                ⟨some 8, none, .mv (.t 22)⟩])
            (.seq (.seq (.reg [⟨some 23, none, .mv (.t 8)⟩, 
                  ⟨some 24, none, .mv (.t 1)⟩, 
                  ⟨some 25, none, .len (.t 24)⟩, 
                  ⟨some 26, none, .bin .geq (.t 23) (.t 25)⟩, 
                  ⟨some 27, none, .mv (.t 26)⟩, 
                  ⟨some 28, some (27, true), .mv (.t 7)⟩, 
                  ⟨some 29, some (27, true), .bin .eql (.t 28) (.k (.i .u64 0))⟩, 
                  ⟨some 30, none, .pick (.t 27) (.t 29) (.k (.b false))⟩])
              (.cond (.t 30)
              (.exit 0)
              (.skip)))
            (.dreg [⟨some 32, none, .mv (.t 6)⟩, 
              ⟨some 33, none, .mv (.t 8)⟩, 
              ⟨some 34, none, .mv (.t 0)⟩, 
              ⟨some 35, none, .mv (.t 8)⟩, 
              ⟨some 36, none, .idx 1 (.t 34) (.t 35)⟩, 
              ⟨some 37, none, .ld false 1 (.t 36)⟩, 
              ⟨some 38, none, .mv (.t 1)⟩, 
              ⟨some 39, none, .mv (.t 8)⟩, 
              ⟨some 40, none, .call 92 [(1, (.t 38)), (1, (.t 39))]⟩, 
              ⟨some 41, none, .mv (.t 7)⟩, 
              ⟨some 42, none, .call 91 [(1, (.t 37)), (1, (.t 40)), (1, (.t 41))]⟩, 
              ⟨some 31, none, .mv (.t 42)⟩, 
              ⟨some 43, none, .ext (.t 31) 0⟩, 
              ⟨some 44, none, .ext (.t 31) 1⟩, 
              ⟨some 45, none, .idx 1 (.t 32) (.t 33)⟩, 
              ⟨none, none, .st 1 (.t 45) (.t 43)⟩, 
              ⟨some 7, none, .mv (.t 44)⟩]))))
        (.reg [⟨some 46, none, .bin .add (.t 20) (.k (.i .i64 1))⟩, 
          ⟨some 20, none, .mv (.t 46)⟩])))))))
  (.seq (.reg [⟨some 47, none, .mv (.t 6)⟩, 
      ⟨some 48, none, .mv (.t 7)⟩, 
      ⟨some 4, none, .mv (.t 47)⟩, 
      ⟨some 5, none, .mv (.t 48)⟩])
  (.ret)))))))
theorem limbAdd_fr (a b : List Nat) (ha : Wd a) (hb : Wd b) (la : a.length ≤ 1099511627776) (lb : b.length ≤ 1099511627776) :
    AFun Try.prog J0 67 [.l 1 (W a), .l 1 (W b)] (.fr (.t [.l 1 (W (fl B (max a.length b.length) (nv B a + nv B b))), .i .u64 (((nv B a + nv B b) / B ^ (max a.length b.length) : Nat) : Int)])) := by
  refine AFun.mk fol J0s Try.func67 rfl (ac := a67) (by kernel_rfl) rfl rfl ?_
  apply vm_start
  unfold a67
  simp only [init_eq, initE]
  by_cases hab : (a.length : Int) < b.length
  · repeat first
      | (refine hK _ ?_; clear hK K)
      | ((first | refine vm_reg (fun K hK => ?_) | refine vm_dreg (fun K hK => ?_)); simp (disch := (first | omega | assumption)) only [S1, ↓reduceIte, Nat.reduceEqDiff, Nat.reduceAdd, Nat.reduceMul, Nat.reduceDiv, AOp.sb, AOp.mut, ↓Bool.false_eq_true, beq_self_eq_true, ite_self, Nat.reduceLeDiff, Int.reduceEq, Int.reduceSub, Int.reduceAdd, Int.reduceNeg, Int.reduceLT, Int.reduceLE, Nat.reduceLT, W_len, Nat.div_one, hab]; refine hK _ ?_; clear hK K)
      | simp only [Sv, ↓reduceIte, Nat.reduceEqDiff]
    try simp only [Sv, ↓reduceIte, Nat.reduceEqDiff]
    refine vm_reg (fun K hK => ?_)
    simp (disch := (first | omega | assumption)) only [S1, ↓reduceIte, Nat.reduceEqDiff, Nat.reduceAdd, Nat.reduceMul, Nat.reduceDiv, AOp.sb, AOp.mut, ↓Bool.false_eq_true, beq_self_eq_true, ite_self, Nat.reduceLeDiff, Int.reduceEq, Int.reduceSub, Int.reduceAdd, Int.reduceNeg, Int.reduceLT, Int.reduceLE, Nat.reduceLT]
    refine clp_mk _ _ ?_ ?_ ?_ (clone_spec b (by omega)) ?_
    · simp (disch := (first | omega | assumption)) only [S1, ↓reduceIte, Nat.reduceEqDiff, Nat.reduceAdd, Nat.reduceMul, Nat.reduceDiv, AOp.sb, AOp.mut, ↓Bool.false_eq_true, beq_self_eq_true, ite_self, Nat.reduceLeDiff, Int.reduceEq, Int.reduceSub, Int.reduceAdd, Int.reduceNeg, Int.reduceLT, Int.reduceLE, Nat.reduceLT]
    · simp (disch := (first | omega | assumption)) only [S1, ↓reduceIte, Nat.reduceEqDiff, Nat.reduceAdd, Nat.reduceMul, Nat.reduceDiv, AOp.sb, AOp.mut, ↓Bool.false_eq_true, beq_self_eq_true, ite_self, Nat.reduceLeDiff, Int.reduceEq, Int.reduceSub, Int.reduceAdd, Int.reduceNeg, Int.reduceLT, Int.reduceLE, Nat.reduceLT]
    · first | rfl | (simp (disch := (first | omega | assumption)) only [S1, ↓reduceIte, Nat.reduceEqDiff, Nat.reduceAdd, Nat.reduceMul, Nat.reduceDiv, AOp.sb, AOp.mut, ↓Bool.false_eq_true, beq_self_eq_true, ite_self, Nat.reduceLeDiff, Int.reduceEq, Int.reduceSub, Int.reduceAdd, Int.reduceNeg, Int.reduceLT, Int.reduceLE, Nat.reduceLT])
    simp (disch := (first | omega | assumption)) only [S1, ↓reduceIte, Nat.reduceEqDiff, Nat.reduceAdd, Nat.reduceMul, Nat.reduceDiv, AOp.sb, AOp.mut, ↓Bool.false_eq_true, beq_self_eq_true, ite_self, Nat.reduceLeDiff, Int.reduceEq, Int.reduceSub, Int.reduceAdd, Int.reduceNeg, Int.reduceLT, Int.reduceLE, Nat.reduceLT, W_len, Nat.div_one, W_nf]
    refine hK _ ?_
    clear hK K
    repeat first
      | (refine hK _ ?_; clear hK K)
      | ((first | refine vm_reg (fun K hK => ?_) | refine vm_dreg (fun K hK => ?_)); simp (disch := (first | omega | assumption)) only [S1, ↓reduceIte, Nat.reduceEqDiff, Nat.reduceAdd, Nat.reduceMul, Nat.reduceDiv, AOp.sb, AOp.mut, ↓Bool.false_eq_true, beq_self_eq_true, ite_self, Nat.reduceLeDiff, Int.reduceEq, Int.reduceSub, Int.reduceAdd, Int.reduceNeg, Int.reduceLT, Int.reduceLE, Nat.reduceLT, W_len, Nat.div_one]; refine hK _ ?_; clear hK K)
      | simp only [Sv, ↓reduceIte, Nat.reduceEqDiff]
    refine vm_loop Nat (fun i => ⟨[(0, .l 1 (W b)), (1, .l 1 (W a)), (6, .ow 1 0 b.length), (7, .i .u64 (((nv B (b.take i) + nv B (a.take i)) / B ^ i : Nat) : Int)), (19, .i .i64 (b.length : Int)), (20, .i .i64 (i : Int))],
      [(0, some ⟨29, 1, W (fl B i (nv B (b.take i) + nv B (a.take i)) ++ b.drop i), true, false⟩)], 1⟩)
      (fun i => i ≤ b.length) (fun i => b.length - i) 0 [(0, 12)] (Nat.zero_le _) (by
      simp (disch := (first | omega | assumption)) only [Sl, Sa, Sw, ↓reduceIte, Nat.reduceEqDiff, Nat.reduceLT, List.all_nil, List.all_cons, Nat.reduceBneDiff, Nat.reduceAdd, bne_iff_ne, ne_eq, reduceCtorEq, not_false_eq_true, not_true_eq_false, Bool.and_true, Bool.true_and, and_true, true_and, and_self]
      exact ⟨⟨by simp [nv], rfl⟩, W_eq (by simp [fl])⟩) ?_
    intro i hi Q' hQ he hr
    have em : max a.length b.length = b.length := by omega
    have en : nv B a + nv B b = nv B b + nv B a := by omega
    have lf : (fl B i (nv B (b.take i) + nv B (a.take i))).length = i := fl_len _ _
    generalize hc : (nv B (b.take i) + nv B (a.take i)) / B ^ i = c
    have hcB : c ≤ 1 := by
      have h1 := nv_take_lt (b := B) (by decide) hb i
      have h2 := nv_take_lt (b := B) (by decide) ha i
      rw [← hc]
      exact Nat.le_of_lt_succ ((Nat.div_lt_iff_lt_mul (Nat.pow_pos (by decide))).2 (by omega))
    by_cases h : (i : Int) < b.length
    · by_cases h1 : (a.length : Int) ≤ i
      · by_cases h2 : (c : Int) = 0
        · repeat first
            | (refine hK _ ?_; clear hK K)
            | ((first | refine vm_reg (fun K hK => ?_) | refine vm_dreg (fun K hK => ?_)); simp (disch := (first | omega | assumption)) only [S1, ↓reduceIte, Nat.reduceEqDiff, Nat.reduceAdd, Nat.reduceMul, Nat.reduceDiv, AOp.sb, AOp.mut, ↓Bool.false_eq_true, beq_self_eq_true, ite_self, Nat.reduceLeDiff, Int.reduceEq, Int.reduceSub, Int.reduceAdd, Int.reduceNeg, Int.reduceLT, Int.reduceLE, Nat.reduceLT, h, h1, h2, W_len, Nat.div_one]; refine hK _ ?_; clear hK K)
            | simp only [Sv, ↓reduceIte, Nat.reduceEqDiff]
          refine he _ _ ?_
          repeat first
            | (refine hK _ ?_; clear hK K)
            | ((first | refine vm_reg (fun K hK => ?_) | refine vm_dreg (fun K hK => ?_)); simp (disch := (first | omega | assumption)) only [S1, ↓reduceIte, Nat.reduceEqDiff, Nat.reduceAdd, Nat.reduceMul, Nat.reduceDiv, AOp.sb, AOp.mut, ↓Bool.false_eq_true, beq_self_eq_true, ite_self, Nat.reduceLeDiff, Int.reduceEq, Int.reduceSub, Int.reduceAdd, Int.reduceNeg, Int.reduceLT, Int.reduceLE, Nat.reduceLT]; refine hK _ ?_; clear hK K)
            | simp only [Sv, ↓reduceIte, Nat.reduceEqDiff]
          obtain ⟨e1, e2⟩ := addEnd (a := b) (b := a) (i := i) hb (by omega) hi (by omega)
          simp (disch := (first | omega | assumption)) only [retOk, retN, ret1, retF, ret1F, V.okArg, and_true, true_and, S1, ↓reduceIte, Nat.reduceEqDiff, Nat.reduceAdd, Nat.reduceMul, Nat.reduceDiv, AOp.sb, AOp.mut, ↓Bool.false_eq_true, beq_self_eq_true, ite_self, Nat.reduceLeDiff, Int.reduceEq, Int.reduceSub, Int.reduceAdd, Int.reduceNeg, Int.reduceLT, Int.reduceLE, Nat.reduceLT, l_eq, W_nf, i_eq]
          rw [em, en, e1, e2]
          exact ⟨rfl, rfl⟩
        · repeat first
            | (refine hK _ ?_; clear hK K)
            | ((first | refine vm_reg (fun K hK => ?_) | refine vm_dreg (fun K hK => ?_)); simp (disch := (first | omega | assumption)) only [S1, ↓reduceIte, Nat.reduceEqDiff, Nat.reduceAdd, Nat.reduceMul, Nat.reduceDiv, AOp.sb, AOp.mut, ↓Bool.false_eq_true, beq_self_eq_true, ite_self, Nat.reduceLeDiff, Int.reduceEq, Int.reduceSub, Int.reduceAdd, Int.reduceNeg, Int.reduceLT, Int.reduceLE, Nat.reduceLT, h, h1, h2, W_len, Nat.div_one]; refine hK _ ?_; clear hK K)
            | simp only [Sv, ↓reduceIte, Nat.reduceEqDiff]
          try simp only [Sv, ↓reduceIte, Nat.reduceEqDiff]
          refine vm_dreg (fun K hK => ?_)
          simp (disch := (first | omega | assumption)) only [S1, ↓reduceIte, Nat.reduceEqDiff, Nat.reduceAdd, Nat.reduceMul, Nat.reduceDiv, AOp.sb, AOp.mut, ↓Bool.false_eq_true, beq_self_eq_true, ite_self, Nat.reduceLeDiff, Int.reduceEq, Int.reduceSub, Int.reduceAdd, Int.reduceNeg, Int.reduceLT, Int.reduceLE, Nat.reduceLT, W_len, W_get, tn_nat, Nat.mul_one]
          refine clp_mk _ _ ?_ ?_ ?_ (at_spec a i) ?_
          · simp (disch := (first | omega | assumption)) only [S1, ↓reduceIte, Nat.reduceEqDiff, Nat.reduceAdd, Nat.reduceMul, Nat.reduceDiv, AOp.sb, AOp.mut, ↓Bool.false_eq_true, beq_self_eq_true, ite_self, Nat.reduceLeDiff, Int.reduceEq, Int.reduceSub, Int.reduceAdd, Int.reduceNeg, Int.reduceLT, Int.reduceLE, Nat.reduceLT]
          · simp (disch := (first | omega | assumption)) only [S1, ↓reduceIte, Nat.reduceEqDiff, Nat.reduceAdd, Nat.reduceMul, Nat.reduceDiv, AOp.sb, AOp.mut, ↓Bool.false_eq_true, beq_self_eq_true, ite_self, Nat.reduceLeDiff, Int.reduceEq, Int.reduceSub, Int.reduceAdd, Int.reduceNeg, Int.reduceLT, Int.reduceLE, Nat.reduceLT]
          · first | rfl | (simp (disch := (first | omega | assumption)) only [S1, ↓reduceIte, Nat.reduceEqDiff, Nat.reduceAdd, Nat.reduceMul, Nat.reduceDiv, AOp.sb, AOp.mut, ↓Bool.false_eq_true, beq_self_eq_true, ite_self, Nat.reduceLeDiff, Int.reduceEq, Int.reduceSub, Int.reduceAdd, Int.reduceNeg, Int.reduceLT, Int.reduceLE, Nat.reduceLT])
          simp (disch := (first | omega | assumption)) only [S1, ↓reduceIte, Nat.reduceEqDiff, Nat.reduceAdd, Nat.reduceMul, Nat.reduceDiv, AOp.sb, AOp.mut, ↓Bool.false_eq_true, beq_self_eq_true, ite_self, Nat.reduceLeDiff, Int.reduceEq, Int.reduceSub, Int.reduceAdd, Int.reduceNeg, Int.reduceLT, Int.reduceLE, Nat.reduceLT]
          refine clp_mk _ _ ?_ ?_ ?_ (addW_spec (b.getD i 0) (a.getD i 0) c (Wd_get hb i) (Wd_get ha i) (by omega)) ?_
          · simp (disch := (first | omega | assumption)) only [S1, ↓reduceIte, Nat.reduceEqDiff, Nat.reduceAdd, Nat.reduceMul, Nat.reduceDiv, AOp.sb, AOp.mut, ↓Bool.false_eq_true, beq_self_eq_true, ite_self, Nat.reduceLeDiff, Int.reduceEq, Int.reduceSub, Int.reduceAdd, Int.reduceNeg, Int.reduceLT, Int.reduceLE, Nat.reduceLT]
          · simp (disch := (first | omega | assumption)) only [S1, ↓reduceIte, Nat.reduceEqDiff, Nat.reduceAdd, Nat.reduceMul, Nat.reduceDiv, AOp.sb, AOp.mut, ↓Bool.false_eq_true, beq_self_eq_true, ite_self, Nat.reduceLeDiff, Int.reduceEq, Int.reduceSub, Int.reduceAdd, Int.reduceNeg, Int.reduceLT, Int.reduceLE, Nat.reduceLT]
          · first | rfl | (simp (disch := (first | omega | assumption)) only [S1, ↓reduceIte, Nat.reduceEqDiff, Nat.reduceAdd, Nat.reduceMul, Nat.reduceDiv, AOp.sb, AOp.mut, ↓Bool.false_eq_true, beq_self_eq_true, ite_self, Nat.reduceLeDiff, Int.reduceEq, Int.reduceSub, Int.reduceAdd, Int.reduceNeg, Int.reduceLT, Int.reduceLE, Nat.reduceLT])
          have ll : (fl B i (nv B (b.take i) + nv B (a.take i)) ++ b.drop i).length = b.length := by rw [List.length_append, lf, List.length_drop]; omega
          simp (disch := (first | omega | assumption)) only [S1, ↓reduceIte, Nat.reduceEqDiff, Nat.reduceAdd, Nat.reduceMul, Nat.reduceDiv, AOp.sb, AOp.mut, ↓Bool.false_eq_true, beq_self_eq_true, ite_self, Nat.reduceLeDiff, Int.reduceEq, Int.reduceSub, Int.reduceAdd, Int.reduceNeg, Int.reduceLT, Int.reduceLE, Nat.reduceLT, W_len, tn_nat, Nat.mul_one, W_set, ll]
          refine hK _ ?_
          clear hK K
          repeat first
            | (refine hK _ ?_; clear hK K)
            | ((first | refine vm_reg (fun K hK => ?_) | refine vm_dreg (fun K hK => ?_)); simp (disch := (first | omega | assumption)) only [S1, ↓reduceIte, Nat.reduceEqDiff, Nat.reduceAdd, Nat.reduceMul, Nat.reduceDiv, AOp.sb, AOp.mut, ↓Bool.false_eq_true, beq_self_eq_true, ite_self, Nat.reduceLeDiff, Int.reduceEq, Int.reduceSub, Int.reduceAdd, Int.reduceNeg, Int.reduceLT, Int.reduceLE, Nat.reduceLT, wi]; refine hK _ ?_; clear hK K)
            | simp only [Sv, ↓reduceIte, Nat.reduceEqDiff]
          refine hQ _ (i + 1) [] (by omega) (by omega) ?_
          obtain ⟨s1, s2, s3⟩ := add_step (b := B) (P := B ^ i) (A := nv B (b.take i)) (Y := nv B (a.take i)) (x := b.getD i 0) (y := a.getD i 0) (Nat.pow_pos (by decide)) (by decide)
          rw [hc] at s1 s3
          simp (disch := (first | omega | assumption)) only [Sl, Sa, Sw, ↓reduceIte, Nat.reduceEqDiff, Nat.reduceLT, List.all_nil, List.all_cons, Nat.reduceBneDiff, Nat.reduceAdd, bne_iff_ne, ne_eq, reduceCtorEq, not_false_eq_true, not_true_eq_false, Bool.and_true, Bool.true_and, and_true, true_and, and_self, i_eq]
          refine ⟨⟨?_, by omega⟩, W_eq ?_⟩
          · rw [nv_take_succ', nv_take_succ', Nat.pow_succ, s3]; rfl
          · rw [nv_take_succ', nv_take_succ', fl_succ, fl_congr (by decide) s2, s1, List.drop_eq_getElem_cons (by omega : i < b.length), List.set_append_right _ _ (by omega), lf, Nat.sub_self, List.set_cons_zero, List.append_assoc]
            rfl
      · repeat first
          | (refine hK _ ?_; clear hK K)
          | ((first | refine vm_reg (fun K hK => ?_) | refine vm_dreg (fun K hK => ?_)); simp (disch := (first | omega | assumption)) only [S1, ↓reduceIte, Nat.reduceEqDiff, Nat.reduceAdd, Nat.reduceMul, Nat.reduceDiv, AOp.sb, AOp.mut, ↓Bool.false_eq_true, beq_self_eq_true, ite_self, Nat.reduceLeDiff, Int.reduceEq, Int.reduceSub, Int.reduceAdd, Int.reduceNeg, Int.reduceLT, Int.reduceLE, Nat.reduceLT, h, h1, W_len, Nat.div_one]; refine hK _ ?_; clear hK K)
          | simp only [Sv, ↓reduceIte, Nat.reduceEqDiff]
        try simp only [Sv, ↓reduceIte, Nat.reduceEqDiff]
        refine vm_dreg (fun K hK => ?_)
        simp (disch := (first | omega | assumption)) only [S1, ↓reduceIte, Nat.reduceEqDiff, Nat.reduceAdd, Nat.reduceMul, Nat.reduceDiv, AOp.sb, AOp.mut, ↓Bool.false_eq_true, beq_self_eq_true, ite_self, Nat.reduceLeDiff, Int.reduceEq, Int.reduceSub, Int.reduceAdd, Int.reduceNeg, Int.reduceLT, Int.reduceLE, Nat.reduceLT, W_len, W_get, tn_nat, Nat.mul_one]
        refine clp_mk _ _ ?_ ?_ ?_ (at_spec a i) ?_
        · simp (disch := (first | omega | assumption)) only [S1, ↓reduceIte, Nat.reduceEqDiff, Nat.reduceAdd, Nat.reduceMul, Nat.reduceDiv, AOp.sb, AOp.mut, ↓Bool.false_eq_true, beq_self_eq_true, ite_self, Nat.reduceLeDiff, Int.reduceEq, Int.reduceSub, Int.reduceAdd, Int.reduceNeg, Int.reduceLT, Int.reduceLE, Nat.reduceLT]
        · simp (disch := (first | omega | assumption)) only [S1, ↓reduceIte, Nat.reduceEqDiff, Nat.reduceAdd, Nat.reduceMul, Nat.reduceDiv, AOp.sb, AOp.mut, ↓Bool.false_eq_true, beq_self_eq_true, ite_self, Nat.reduceLeDiff, Int.reduceEq, Int.reduceSub, Int.reduceAdd, Int.reduceNeg, Int.reduceLT, Int.reduceLE, Nat.reduceLT]
        · first | rfl | (simp (disch := (first | omega | assumption)) only [S1, ↓reduceIte, Nat.reduceEqDiff, Nat.reduceAdd, Nat.reduceMul, Nat.reduceDiv, AOp.sb, AOp.mut, ↓Bool.false_eq_true, beq_self_eq_true, ite_self, Nat.reduceLeDiff, Int.reduceEq, Int.reduceSub, Int.reduceAdd, Int.reduceNeg, Int.reduceLT, Int.reduceLE, Nat.reduceLT])
        simp (disch := (first | omega | assumption)) only [S1, ↓reduceIte, Nat.reduceEqDiff, Nat.reduceAdd, Nat.reduceMul, Nat.reduceDiv, AOp.sb, AOp.mut, ↓Bool.false_eq_true, beq_self_eq_true, ite_self, Nat.reduceLeDiff, Int.reduceEq, Int.reduceSub, Int.reduceAdd, Int.reduceNeg, Int.reduceLT, Int.reduceLE, Nat.reduceLT]
        refine clp_mk _ _ ?_ ?_ ?_ (addW_spec (b.getD i 0) (a.getD i 0) c (Wd_get hb i) (Wd_get ha i) (by omega)) ?_
        · simp (disch := (first | omega | assumption)) only [S1, ↓reduceIte, Nat.reduceEqDiff, Nat.reduceAdd, Nat.reduceMul, Nat.reduceDiv, AOp.sb, AOp.mut, ↓Bool.false_eq_true, beq_self_eq_true, ite_self, Nat.reduceLeDiff, Int.reduceEq, Int.reduceSub, Int.reduceAdd, Int.reduceNeg, Int.reduceLT, Int.reduceLE, Nat.reduceLT]
        · simp (disch := (first | omega | assumption)) only [S1, ↓reduceIte, Nat.reduceEqDiff, Nat.reduceAdd, Nat.reduceMul, Nat.reduceDiv, AOp.sb, AOp.mut, ↓Bool.false_eq_true, beq_self_eq_true, ite_self, Nat.reduceLeDiff, Int.reduceEq, Int.reduceSub, Int.reduceAdd, Int.reduceNeg, Int.reduceLT, Int.reduceLE, Nat.reduceLT]
        · first | rfl | (simp (disch := (first | omega | assumption)) only [S1, ↓reduceIte, Nat.reduceEqDiff, Nat.reduceAdd, Nat.reduceMul, Nat.reduceDiv, AOp.sb, AOp.mut, ↓Bool.false_eq_true, beq_self_eq_true, ite_self, Nat.reduceLeDiff, Int.reduceEq, Int.reduceSub, Int.reduceAdd, Int.reduceNeg, Int.reduceLT, Int.reduceLE, Nat.reduceLT])
        have ll : (fl B i (nv B (b.take i) + nv B (a.take i)) ++ b.drop i).length = b.length := by rw [List.length_append, lf, List.length_drop]; omega
        simp (disch := (first | omega | assumption)) only [S1, ↓reduceIte, Nat.reduceEqDiff, Nat.reduceAdd, Nat.reduceMul, Nat.reduceDiv, AOp.sb, AOp.mut, ↓Bool.false_eq_true, beq_self_eq_true, ite_self, Nat.reduceLeDiff, Int.reduceEq, Int.reduceSub, Int.reduceAdd, Int.reduceNeg, Int.reduceLT, Int.reduceLE, Nat.reduceLT, W_len, tn_nat, Nat.mul_one, W_set, ll]
        refine hK _ ?_
        clear hK K
        repeat first
          | (refine hK _ ?_; clear hK K)
          | ((first | refine vm_reg (fun K hK => ?_) | refine vm_dreg (fun K hK => ?_)); simp (disch := (first | omega | assumption)) only [S1, ↓reduceIte, Nat.reduceEqDiff, Nat.reduceAdd, Nat.reduceMul, Nat.reduceDiv, AOp.sb, AOp.mut, ↓Bool.false_eq_true, beq_self_eq_true, ite_self, Nat.reduceLeDiff, Int.reduceEq, Int.reduceSub, Int.reduceAdd, Int.reduceNeg, Int.reduceLT, Int.reduceLE, Nat.reduceLT, wi]; refine hK _ ?_; clear hK K)
          | simp only [Sv, ↓reduceIte, Nat.reduceEqDiff]
        refine hQ _ (i + 1) [] (by omega) (by omega) ?_
        obtain ⟨s1, s2, s3⟩ := add_step (b := B) (P := B ^ i) (A := nv B (b.take i)) (Y := nv B (a.take i)) (x := b.getD i 0) (y := a.getD i 0) (Nat.pow_pos (by decide)) (by decide)
        rw [hc] at s1 s3
        simp (disch := (first | omega | assumption)) only [Sl, Sa, Sw, ↓reduceIte, Nat.reduceEqDiff, Nat.reduceLT, List.all_nil, List.all_cons, Nat.reduceBneDiff, Nat.reduceAdd, bne_iff_ne, ne_eq, reduceCtorEq, not_false_eq_true, not_true_eq_false, Bool.and_true, Bool.true_and, and_true, true_and, and_self, i_eq]
        refine ⟨⟨?_, by omega⟩, W_eq ?_⟩
        · rw [nv_take_succ', nv_take_succ', Nat.pow_succ, s3]; rfl
        · rw [nv_take_succ', nv_take_succ', fl_succ, fl_congr (by decide) s2, s1, List.drop_eq_getElem_cons (by omega : i < b.length), List.set_append_right _ _ (by omega), lf, Nat.sub_self, List.set_cons_zero, List.append_assoc]
          rfl
    · obtain rfl : i = b.length := by omega
      repeat first
        | (refine hK _ ?_; clear hK K)
        | ((first | refine vm_reg (fun K hK => ?_) | refine vm_dreg (fun K hK => ?_)); simp (disch := (first | omega | assumption)) only [S1, ↓reduceIte, Nat.reduceEqDiff, Nat.reduceAdd, Nat.reduceMul, Nat.reduceDiv, AOp.sb, AOp.mut, ↓Bool.false_eq_true, beq_self_eq_true, ite_self, Nat.reduceLeDiff, Int.reduceEq, Int.reduceSub, Int.reduceAdd, Int.reduceNeg, Int.reduceLT, Int.reduceLE, Nat.reduceLT, h]; refine hK _ ?_; clear hK K)
        | simp only [Sv, ↓reduceIte, Nat.reduceEqDiff]
      refine he _ _ ?_
      repeat first
        | (refine hK _ ?_; clear hK K)
        | ((first | refine vm_reg (fun K hK => ?_) | refine vm_dreg (fun K hK => ?_)); simp (disch := (first | omega | assumption)) only [S1, ↓reduceIte, Nat.reduceEqDiff, Nat.reduceAdd, Nat.reduceMul, Nat.reduceDiv, AOp.sb, AOp.mut, ↓Bool.false_eq_true, beq_self_eq_true, ite_self, Nat.reduceLeDiff, Int.reduceEq, Int.reduceSub, Int.reduceAdd, Int.reduceNeg, Int.reduceLT, Int.reduceLE, Nat.reduceLT]; refine hK _ ?_; clear hK K)
        | simp only [Sv, ↓reduceIte, Nat.reduceEqDiff]
      simp (disch := (first | omega | assumption)) only [retOk, retN, ret1, retF, ret1F, V.okArg, and_true, true_and, S1, ↓reduceIte, Nat.reduceEqDiff, Nat.reduceAdd, Nat.reduceMul, Nat.reduceDiv, AOp.sb, AOp.mut, ↓Bool.false_eq_true, beq_self_eq_true, ite_self, Nat.reduceLeDiff, Int.reduceEq, Int.reduceSub, Int.reduceAdd, Int.reduceNeg, Int.reduceLT, Int.reduceLE, Nat.reduceLT, l_eq, W_nf, i_eq]
      rw [em, en, ← hc, List.take_of_length_le (Nat.le_refl _), List.take_of_length_le (by omega), List.drop_of_length_le (Nat.le_refl _), List.append_nil]
      exact ⟨rfl, rfl⟩
  · repeat first
      | (refine hK _ ?_; clear hK K)
      | ((first | refine vm_reg (fun K hK => ?_) | refine vm_dreg (fun K hK => ?_)); simp (disch := (first | omega | assumption)) only [S1, ↓reduceIte, Nat.reduceEqDiff, Nat.reduceAdd, Nat.reduceMul, Nat.reduceDiv, AOp.sb, AOp.mut, ↓Bool.false_eq_true, beq_self_eq_true, ite_self, Nat.reduceLeDiff, Int.reduceEq, Int.reduceSub, Int.reduceAdd, Int.reduceNeg, Int.reduceLT, Int.reduceLE, Nat.reduceLT, W_len, Nat.div_one, hab]; refine hK _ ?_; clear hK K)
      | simp only [Sv, ↓reduceIte, Nat.reduceEqDiff]
    try simp only [Sv, ↓reduceIte, Nat.reduceEqDiff]
    refine vm_reg (fun K hK => ?_)
    simp (disch := (first | omega | assumption)) only [S1, ↓reduceIte, Nat.reduceEqDiff, Nat.reduceAdd, Nat.reduceMul, Nat.reduceDiv, AOp.sb, AOp.mut, ↓Bool.false_eq_true, beq_self_eq_true, ite_self, Nat.reduceLeDiff, Int.reduceEq, Int.reduceSub, Int.reduceAdd, Int.reduceNeg, Int.reduceLT, Int.reduceLE, Nat.reduceLT]
    refine clp_mk _ _ ?_ ?_ ?_ (clone_spec a (by omega)) ?_
    · simp (disch := (first | omega | assumption)) only [S1, ↓reduceIte, Nat.reduceEqDiff, Nat.reduceAdd, Nat.reduceMul, Nat.reduceDiv, AOp.sb, AOp.mut, ↓Bool.false_eq_true, beq_self_eq_true, ite_self, Nat.reduceLeDiff, Int.reduceEq, Int.reduceSub, Int.reduceAdd, Int.reduceNeg, Int.reduceLT, Int.reduceLE, Nat.reduceLT]
    · simp (disch := (first | omega | assumption)) only [S1, ↓reduceIte, Nat.reduceEqDiff, Nat.reduceAdd, Nat.reduceMul, Nat.reduceDiv, AOp.sb, AOp.mut, ↓Bool.false_eq_true, beq_self_eq_true, ite_self, Nat.reduceLeDiff, Int.reduceEq, Int.reduceSub, Int.reduceAdd, Int.reduceNeg, Int.reduceLT, Int.reduceLE, Nat.reduceLT]
    · first | rfl | (simp (disch := (first | omega | assumption)) only [S1, ↓reduceIte, Nat.reduceEqDiff, Nat.reduceAdd, Nat.reduceMul, Nat.reduceDiv, AOp.sb, AOp.mut, ↓Bool.false_eq_true, beq_self_eq_true, ite_self, Nat.reduceLeDiff, Int.reduceEq, Int.reduceSub, Int.reduceAdd, Int.reduceNeg, Int.reduceLT, Int.reduceLE, Nat.reduceLT])
    simp (disch := (first | omega | assumption)) only [S1, ↓reduceIte, Nat.reduceEqDiff, Nat.reduceAdd, Nat.reduceMul, Nat.reduceDiv, AOp.sb, AOp.mut, ↓Bool.false_eq_true, beq_self_eq_true, ite_self, Nat.reduceLeDiff, Int.reduceEq, Int.reduceSub, Int.reduceAdd, Int.reduceNeg, Int.reduceLT, Int.reduceLE, Nat.reduceLT, W_len, Nat.div_one, W_nf]
    refine hK _ ?_
    clear hK K
    repeat first
      | (refine hK _ ?_; clear hK K)
      | ((first | refine vm_reg (fun K hK => ?_) | refine vm_dreg (fun K hK => ?_)); simp (disch := (first | omega | assumption)) only [S1, ↓reduceIte, Nat.reduceEqDiff, Nat.reduceAdd, Nat.reduceMul, Nat.reduceDiv, AOp.sb, AOp.mut, ↓Bool.false_eq_true, beq_self_eq_true, ite_self, Nat.reduceLeDiff, Int.reduceEq, Int.reduceSub, Int.reduceAdd, Int.reduceNeg, Int.reduceLT, Int.reduceLE, Nat.reduceLT, W_len, Nat.div_one]; refine hK _ ?_; clear hK K)
      | simp only [Sv, ↓reduceIte, Nat.reduceEqDiff]
    refine vm_loop Nat (fun i => ⟨[(0, .l 1 (W a)), (1, .l 1 (W b)), (6, .ow 1 0 a.length), (7, .i .u64 (((nv B (a.take i) + nv B (b.take i)) / B ^ i : Nat) : Int)), (19, .i .i64 (a.length : Int)), (20, .i .i64 (i : Int))],
      [(0, some ⟨29, 1, W (fl B i (nv B (a.take i) + nv B (b.take i)) ++ a.drop i), true, false⟩)], 1⟩)
      (fun i => i ≤ a.length) (fun i => a.length - i) 0 [(0, 8)] (Nat.zero_le _) (by
      simp (disch := (first | omega | assumption)) only [Sl, Sa, Sw, ↓reduceIte, Nat.reduceEqDiff, Nat.reduceLT, List.all_nil, List.all_cons, Nat.reduceBneDiff, Nat.reduceAdd, bne_iff_ne, ne_eq, reduceCtorEq, not_false_eq_true, not_true_eq_false, Bool.and_true, Bool.true_and, and_true, true_and, and_self]
      exact ⟨⟨by simp [nv], rfl⟩, W_eq (by simp [fl])⟩) ?_
    intro i hi Q' hQ he hr
    have em : max a.length b.length = a.length := by omega
    have en : nv B a + nv B b = nv B a + nv B b := by omega
    have lf : (fl B i (nv B (a.take i) + nv B (b.take i))).length = i := fl_len _ _
    generalize hc : (nv B (a.take i) + nv B (b.take i)) / B ^ i = c
    have hcB : c ≤ 1 := by
      have h1 := nv_take_lt (b := B) (by decide) ha i
      have h2 := nv_take_lt (b := B) (by decide) hb i
      rw [← hc]
      exact Nat.le_of_lt_succ ((Nat.div_lt_iff_lt_mul (Nat.pow_pos (by decide))).2 (by omega))
    by_cases h : (i : Int) < a.length
    · by_cases h1 : (b.length : Int) ≤ i
      · by_cases h2 : (c : Int) = 0
        · repeat first
            | (refine hK _ ?_; clear hK K)
            | ((first | refine vm_reg (fun K hK => ?_) | refine vm_dreg (fun K hK => ?_)); simp (disch := (first | omega | assumption)) only [S1, ↓reduceIte, Nat.reduceEqDiff, Nat.reduceAdd, Nat.reduceMul, Nat.reduceDiv, AOp.sb, AOp.mut, ↓Bool.false_eq_true, beq_self_eq_true, ite_self, Nat.reduceLeDiff, Int.reduceEq, Int.reduceSub, Int.reduceAdd, Int.reduceNeg, Int.reduceLT, Int.reduceLE, Nat.reduceLT, h, h1, h2, W_len, Nat.div_one]; refine hK _ ?_; clear hK K)
            | simp only [Sv, ↓reduceIte, Nat.reduceEqDiff]
          refine he _ _ ?_
          repeat first
            | (refine hK _ ?_; clear hK K)
            | ((first | refine vm_reg (fun K hK => ?_) | refine vm_dreg (fun K hK => ?_)); simp (disch := (first | omega | assumption)) only [S1, ↓reduceIte, Nat.reduceEqDiff, Nat.reduceAdd, Nat.reduceMul, Nat.reduceDiv, AOp.sb, AOp.mut, ↓Bool.false_eq_true, beq_self_eq_true, ite_self, Nat.reduceLeDiff, Int.reduceEq, Int.reduceSub, Int.reduceAdd, Int.reduceNeg, Int.reduceLT, Int.reduceLE, Nat.reduceLT]; refine hK _ ?_; clear hK K)
            | simp only [Sv, ↓reduceIte, Nat.reduceEqDiff]
          obtain ⟨e1, e2⟩ := addEnd (a := a) (b := b) (i := i) ha (by omega) hi (by omega)
          simp (disch := (first | omega | assumption)) only [retOk, retN, ret1, retF, ret1F, V.okArg, and_true, true_and, S1, ↓reduceIte, Nat.reduceEqDiff, Nat.reduceAdd, Nat.reduceMul, Nat.reduceDiv, AOp.sb, AOp.mut, ↓Bool.false_eq_true, beq_self_eq_true, ite_self, Nat.reduceLeDiff, Int.reduceEq, Int.reduceSub, Int.reduceAdd, Int.reduceNeg, Int.reduceLT, Int.reduceLE, Nat.reduceLT, l_eq, W_nf, i_eq]
          rw [em, en, e1, e2]
          exact ⟨rfl, rfl⟩
        · repeat first
            | (refine hK _ ?_; clear hK K)
            | ((first | refine vm_reg (fun K hK => ?_) | refine vm_dreg (fun K hK => ?_)); simp (disch := (first | omega | assumption)) only [S1, ↓reduceIte, Nat.reduceEqDiff, Nat.reduceAdd, Nat.reduceMul, Nat.reduceDiv, AOp.sb, AOp.mut, ↓Bool.false_eq_true, beq_self_eq_true, ite_self, Nat.reduceLeDiff, Int.reduceEq, Int.reduceSub, Int.reduceAdd, Int.reduceNeg, Int.reduceLT, Int.reduceLE, Nat.reduceLT, h, h1, h2, W_len, Nat.div_one]; refine hK _ ?_; clear hK K)
            | simp only [Sv, ↓reduceIte, Nat.reduceEqDiff]
          try simp only [Sv, ↓reduceIte, Nat.reduceEqDiff]
          refine vm_dreg (fun K hK => ?_)
          simp (disch := (first | omega | assumption)) only [S1, ↓reduceIte, Nat.reduceEqDiff, Nat.reduceAdd, Nat.reduceMul, Nat.reduceDiv, AOp.sb, AOp.mut, ↓Bool.false_eq_true, beq_self_eq_true, ite_self, Nat.reduceLeDiff, Int.reduceEq, Int.reduceSub, Int.reduceAdd, Int.reduceNeg, Int.reduceLT, Int.reduceLE, Nat.reduceLT, W_len, W_get, tn_nat, Nat.mul_one]
          refine clp_mk _ _ ?_ ?_ ?_ (at_spec b i) ?_
          · simp (disch := (first | omega | assumption)) only [S1, ↓reduceIte, Nat.reduceEqDiff, Nat.reduceAdd, Nat.reduceMul, Nat.reduceDiv, AOp.sb, AOp.mut, ↓Bool.false_eq_true, beq_self_eq_true, ite_self, Nat.reduceLeDiff, Int.reduceEq, Int.reduceSub, Int.reduceAdd, Int.reduceNeg, Int.reduceLT, Int.reduceLE, Nat.reduceLT]
          · simp (disch := (first | omega | assumption)) only [S1, ↓reduceIte, Nat.reduceEqDiff, Nat.reduceAdd, Nat.reduceMul, Nat.reduceDiv, AOp.sb, AOp.mut, ↓Bool.false_eq_true, beq_self_eq_true, ite_self, Nat.reduceLeDiff, Int.reduceEq, Int.reduceSub, Int.reduceAdd, Int.reduceNeg, Int.reduceLT, Int.reduceLE, Nat.reduceLT]
          · first | rfl | (simp (disch := (first | omega | assumption)) only [S1, ↓reduceIte, Nat.reduceEqDiff, Nat.reduceAdd, Nat.reduceMul, Nat.reduceDiv, AOp.sb, AOp.mut, ↓Bool.false_eq_true, beq_self_eq_true, ite_self, Nat.reduceLeDiff, Int.reduceEq, Int.reduceSub, Int.reduceAdd, Int.reduceNeg, Int.reduceLT, Int.reduceLE, Nat.reduceLT])
          simp (disch := (first | omega | assumption)) only [S1, ↓reduceIte, Nat.reduceEqDiff, Nat.reduceAdd, Nat.reduceMul, Nat.reduceDiv, AOp.sb, AOp.mut, ↓Bool.false_eq_true, beq_self_eq_true, ite_self, Nat.reduceLeDiff, Int.reduceEq, Int.reduceSub, Int.reduceAdd, Int.reduceNeg, Int.reduceLT, Int.reduceLE, Nat.reduceLT]
          refine clp_mk _ _ ?_ ?_ ?_ (addW_spec (a.getD i 0) (b.getD i 0) c (Wd_get ha i) (Wd_get hb i) (by omega)) ?_
          · simp (disch := (first | omega | assumption)) only [S1, ↓reduceIte, Nat.reduceEqDiff, Nat.reduceAdd, Nat.reduceMul, Nat.reduceDiv, AOp.sb, AOp.mut, ↓Bool.false_eq_true, beq_self_eq_true, ite_self, Nat.reduceLeDiff, Int.reduceEq, Int.reduceSub, Int.reduceAdd, Int.reduceNeg, Int.reduceLT, Int.reduceLE, Nat.reduceLT]
          · simp (disch := (first | omega | assumption)) only [S1, ↓reduceIte, Nat.reduceEqDiff, Nat.reduceAdd, Nat.reduceMul, Nat.reduceDiv, AOp.sb, AOp.mut, ↓Bool.false_eq_true, beq_self_eq_true, ite_self, Nat.reduceLeDiff, Int.reduceEq, Int.reduceSub, Int.reduceAdd, Int.reduceNeg, Int.reduceLT, Int.reduceLE, Nat.reduceLT]
          · first | rfl | (simp (disch := (first | omega | assumption)) only [S1, ↓reduceIte, Nat.reduceEqDiff, Nat.reduceAdd, Nat.reduceMul, Nat.reduceDiv, AOp.sb, AOp.mut, ↓Bool.false_eq_true, beq_self_eq_true, ite_self, Nat.reduceLeDiff, Int.reduceEq, Int.reduceSub, Int.reduceAdd, Int.reduceNeg, Int.reduceLT, Int.reduceLE, Nat.reduceLT])
          have ll : (fl B i (nv B (a.take i) + nv B (b.take i)) ++ a.drop i).length = a.length := by rw [List.length_append, lf, List.length_drop]; omega
          simp (disch := (first | omega | assumption)) only [S1, ↓reduceIte, Nat.reduceEqDiff, Nat.reduceAdd, Nat.reduceMul, Nat.reduceDiv, AOp.sb, AOp.mut, ↓Bool.false_eq_true, beq_self_eq_true, ite_self, Nat.reduceLeDiff, Int.reduceEq, Int.reduceSub, Int.reduceAdd, Int.reduceNeg, Int.reduceLT, Int.reduceLE, Nat.reduceLT, W_len, tn_nat, Nat.mul_one, W_set, ll]
          refine hK _ ?_
          clear hK K
          repeat first
            | (refine hK _ ?_; clear hK K)
            | ((first | refine vm_reg (fun K hK => ?_) | refine vm_dreg (fun K hK => ?_)); simp (disch := (first | omega | assumption)) only [S1, ↓reduceIte, Nat.reduceEqDiff, Nat.reduceAdd, Nat.reduceMul, Nat.reduceDiv, AOp.sb, AOp.mut, ↓Bool.false_eq_true, beq_self_eq_true, ite_self, Nat.reduceLeDiff, Int.reduceEq, Int.reduceSub, Int.reduceAdd, Int.reduceNeg, Int.reduceLT, Int.reduceLE, Nat.reduceLT, wi]; refine hK _ ?_; clear hK K)
            | simp only [Sv, ↓reduceIte, Nat.reduceEqDiff]
          refine hQ _ (i + 1) [] (by omega) (by omega) ?_
          obtain ⟨s1, s2, s3⟩ := add_step (b := B) (P := B ^ i) (A := nv B (a.take i)) (Y := nv B (b.take i)) (x := a.getD i 0) (y := b.getD i 0) (Nat.pow_pos (by decide)) (by decide)
          rw [hc] at s1 s3
          simp (disch := (first | omega | assumption)) only [Sl, Sa, Sw, ↓reduceIte, Nat.reduceEqDiff, Nat.reduceLT, List.all_nil, List.all_cons, Nat.reduceBneDiff, Nat.reduceAdd, bne_iff_ne, ne_eq, reduceCtorEq, not_false_eq_true, not_true_eq_false, Bool.and_true, Bool.true_and, and_true, true_and, and_self, i_eq]
          refine ⟨⟨?_, by omega⟩, W_eq ?_⟩
          · rw [nv_take_succ', nv_take_succ', Nat.pow_succ, s3]; rfl
          · rw [nv_take_succ', nv_take_succ', fl_succ, fl_congr (by decide) s2, s1, List.drop_eq_getElem_cons (by omega : i < a.length), List.set_append_right _ _ (by omega), lf, Nat.sub_self, List.set_cons_zero, List.append_assoc]
            rfl
      · repeat first
          | (refine hK _ ?_; clear hK K)
          | ((first | refine vm_reg (fun K hK => ?_) | refine vm_dreg (fun K hK => ?_)); simp (disch := (first | omega | assumption)) only [S1, ↓reduceIte, Nat.reduceEqDiff, Nat.reduceAdd, Nat.reduceMul, Nat.reduceDiv, AOp.sb, AOp.mut, ↓Bool.false_eq_true, beq_self_eq_true, ite_self, Nat.reduceLeDiff, Int.reduceEq, Int.reduceSub, Int.reduceAdd, Int.reduceNeg, Int.reduceLT, Int.reduceLE, Nat.reduceLT, h, h1, W_len, Nat.div_one]; refine hK _ ?_; clear hK K)
          | simp only [Sv, ↓reduceIte, Nat.reduceEqDiff]
        try simp only [Sv, ↓reduceIte, Nat.reduceEqDiff]
        refine vm_dreg (fun K hK => ?_)
        simp (disch := (first | omega | assumption)) only [S1, ↓reduceIte, Nat.reduceEqDiff, Nat.reduceAdd, Nat.reduceMul, Nat.reduceDiv, AOp.sb, AOp.mut, ↓Bool.false_eq_true, beq_self_eq_true, ite_self, Nat.reduceLeDiff, Int.reduceEq, Int.reduceSub, Int.reduceAdd, Int.reduceNeg, Int.reduceLT, Int.reduceLE, Nat.reduceLT, W_len, W_get, tn_nat, Nat.mul_one]
        refine clp_mk _ _ ?_ ?_ ?_ (at_spec b i) ?_
        · simp (disch := (first | omega | assumption)) only [S1, ↓reduceIte, Nat.reduceEqDiff, Nat.reduceAdd, Nat.reduceMul, Nat.reduceDiv, AOp.sb, AOp.mut, ↓Bool.false_eq_true, beq_self_eq_true, ite_self, Nat.reduceLeDiff, Int.reduceEq, Int.reduceSub, Int.reduceAdd, Int.reduceNeg, Int.reduceLT, Int.reduceLE, Nat.reduceLT]
        · simp (disch := (first | omega | assumption)) only [S1, ↓reduceIte, Nat.reduceEqDiff, Nat.reduceAdd, Nat.reduceMul, Nat.reduceDiv, AOp.sb, AOp.mut, ↓Bool.false_eq_true, beq_self_eq_true, ite_self, Nat.reduceLeDiff, Int.reduceEq, Int.reduceSub, Int.reduceAdd, Int.reduceNeg, Int.reduceLT, Int.reduceLE, Nat.reduceLT]
        · first | rfl | (simp (disch := (first | omega | assumption)) only [S1, ↓reduceIte, Nat.reduceEqDiff, Nat.reduceAdd, Nat.reduceMul, Nat.reduceDiv, AOp.sb, AOp.mut, ↓Bool.false_eq_true, beq_self_eq_true, ite_self, Nat.reduceLeDiff, Int.reduceEq, Int.reduceSub, Int.reduceAdd, Int.reduceNeg, Int.reduceLT, Int.reduceLE, Nat.reduceLT])
        simp (disch := (first | omega | assumption)) only [S1, ↓reduceIte, Nat.reduceEqDiff, Nat.reduceAdd, Nat.reduceMul, Nat.reduceDiv, AOp.sb, AOp.mut, ↓Bool.false_eq_true, beq_self_eq_true, ite_self, Nat.reduceLeDiff, Int.reduceEq, Int.reduceSub, Int.reduceAdd, Int.reduceNeg, Int.reduceLT, Int.reduceLE, Nat.reduceLT]
        refine clp_mk _ _ ?_ ?_ ?_ (addW_spec (a.getD i 0) (b.getD i 0) c (Wd_get ha i) (Wd_get hb i) (by omega)) ?_
        · simp (disch := (first | omega | assumption)) only [S1, ↓reduceIte, Nat.reduceEqDiff, Nat.reduceAdd, Nat.reduceMul, Nat.reduceDiv, AOp.sb, AOp.mut, ↓Bool.false_eq_true, beq_self_eq_true, ite_self, Nat.reduceLeDiff, Int.reduceEq, Int.reduceSub, Int.reduceAdd, Int.reduceNeg, Int.reduceLT, Int.reduceLE, Nat.reduceLT]
        · simp (disch := (first | omega | assumption)) only [S1, ↓reduceIte, Nat.reduceEqDiff, Nat.reduceAdd, Nat.reduceMul, Nat.reduceDiv, AOp.sb, AOp.mut, ↓Bool.false_eq_true, beq_self_eq_true, ite_self, Nat.reduceLeDiff, Int.reduceEq, Int.reduceSub, Int.reduceAdd, Int.reduceNeg, Int.reduceLT, Int.reduceLE, Nat.reduceLT]
        · first | rfl | (simp (disch := (first | omega | assumption)) only [S1, ↓reduceIte, Nat.reduceEqDiff, Nat.reduceAdd, Nat.reduceMul, Nat.reduceDiv, AOp.sb, AOp.mut, ↓Bool.false_eq_true, beq_self_eq_true, ite_self, Nat.reduceLeDiff, Int.reduceEq, Int.reduceSub, Int.reduceAdd, Int.reduceNeg, Int.reduceLT, Int.reduceLE, Nat.reduceLT])
        have ll : (fl B i (nv B (a.take i) + nv B (b.take i)) ++ a.drop i).length = a.length := by rw [List.length_append, lf, List.length_drop]; omega
        simp (disch := (first | omega | assumption)) only [S1, ↓reduceIte, Nat.reduceEqDiff, Nat.reduceAdd, Nat.reduceMul, Nat.reduceDiv, AOp.sb, AOp.mut, ↓Bool.false_eq_true, beq_self_eq_true, ite_self, Nat.reduceLeDiff, Int.reduceEq, Int.reduceSub, Int.reduceAdd, Int.reduceNeg, Int.reduceLT, Int.reduceLE, Nat.reduceLT, W_len, tn_nat, Nat.mul_one, W_set, ll]
        refine hK _ ?_
        clear hK K
        repeat first
          | (refine hK _ ?_; clear hK K)
          | ((first | refine vm_reg (fun K hK => ?_) | refine vm_dreg (fun K hK => ?_)); simp (disch := (first | omega | assumption)) only [S1, ↓reduceIte, Nat.reduceEqDiff, Nat.reduceAdd, Nat.reduceMul, Nat.reduceDiv, AOp.sb, AOp.mut, ↓Bool.false_eq_true, beq_self_eq_true, ite_self, Nat.reduceLeDiff, Int.reduceEq, Int.reduceSub, Int.reduceAdd, Int.reduceNeg, Int.reduceLT, Int.reduceLE, Nat.reduceLT, wi]; refine hK _ ?_; clear hK K)
          | simp only [Sv, ↓reduceIte, Nat.reduceEqDiff]
        refine hQ _ (i + 1) [] (by omega) (by omega) ?_
        obtain ⟨s1, s2, s3⟩ := add_step (b := B) (P := B ^ i) (A := nv B (a.take i)) (Y := nv B (b.take i)) (x := a.getD i 0) (y := b.getD i 0) (Nat.pow_pos (by decide)) (by decide)
        rw [hc] at s1 s3
        simp (disch := (first | omega | assumption)) only [Sl, Sa, Sw, ↓reduceIte, Nat.reduceEqDiff, Nat.reduceLT, List.all_nil, List.all_cons, Nat.reduceBneDiff, Nat.reduceAdd, bne_iff_ne, ne_eq, reduceCtorEq, not_false_eq_true, not_true_eq_false, Bool.and_true, Bool.true_and, and_true, true_and, and_self, i_eq]
        refine ⟨⟨?_, by omega⟩, W_eq ?_⟩
        · rw [nv_take_succ', nv_take_succ', Nat.pow_succ, s3]; rfl
        · rw [nv_take_succ', nv_take_succ', fl_succ, fl_congr (by decide) s2, s1, List.drop_eq_getElem_cons (by omega : i < a.length), List.set_append_right _ _ (by omega), lf, Nat.sub_self, List.set_cons_zero, List.append_assoc]
          rfl
    · obtain rfl : i = a.length := by omega
      repeat first
        | (refine hK _ ?_; clear hK K)
        | ((first | refine vm_reg (fun K hK => ?_) | refine vm_dreg (fun K hK => ?_)); simp (disch := (first | omega | assumption)) only [S1, ↓reduceIte, Nat.reduceEqDiff, Nat.reduceAdd, Nat.reduceMul, Nat.reduceDiv, AOp.sb, AOp.mut, ↓Bool.false_eq_true, beq_self_eq_true, ite_self, Nat.reduceLeDiff, Int.reduceEq, Int.reduceSub, Int.reduceAdd, Int.reduceNeg, Int.reduceLT, Int.reduceLE, Nat.reduceLT, h]; refine hK _ ?_; clear hK K)
        | simp only [Sv, ↓reduceIte, Nat.reduceEqDiff]
      refine he _ _ ?_
      repeat first
        | (refine hK _ ?_; clear hK K)
        | ((first | refine vm_reg (fun K hK => ?_) | refine vm_dreg (fun K hK => ?_)); simp (disch := (first | omega | assumption)) only [S1, ↓reduceIte, Nat.reduceEqDiff, Nat.reduceAdd, Nat.reduceMul, Nat.reduceDiv, AOp.sb, AOp.mut, ↓Bool.false_eq_true, beq_self_eq_true, ite_self, Nat.reduceLeDiff, Int.reduceEq, Int.reduceSub, Int.reduceAdd, Int.reduceNeg, Int.reduceLT, Int.reduceLE, Nat.reduceLT]; refine hK _ ?_; clear hK K)
        | simp only [Sv, ↓reduceIte, Nat.reduceEqDiff]
      simp (disch := (first | omega | assumption)) only [retOk, retN, ret1, retF, ret1F, V.okArg, and_true, true_and, S1, ↓reduceIte, Nat.reduceEqDiff, Nat.reduceAdd, Nat.reduceMul, Nat.reduceDiv, AOp.sb, AOp.mut, ↓Bool.false_eq_true, beq_self_eq_true, ite_self, Nat.reduceLeDiff, Int.reduceEq, Int.reduceSub, Int.reduceAdd, Int.reduceNeg, Int.reduceLT, Int.reduceLE, Nat.reduceLT, l_eq, W_nf, i_eq]
      rw [em, en, ← hc, List.take_of_length_le (Nat.le_refl _), List.take_of_length_le (by omega), List.drop_of_length_le (Nat.le_refl _), List.append_nil]
      exact ⟨rfl, rfl⟩
theorem limbAdd_spec (a b : List Nat) (ha : Wd a) (hb : Wd b) (la : a.length ≤ 1099511627776) (lb : b.length ≤ 1099511627776) :
    AFun Try.prog J0 67 [.l 1 (W a), .l 1 (W b)] (.t [.l 1 (W (fl B (max a.length b.length) (nv B a + nv B b))), .i .u64 (((nv B a + nv B b) / B ^ (max a.length b.length) : Nat) : Int)]) :=
  (limbAdd_fr a b ha hb la lb).plain
end Go.Proofs.Ytngohbpgdeiodaa
