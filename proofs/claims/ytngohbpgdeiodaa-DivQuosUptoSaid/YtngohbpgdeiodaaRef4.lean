/-
  surdref02: the answers.
-/
import Derived.Test.YtngohbpgdeiodaaRef3
namespace Go.Proofs.Ytngohbpgdeiodaa
open Go Go.RowKit Ab
set_option linter.unusedSimpArgs false
set_option linter.unusedVariables false
set_option maxHeartbeats 10000000

theorem D2 : 2 ≤ 256 := by decide
theorem dg256_len {a : List Nat} (ha : Wd a) : (dg 256 (nv B a)).length ≤ 8 * a.length := dg_len D2 (by rw [← B_256]; exact nv_lt ha)
theorem sg_lt {x y : Nat} : (sg x y < 0) = (x < y) := by
  unfold sg
  split
  · rename_i h; simp [h]
  · rename_i h
    split <;> simp [h]

-- surd/surdref02.Same
def a14 : AC := .seq (.reg [⟨some 4, none, .mv (.k (.b false))⟩])
  (.seq (.seq (.reg [⟨some 6, none, .mv (.t 0)⟩, 
        ⟨some 7, none, .len (.t 6)⟩, 
        ⟨some 8, none, .mv (.t 1)⟩, 
        ⟨some 9, none, .len (.t 8)⟩, 
        ⟨some 10, none, .bin .neq (.t 7) (.t 9)⟩])
    (.cond (.t 10)
    (.seq (.reg [⟨some 4, none, .mv (.k (.b false))⟩])
      (.ret))
    (.skip)))
  (.seq (.seq (.reg [⟨some 5, none, .mv (.k (.i .i64 0))⟩])
    (.blk 0
    (.loop
      (.seq (.seq (.reg [⟨some 11, none, .mv (.t 5)⟩, 
              ⟨some 12, none, .mv (.t 0)⟩, 
              ⟨some 13, none, .len (.t 12)⟩, 
              ⟨some 14, none, .bin .lss (.t 11) (.t 13)⟩])
          (.cond (.t 14)
          (.skip)
          (.exit 0)))
        (.seq (.blk 1
          (.seq (.dreg [⟨some 17, none, .mv (.t 0)⟩, 
                ⟨some 18, none, .mv (.t 5)⟩, 
                ⟨some 19, none, .idx 1 (.t 17) (.t 18)⟩, 
                ⟨some 20, none, .ld false 1 (.t 19)⟩, 
                ⟨some 21, none, .mv (.t 1)⟩, 
                ⟨some 22, none, .mv (.t 5)⟩, 
                ⟨some 23, none, .idx 1 (.t 21) (.t 22)⟩, 
                ⟨some 24, none, .ld false 1 (.t 23)⟩, 
                ⟨some 25, none, .bin .neq (.t 20) (.t 24)⟩])
            (.cond (.t 25)
            (.seq (.reg [⟨some 4, none, .mv (.k (.b false))⟩])
              (.ret))
            (.skip))))
        (.reg [⟨some 15, none, .mv (.t 5)⟩, 
          ⟨some 16, none, .bin .add (.t 15) (.k (.i .i64 1))⟩, 
          ⟨some 5, none, .mv (.t 16)⟩]))))))
  (.seq (.reg [⟨some 4, none, .mv (.k (.b true))⟩])
  (.ret))))
theorem same_spec (a b : List Nat) (la : a.length ≤ 9223372036854775807) (lb : b.length ≤ 9223372036854775807) :
    AFun Try.prog J0 14 [.l 1 (W a), .l 1 (W b)] (.b (decide (a = b))) := by
  refine AFun.mk fol J0s Try.func14 rfl (ac := a14) (by kernel_rfl) rfl rfl ?_
  apply vm_start
  unfold a14
  simp only [init_eq, initE]
  by_cases h : (a.length : Int) = (b.length : Int)
  · repeat first
      | (refine hK _ ?_; clear hK K)
      | ((first | refine vm_reg (fun K hK => ?_) | refine vm_dreg (fun K hK => ?_)); simp (disch := (first | omega | assumption)) only [S1, ↓reduceIte, Nat.reduceEqDiff, Nat.reduceAdd, Nat.reduceMul, Nat.reduceDiv, AOp.sb, AOp.mut, ↓Bool.false_eq_true, beq_self_eq_true, ite_self, Nat.reduceLeDiff, Int.reduceEq, Int.reduceSub, Int.reduceAdd, Int.reduceNeg, Int.reduceLT, Int.reduceLE, Nat.reduceLT, W_len, D_len, Nat.div_one, Nat.mul_one, tn_nat, W_nf, D_nf, W_nil, D_nil, h]; refine hK _ ?_; clear hK K)
      | simp only [Sv, ↓reduceIte, Nat.reduceEqDiff]
    refine vm_loop Nat (fun i => ⟨[(0, .l 1 (W a)), (1, .l 1 (W b)), (5, .i .i64 (i : Int))], [], 0⟩) (fun i => i ≤ a.length ∧ ∀ j, j < i → a.getD j 0 = b.getD j 0) (fun i => a.length - i) 0 [] ⟨by omega, by omega⟩ (by
      simp (disch := (first | omega | assumption)) only [Sl, Sa, Sw, ↓reduceIte, Nat.reduceEqDiff, Nat.reduceLT, List.all_nil, List.all_cons, Nat.reduceBneDiff, Nat.reduceAdd, bne_iff_ne, ne_eq, reduceCtorEq, not_false_eq_true, not_true_eq_false, Bool.and_true, Bool.true_and, and_true, true_and, and_self, i_eq]
      rfl) ?_
    intro i ⟨hi, hj⟩ Q' hQ he hr
    by_cases h1 : (i : Int) < a.length
    · repeat first
        | (refine hK _ ?_; clear hK K)
        | ((first | refine vm_reg (fun K hK => ?_) | refine vm_dreg (fun K hK => ?_)); simp (disch := (first | omega | assumption)) only [S1, ↓reduceIte, Nat.reduceEqDiff, Nat.reduceAdd, Nat.reduceMul, Nat.reduceDiv, AOp.sb, AOp.mut, ↓Bool.false_eq_true, beq_self_eq_true, ite_self, Nat.reduceLeDiff, Int.reduceEq, Int.reduceSub, Int.reduceAdd, Int.reduceNeg, Int.reduceLT, Int.reduceLE, Nat.reduceLT, W_len, D_len, Nat.div_one, Nat.mul_one, tn_nat, W_nf, D_nf, W_nil, D_nil, h1]; refine hK _ ?_; clear hK K)
        | simp only [Sv, ↓reduceIte, Nat.reduceEqDiff]
      by_cases h2 : ((a.getD i 0 : Nat) : Int) = ((b.getD i 0 : Nat) : Int)
      · repeat first
          | (refine hK _ ?_; clear hK K)
          | ((first | refine vm_reg (fun K hK => ?_) | refine vm_dreg (fun K hK => ?_)); simp (disch := (first | omega | assumption)) only [S1, ↓reduceIte, Nat.reduceEqDiff, Nat.reduceAdd, Nat.reduceMul, Nat.reduceDiv, AOp.sb, AOp.mut, ↓Bool.false_eq_true, beq_self_eq_true, ite_self, Nat.reduceLeDiff, Int.reduceEq, Int.reduceSub, Int.reduceAdd, Int.reduceNeg, Int.reduceLT, Int.reduceLE, Nat.reduceLT, W_len, D_len, Nat.div_one, Nat.mul_one, tn_nat, W_nf, D_nf, W_nil, D_nil, W_get, h2, wi]; refine hK _ ?_; clear hK K)
          | simp only [Sv, ↓reduceIte, Nat.reduceEqDiff]
        refine hQ _ (i + 1) [] ⟨by omega, fun j h3 => ?_⟩ (by omega) ?_
        · rcases Nat.lt_or_ge j i with h4 | h4
          · exact hj j h4
          · obtain rfl : j = i := by omega
            omega
        · simp (disch := (first | omega | assumption)) only [Sl, Sa, Sw, ↓reduceIte, Nat.reduceEqDiff, Nat.reduceLT, List.all_nil, List.all_cons, Nat.reduceBneDiff, Nat.reduceAdd, bne_iff_ne, ne_eq, reduceCtorEq, not_false_eq_true, not_true_eq_false, Bool.and_true, Bool.true_and, and_true, true_and, and_self, i_eq]
          omega
      · repeat first
          | (refine hK _ ?_; clear hK K)
          | ((first | refine vm_reg (fun K hK => ?_) | refine vm_dreg (fun K hK => ?_)); simp (disch := (first | omega | assumption)) only [S1, ↓reduceIte, Nat.reduceEqDiff, Nat.reduceAdd, Nat.reduceMul, Nat.reduceDiv, AOp.sb, AOp.mut, ↓Bool.false_eq_true, beq_self_eq_true, ite_self, Nat.reduceLeDiff, Int.reduceEq, Int.reduceSub, Int.reduceAdd, Int.reduceNeg, Int.reduceLT, Int.reduceLE, Nat.reduceLT, W_len, D_len, Nat.div_one, Nat.mul_one, tn_nat, W_nf, D_nf, W_nil, D_nil, W_get, h2]; refine hK _ ?_; clear hK K)
          | simp only [Sv, ↓reduceIte, Nat.reduceEqDiff]
        repeat first
          | (refine hK _ ?_; clear hK K)
          | ((first | refine vm_reg (fun K hK => ?_) | refine vm_dreg (fun K hK => ?_)); simp (disch := (first | omega | assumption)) only [S1, ↓reduceIte, Nat.reduceEqDiff, Nat.reduceAdd, Nat.reduceMul, Nat.reduceDiv, AOp.sb, AOp.mut, ↓Bool.false_eq_true, beq_self_eq_true, ite_self, Nat.reduceLeDiff, Int.reduceEq, Int.reduceSub, Int.reduceAdd, Int.reduceNeg, Int.reduceLT, Int.reduceLE, Nat.reduceLT, W_len, D_len, Nat.div_one, Nat.mul_one, tn_nat, W_nf, D_nf, W_nil, D_nil]; refine hK _ ?_; clear hK K)
          | simp only [Sv, ↓reduceIte, Nat.reduceEqDiff]
        refine hr _ ?_
        have e : ¬ a = b := fun h => h2 (by rw [h])
        simp (disch := (first | omega | assumption)) only [retOk, retN, ret1, retF, ret1F, V.okArg, and_true, true_and, S1, ↓reduceIte, Nat.reduceEqDiff, Nat.reduceAdd, Nat.reduceMul, Nat.reduceDiv, AOp.sb, AOp.mut, ↓Bool.false_eq_true, beq_self_eq_true, ite_self, Nat.reduceLeDiff, Int.reduceEq, Int.reduceSub, Int.reduceAdd, Int.reduceNeg, Int.reduceLT, Int.reduceLE, Nat.reduceLT, W_len, D_len, Nat.div_one, Nat.mul_one, tn_nat, W_nf, D_nf, W_nil, D_nil, e]
    · repeat first
        | (refine hK _ ?_; clear hK K)
        | ((first | refine vm_reg (fun K hK => ?_) | refine vm_dreg (fun K hK => ?_)); simp (disch := (first | omega | assumption)) only [S1, ↓reduceIte, Nat.reduceEqDiff, Nat.reduceAdd, Nat.reduceMul, Nat.reduceDiv, AOp.sb, AOp.mut, ↓Bool.false_eq_true, beq_self_eq_true, ite_self, Nat.reduceLeDiff, Int.reduceEq, Int.reduceSub, Int.reduceAdd, Int.reduceNeg, Int.reduceLT, Int.reduceLE, Nat.reduceLT, W_len, D_len, Nat.div_one, Nat.mul_one, tn_nat, W_nf, D_nf, W_nil, D_nil, h1]; refine hK _ ?_; clear hK K)
        | simp only [Sv, ↓reduceIte, Nat.reduceEqDiff]
      refine he _ _ ?_
      repeat first
        | (refine hK _ ?_; clear hK K)
        | ((first | refine vm_reg (fun K hK => ?_) | refine vm_dreg (fun K hK => ?_)); simp (disch := (first | omega | assumption)) only [S1, ↓reduceIte, Nat.reduceEqDiff, Nat.reduceAdd, Nat.reduceMul, Nat.reduceDiv, AOp.sb, AOp.mut, ↓Bool.false_eq_true, beq_self_eq_true, ite_self, Nat.reduceLeDiff, Int.reduceEq, Int.reduceSub, Int.reduceAdd, Int.reduceNeg, Int.reduceLT, Int.reduceLE, Nat.reduceLT, W_len, D_len, Nat.div_one, Nat.mul_one, tn_nat, W_nf, D_nf, W_nil, D_nil]; refine hK _ ?_; clear hK K)
        | simp only [Sv, ↓reduceIte, Nat.reduceEqDiff]
      have e : a = b := by
        refine List.ext_getElem (by omega) fun n h3 h4 => ?_
        have := hj n (by omega)
        simpa [List.getD_eq_getElem?_getD, h3, h4] using this
      simp (disch := (first | omega | assumption)) only [retOk, retN, ret1, retF, ret1F, V.okArg, and_true, true_and, S1, ↓reduceIte, Nat.reduceEqDiff, Nat.reduceAdd, Nat.reduceMul, Nat.reduceDiv, AOp.sb, AOp.mut, ↓Bool.false_eq_true, beq_self_eq_true, ite_self, Nat.reduceLeDiff, Int.reduceEq, Int.reduceSub, Int.reduceAdd, Int.reduceNeg, Int.reduceLT, Int.reduceLE, Nat.reduceLT, W_len, D_len, Nat.div_one, Nat.mul_one, tn_nat, W_nf, D_nf, W_nil, D_nil, e]
  · repeat first
      | (refine hK _ ?_; clear hK K)
      | ((first | refine vm_reg (fun K hK => ?_) | refine vm_dreg (fun K hK => ?_)); simp (disch := (first | omega | assumption)) only [S1, ↓reduceIte, Nat.reduceEqDiff, Nat.reduceAdd, Nat.reduceMul, Nat.reduceDiv, AOp.sb, AOp.mut, ↓Bool.false_eq_true, beq_self_eq_true, ite_self, Nat.reduceLeDiff, Int.reduceEq, Int.reduceSub, Int.reduceAdd, Int.reduceNeg, Int.reduceLT, Int.reduceLE, Nat.reduceLT, W_len, D_len, Nat.div_one, Nat.mul_one, tn_nat, W_nf, D_nf, W_nil, D_nil, h]; refine hK _ ?_; clear hK K)
      | simp only [Sv, ↓reduceIte, Nat.reduceEqDiff]
    have e : ¬ a = b := fun h' => h (by rw [h'])
    simp (disch := (first | omega | assumption)) only [retOk, retN, ret1, retF, ret1F, V.okArg, and_true, true_and, S1, ↓reduceIte, Nat.reduceEqDiff, Nat.reduceAdd, Nat.reduceMul, Nat.reduceDiv, AOp.sb, AOp.mut, ↓Bool.false_eq_true, beq_self_eq_true, ite_self, Nat.reduceLeDiff, Int.reduceEq, Int.reduceSub, Int.reduceAdd, Int.reduceNeg, Int.reduceLT, Int.reduceLE, Nat.reduceLT, W_len, D_len, Nat.div_one, Nat.mul_one, tn_nat, W_nf, D_nf, W_nil, D_nil, e]

-- surd/surdref02.Norm
def a33 : AC := .seq (.reg [⟨some 2, none, .mv (.k .nl)⟩])
  (.seq (.reg [⟨some 3, none, .mv (.t 0)⟩, 
      ⟨some 4, none, .call 52 [(1, (.t 3))]⟩, 
      ⟨some 5, none, .call 56 [(1, (.t 4))]⟩, 
      ⟨some 2, none, .mv (.t 5)⟩])
  (.ret))
theorem rnorm_spec (a : List Nat) (ha : Wd a) (la : a.length ≤ 100000000000) : AFun Try.prog J0 33 [.l 1 (W a)] (.o 29 1 (W (dg B (nv B a)))) := by
  refine AFun.mk fol J0s Try.func33 rfl (ac := a33) (by kernel_rfl) rfl rfl ?_
  apply vm_start
  unfold a33
  simp only [init_eq, initE]
  have hl := dg256_len ha
  have e := nv_dg D2 (nv B a)
  repeat first
    | (refine hK _ ?_; clear hK K)
    | ((first | refine vm_reg (fun K hK => ?_) | refine vm_dreg (fun K hK => ?_)); simp (disch := (first | omega | assumption)) only [S1, ↓reduceIte, Nat.reduceEqDiff, Nat.reduceAdd, Nat.reduceMul, Nat.reduceDiv, AOp.sb, AOp.mut, ↓Bool.false_eq_true, beq_self_eq_true, ite_self, Nat.reduceLeDiff, Int.reduceEq, Int.reduceSub, Int.reduceAdd, Int.reduceNeg, Int.reduceLT, Int.reduceLE, Nat.reduceLT, W_len, D_len, Nat.div_one, Nat.mul_one, tn_nat, W_nf, D_nf, W_nil, D_nil]; refine hK _ ?_; clear hK K)
    | simp only [Sv, ↓reduceIte, Nat.reduceEqDiff]
  try simp only [Sv, ↓reduceIte, Nat.reduceEqDiff]
  refine vm_reg (fun K hK => ?_)
  simp (disch := (first | omega | assumption)) only [S1, ↓reduceIte, Nat.reduceEqDiff, Nat.reduceAdd, Nat.reduceMul, Nat.reduceDiv, AOp.sb, AOp.mut, ↓Bool.false_eq_true, beq_self_eq_true, ite_self, Nat.reduceLeDiff, Int.reduceEq, Int.reduceSub, Int.reduceAdd, Int.reduceNeg, Int.reduceLT, Int.reduceLE, Nat.reduceLT, W_len, D_len, Nat.div_one, Nat.mul_one, tn_nat, W_nf, D_nf, W_nil, D_nil]
  refine clp_mk _ _ ?_ ?_ ?_ (digits_spec a ha la) ?_
  · simp (disch := (first | omega | assumption)) only [S1, ↓reduceIte, Nat.reduceEqDiff, Nat.reduceAdd, Nat.reduceMul, Nat.reduceDiv, AOp.sb, AOp.mut, ↓Bool.false_eq_true, beq_self_eq_true, ite_self, Nat.reduceLeDiff, Int.reduceEq, Int.reduceSub, Int.reduceAdd, Int.reduceNeg, Int.reduceLT, Int.reduceLE, Nat.reduceLT, W_len, D_len, Nat.div_one, Nat.mul_one, tn_nat, W_nf, D_nf, W_nil, D_nil]
  · simp (disch := (first | omega | assumption)) only [S1, ↓reduceIte, Nat.reduceEqDiff, Nat.reduceAdd, Nat.reduceMul, Nat.reduceDiv, AOp.sb, AOp.mut, ↓Bool.false_eq_true, beq_self_eq_true, ite_self, Nat.reduceLeDiff, Int.reduceEq, Int.reduceSub, Int.reduceAdd, Int.reduceNeg, Int.reduceLT, Int.reduceLE, Nat.reduceLT, W_len, D_len, Nat.div_one, Nat.mul_one, tn_nat, W_nf, D_nf, W_nil, D_nil]
  · first | rfl | (simp (disch := (first | omega | assumption)) only [S1, ↓reduceIte, Nat.reduceEqDiff, Nat.reduceAdd, Nat.reduceMul, Nat.reduceDiv, AOp.sb, AOp.mut, ↓Bool.false_eq_true, beq_self_eq_true, ite_self, Nat.reduceLeDiff, Int.reduceEq, Int.reduceSub, Int.reduceAdd, Int.reduceNeg, Int.reduceLT, Int.reduceLE, Nat.reduceLT, W_len, D_len, Nat.div_one, Nat.mul_one, tn_nat, W_nf, D_nf, W_nil, D_nil])
  simp (disch := (first | omega | assumption)) only [S1, ↓reduceIte, Nat.reduceEqDiff, Nat.reduceAdd, Nat.reduceMul, Nat.reduceDiv, AOp.sb, AOp.mut, ↓Bool.false_eq_true, beq_self_eq_true, ite_self, Nat.reduceLeDiff, Int.reduceEq, Int.reduceSub, Int.reduceAdd, Int.reduceNeg, Int.reduceLT, Int.reduceLE, Nat.reduceLT, W_len, D_len, Nat.div_one, Nat.mul_one, tn_nat, W_nf, D_nf, W_nil, D_nil]
  refine clp_mk _ _ ?_ ?_ ?_ (of_spec (dg 256 (nv B a)) (dg_Lt (by decide) _) (by omega)) ?_
  · simp (disch := (first | omega | assumption)) only [S1, ↓reduceIte, Nat.reduceEqDiff, Nat.reduceAdd, Nat.reduceMul, Nat.reduceDiv, AOp.sb, AOp.mut, ↓Bool.false_eq_true, beq_self_eq_true, ite_self, Nat.reduceLeDiff, Int.reduceEq, Int.reduceSub, Int.reduceAdd, Int.reduceNeg, Int.reduceLT, Int.reduceLE, Nat.reduceLT, W_len, D_len, Nat.div_one, Nat.mul_one, tn_nat, W_nf, D_nf, W_nil, D_nil]
  · simp (disch := (first | omega | assumption)) only [S1, ↓reduceIte, Nat.reduceEqDiff, Nat.reduceAdd, Nat.reduceMul, Nat.reduceDiv, AOp.sb, AOp.mut, ↓Bool.false_eq_true, beq_self_eq_true, ite_self, Nat.reduceLeDiff, Int.reduceEq, Int.reduceSub, Int.reduceAdd, Int.reduceNeg, Int.reduceLT, Int.reduceLE, Nat.reduceLT, W_len, D_len, Nat.div_one, Nat.mul_one, tn_nat, W_nf, D_nf, W_nil, D_nil]
  · first | rfl | (simp (disch := (first | omega | assumption)) only [S1, ↓reduceIte, Nat.reduceEqDiff, Nat.reduceAdd, Nat.reduceMul, Nat.reduceDiv, AOp.sb, AOp.mut, ↓Bool.false_eq_true, beq_self_eq_true, ite_self, Nat.reduceLeDiff, Int.reduceEq, Int.reduceSub, Int.reduceAdd, Int.reduceNeg, Int.reduceLT, Int.reduceLE, Nat.reduceLT, W_len, D_len, Nat.div_one, Nat.mul_one, tn_nat, W_nf, D_nf, W_nil, D_nil])
  simp (disch := (first | omega | assumption)) only [S1, ↓reduceIte, Nat.reduceEqDiff, Nat.reduceAdd, Nat.reduceMul, Nat.reduceDiv, AOp.sb, AOp.mut, ↓Bool.false_eq_true, beq_self_eq_true, ite_self, Nat.reduceLeDiff, Int.reduceEq, Int.reduceSub, Int.reduceAdd, Int.reduceNeg, Int.reduceLT, Int.reduceLE, Nat.reduceLT, W_len, D_len, Nat.div_one, Nat.mul_one, tn_nat, W_nf, D_nf, W_nil, D_nil, e]
  refine hK _ ?_
  clear hK K
  repeat first
    | (refine hK _ ?_; clear hK K)
    | ((first | refine vm_reg (fun K hK => ?_) | refine vm_dreg (fun K hK => ?_)); simp (disch := (first | omega | assumption)) only [S1, ↓reduceIte, Nat.reduceEqDiff, Nat.reduceAdd, Nat.reduceMul, Nat.reduceDiv, AOp.sb, AOp.mut, ↓Bool.false_eq_true, beq_self_eq_true, ite_self, Nat.reduceLeDiff, Int.reduceEq, Int.reduceSub, Int.reduceAdd, Int.reduceNeg, Int.reduceLT, Int.reduceLE, Nat.reduceLT, W_len, D_len, Nat.div_one, Nat.mul_one, tn_nat, W_nf, D_nf, W_nil, D_nil]; refine hK _ ?_; clear hK K)
    | simp only [Sv, ↓reduceIte, Nat.reduceEqDiff]
  simp (disch := (first | omega | assumption)) only [retOk, retN, ret1, retF, ret1F, V.okArg, and_true, true_and, S1, ↓reduceIte, Nat.reduceEqDiff, Nat.reduceAdd, Nat.reduceMul, Nat.reduceDiv, AOp.sb, AOp.mut, ↓Bool.false_eq_true, beq_self_eq_true, ite_self, Nat.reduceLeDiff, Int.reduceEq, Int.reduceSub, Int.reduceAdd, Int.reduceNeg, Int.reduceLT, Int.reduceLE, Nat.reduceLT, W_len, D_len, Nat.div_one, Nat.mul_one, tn_nat, W_nf, D_nf, W_nil, D_nil]

-- surd/surdref02.Cmp
def a49 : AC := .seq (.reg [⟨some 4, none, .mv (.k (.i .i64 0))⟩])
  (.seq (.reg [⟨some 5, none, .mv (.t 0)⟩, 
      ⟨some 6, none, .call 52 [(1, (.t 5))]⟩, 
      ⟨some 7, none, .mv (.t 1)⟩, 
      ⟨some 8, none, .call 52 [(1, (.t 7))]⟩, 
      ⟨some 9, none, .call 75 [(1, (.t 6)), (1, (.t 8))]⟩, 
      ⟨some 4, none, .mv (.t 9)⟩])
  (.ret))
theorem rcmp_spec (a b : List Nat) (ha : Wd a) (hb : Wd b) (la : a.length ≤ 100000000000) (lb : b.length ≤ 100000000000) :
    AFun Try.prog J0 49 [.l 1 (W a), .l 1 (W b)] (.i .i64 (sg (nv B a) (nv B b))) := by
  refine AFun.mk fol J0s Try.func49 rfl (ac := a49) (by kernel_rfl) rfl rfl ?_
  apply vm_start
  unfold a49
  simp only [init_eq, initE]
  have hla := dg256_len ha
  have hlb := dg256_len hb
  have ea := nv_dg D2 (nv B a)
  have eb := nv_dg D2 (nv B b)
  repeat first
    | (refine hK _ ?_; clear hK K)
    | ((first | refine vm_reg (fun K hK => ?_) | refine vm_dreg (fun K hK => ?_)); simp (disch := (first | omega | assumption)) only [S1, ↓reduceIte, Nat.reduceEqDiff, Nat.reduceAdd, Nat.reduceMul, Nat.reduceDiv, AOp.sb, AOp.mut, ↓Bool.false_eq_true, beq_self_eq_true, ite_self, Nat.reduceLeDiff, Int.reduceEq, Int.reduceSub, Int.reduceAdd, Int.reduceNeg, Int.reduceLT, Int.reduceLE, Nat.reduceLT, W_len, D_len, Nat.div_one, Nat.mul_one, tn_nat, W_nf, D_nf, W_nil, D_nil]; refine hK _ ?_; clear hK K)
    | simp only [Sv, ↓reduceIte, Nat.reduceEqDiff]
  try simp only [Sv, ↓reduceIte, Nat.reduceEqDiff]
  refine vm_reg (fun K hK => ?_)
  simp (disch := (first | omega | assumption)) only [S1, ↓reduceIte, Nat.reduceEqDiff, Nat.reduceAdd, Nat.reduceMul, Nat.reduceDiv, AOp.sb, AOp.mut, ↓Bool.false_eq_true, beq_self_eq_true, ite_self, Nat.reduceLeDiff, Int.reduceEq, Int.reduceSub, Int.reduceAdd, Int.reduceNeg, Int.reduceLT, Int.reduceLE, Nat.reduceLT, W_len, D_len, Nat.div_one, Nat.mul_one, tn_nat, W_nf, D_nf, W_nil, D_nil]
  refine clp_mk _ _ ?_ ?_ ?_ (digits_spec a ha la) ?_
  · simp (disch := (first | omega | assumption)) only [S1, ↓reduceIte, Nat.reduceEqDiff, Nat.reduceAdd, Nat.reduceMul, Nat.reduceDiv, AOp.sb, AOp.mut, ↓Bool.false_eq_true, beq_self_eq_true, ite_self, Nat.reduceLeDiff, Int.reduceEq, Int.reduceSub, Int.reduceAdd, Int.reduceNeg, Int.reduceLT, Int.reduceLE, Nat.reduceLT, W_len, D_len, Nat.div_one, Nat.mul_one, tn_nat, W_nf, D_nf, W_nil, D_nil]
  · simp (disch := (first | omega | assumption)) only [S1, ↓reduceIte, Nat.reduceEqDiff, Nat.reduceAdd, Nat.reduceMul, Nat.reduceDiv, AOp.sb, AOp.mut, ↓Bool.false_eq_true, beq_self_eq_true, ite_self, Nat.reduceLeDiff, Int.reduceEq, Int.reduceSub, Int.reduceAdd, Int.reduceNeg, Int.reduceLT, Int.reduceLE, Nat.reduceLT, W_len, D_len, Nat.div_one, Nat.mul_one, tn_nat, W_nf, D_nf, W_nil, D_nil]
  · first | rfl | (simp (disch := (first | omega | assumption)) only [S1, ↓reduceIte, Nat.reduceEqDiff, Nat.reduceAdd, Nat.reduceMul, Nat.reduceDiv, AOp.sb, AOp.mut, ↓Bool.false_eq_true, beq_self_eq_true, ite_self, Nat.reduceLeDiff, Int.reduceEq, Int.reduceSub, Int.reduceAdd, Int.reduceNeg, Int.reduceLT, Int.reduceLE, Nat.reduceLT, W_len, D_len, Nat.div_one, Nat.mul_one, tn_nat, W_nf, D_nf, W_nil, D_nil])
  simp (disch := (first | omega | assumption)) only [S1, ↓reduceIte, Nat.reduceEqDiff, Nat.reduceAdd, Nat.reduceMul, Nat.reduceDiv, AOp.sb, AOp.mut, ↓Bool.false_eq_true, beq_self_eq_true, ite_self, Nat.reduceLeDiff, Int.reduceEq, Int.reduceSub, Int.reduceAdd, Int.reduceNeg, Int.reduceLT, Int.reduceLE, Nat.reduceLT, W_len, D_len, Nat.div_one, Nat.mul_one, tn_nat, W_nf, D_nf, W_nil, D_nil]
  refine clp_mk _ _ ?_ ?_ ?_ (digits_spec b hb lb) ?_
  · simp (disch := (first | omega | assumption)) only [S1, ↓reduceIte, Nat.reduceEqDiff, Nat.reduceAdd, Nat.reduceMul, Nat.reduceDiv, AOp.sb, AOp.mut, ↓Bool.false_eq_true, beq_self_eq_true, ite_self, Nat.reduceLeDiff, Int.reduceEq, Int.reduceSub, Int.reduceAdd, Int.reduceNeg, Int.reduceLT, Int.reduceLE, Nat.reduceLT, W_len, D_len, Nat.div_one, Nat.mul_one, tn_nat, W_nf, D_nf, W_nil, D_nil]
  · simp (disch := (first | omega | assumption)) only [S1, ↓reduceIte, Nat.reduceEqDiff, Nat.reduceAdd, Nat.reduceMul, Nat.reduceDiv, AOp.sb, AOp.mut, ↓Bool.false_eq_true, beq_self_eq_true, ite_self, Nat.reduceLeDiff, Int.reduceEq, Int.reduceSub, Int.reduceAdd, Int.reduceNeg, Int.reduceLT, Int.reduceLE, Nat.reduceLT, W_len, D_len, Nat.div_one, Nat.mul_one, tn_nat, W_nf, D_nf, W_nil, D_nil]
  · first | rfl | (simp (disch := (first | omega | assumption)) only [S1, ↓reduceIte, Nat.reduceEqDiff, Nat.reduceAdd, Nat.reduceMul, Nat.reduceDiv, AOp.sb, AOp.mut, ↓Bool.false_eq_true, beq_self_eq_true, ite_self, Nat.reduceLeDiff, Int.reduceEq, Int.reduceSub, Int.reduceAdd, Int.reduceNeg, Int.reduceLT, Int.reduceLE, Nat.reduceLT, W_len, D_len, Nat.div_one, Nat.mul_one, tn_nat, W_nf, D_nf, W_nil, D_nil])
  simp (disch := (first | omega | assumption)) only [S1, ↓reduceIte, Nat.reduceEqDiff, Nat.reduceAdd, Nat.reduceMul, Nat.reduceDiv, AOp.sb, AOp.mut, ↓Bool.false_eq_true, beq_self_eq_true, ite_self, Nat.reduceLeDiff, Int.reduceEq, Int.reduceSub, Int.reduceAdd, Int.reduceNeg, Int.reduceLT, Int.reduceLE, Nat.reduceLT, W_len, D_len, Nat.div_one, Nat.mul_one, tn_nat, W_nf, D_nf, W_nil, D_nil]
  refine clp_mk _ _ ?_ ?_ ?_ (dcmp_spec (dg 256 (nv B a)) (dg 256 (nv B b)) (dg_Lt (by decide) _) (dg_Lt (by decide) _) (by omega) (by omega)) ?_
  · simp (disch := (first | omega | assumption)) only [S1, ↓reduceIte, Nat.reduceEqDiff, Nat.reduceAdd, Nat.reduceMul, Nat.reduceDiv, AOp.sb, AOp.mut, ↓Bool.false_eq_true, beq_self_eq_true, ite_self, Nat.reduceLeDiff, Int.reduceEq, Int.reduceSub, Int.reduceAdd, Int.reduceNeg, Int.reduceLT, Int.reduceLE, Nat.reduceLT, W_len, D_len, Nat.div_one, Nat.mul_one, tn_nat, W_nf, D_nf, W_nil, D_nil]
  · simp (disch := (first | omega | assumption)) only [S1, ↓reduceIte, Nat.reduceEqDiff, Nat.reduceAdd, Nat.reduceMul, Nat.reduceDiv, AOp.sb, AOp.mut, ↓Bool.false_eq_true, beq_self_eq_true, ite_self, Nat.reduceLeDiff, Int.reduceEq, Int.reduceSub, Int.reduceAdd, Int.reduceNeg, Int.reduceLT, Int.reduceLE, Nat.reduceLT, W_len, D_len, Nat.div_one, Nat.mul_one, tn_nat, W_nf, D_nf, W_nil, D_nil]
  · first | rfl | (simp (disch := (first | omega | assumption)) only [S1, ↓reduceIte, Nat.reduceEqDiff, Nat.reduceAdd, Nat.reduceMul, Nat.reduceDiv, AOp.sb, AOp.mut, ↓Bool.false_eq_true, beq_self_eq_true, ite_self, Nat.reduceLeDiff, Int.reduceEq, Int.reduceSub, Int.reduceAdd, Int.reduceNeg, Int.reduceLT, Int.reduceLE, Nat.reduceLT, W_len, D_len, Nat.div_one, Nat.mul_one, tn_nat, W_nf, D_nf, W_nil, D_nil])
  simp (disch := (first | omega | assumption)) only [S1, ↓reduceIte, Nat.reduceEqDiff, Nat.reduceAdd, Nat.reduceMul, Nat.reduceDiv, AOp.sb, AOp.mut, ↓Bool.false_eq_true, beq_self_eq_true, ite_self, Nat.reduceLeDiff, Int.reduceEq, Int.reduceSub, Int.reduceAdd, Int.reduceNeg, Int.reduceLT, Int.reduceLE, Nat.reduceLT, W_len, D_len, Nat.div_one, Nat.mul_one, tn_nat, W_nf, D_nf, W_nil, D_nil, ea, eb]
  refine hK _ ?_
  clear hK K
  repeat first
    | (refine hK _ ?_; clear hK K)
    | ((first | refine vm_reg (fun K hK => ?_) | refine vm_dreg (fun K hK => ?_)); simp (disch := (first | omega | assumption)) only [S1, ↓reduceIte, Nat.reduceEqDiff, Nat.reduceAdd, Nat.reduceMul, Nat.reduceDiv, AOp.sb, AOp.mut, ↓Bool.false_eq_true, beq_self_eq_true, ite_self, Nat.reduceLeDiff, Int.reduceEq, Int.reduceSub, Int.reduceAdd, Int.reduceNeg, Int.reduceLT, Int.reduceLE, Nat.reduceLT, W_len, D_len, Nat.div_one, Nat.mul_one, tn_nat, W_nf, D_nf, W_nil, D_nil]; refine hK _ ?_; clear hK K)
    | simp only [Sv, ↓reduceIte, Nat.reduceEqDiff]
  simp (disch := (first | omega | assumption)) only [retOk, retN, ret1, retF, ret1F, V.okArg, and_true, true_and, S1, ↓reduceIte, Nat.reduceEqDiff, Nat.reduceAdd, Nat.reduceMul, Nat.reduceDiv, AOp.sb, AOp.mut, ↓Bool.false_eq_true, beq_self_eq_true, ite_self, Nat.reduceLeDiff, Int.reduceEq, Int.reduceSub, Int.reduceAdd, Int.reduceNeg, Int.reduceLT, Int.reduceLE, Nat.reduceLT, W_len, D_len, Nat.div_one, Nat.mul_one, tn_nat, W_nf, D_nf, W_nil, D_nil]

-- surd/surdref02.Add
def a58 : AC := .seq (.reg [⟨some 4, none, .mv (.k .nl)⟩])
  (.seq (.reg [⟨some 5, none, .mv (.t 0)⟩, 
      ⟨some 6, none, .call 52 [(1, (.t 5))]⟩, 
      ⟨some 7, none, .mv (.t 1)⟩, 
      ⟨some 8, none, .call 52 [(1, (.t 7))]⟩, 
      ⟨some 9, none, .call 84 [(1, (.t 6)), (1, (.t 8))]⟩, 
      ⟨some 10, none, .call 56 [(1, (.t 9))]⟩, 
      ⟨some 4, none, .mv (.t 10)⟩])
  (.ret))
theorem radd_spec (a b : List Nat) (ha : Wd a) (hb : Wd b) (la : a.length ≤ 10000000000) (lb : b.length ≤ 10000000000) :
    AFun Try.prog J0 58 [.l 1 (W a), .l 1 (W b)] (.o 29 1 (W (dg B (nv B a + nv B b)))) := by
  refine AFun.mk fol J0s Try.func58 rfl (ac := a58) (by kernel_rfl) rfl rfl ?_
  apply vm_start
  unfold a58
  simp only [init_eq, initE]
  obtain ⟨x, hx⟩ : ∃ x, x = dg 256 (nv B a) := ⟨_, rfl⟩
  obtain ⟨y, hy⟩ : ∃ y, y = dg 256 (nv B b) := ⟨_, rfl⟩
  have hla := dg256_len ha
  have hlb := dg256_len hb
  have ea := nv_dg D2 (nv B a)
  have eb := nv_dg D2 (nv B b)
  have kx : Lt 256 x := by rw [hx]; exact dg_Lt (by decide) _
  have ky : Lt 256 y := by rw [hy]; exact dg_Lt (by decide) _
  rw [← hx] at hla ea
  rw [← hy] at hlb eb
  have hn : addn x y ≤ max x.length y.length + 1 := by unfold addn; split <;> omega
  have sm : nv 256 x + nv 256 y < 256 ^ addn x y := by
    unfold addn
    have h1 := nv_lt kx
    have h2 := nv_lt ky
    have h3 : 256 ^ x.length ≤ 256 ^ max x.length y.length := Nat.pow_le_pow_right (by decide) (by omega)
    have h4 : 256 ^ y.length ≤ 256 ^ max x.length y.length := Nat.pow_le_pow_right (by decide) (by omega)
    split
    · rename_i h
      rcases Nat.lt_or_ge (nv 256 x + nv 256 y) (256 ^ max x.length y.length) with h5 | h5
      · exact h5
      · have := (Nat.le_div_iff_mul_le (Nat.pow_pos (by decide : 0 < 256))).2 (by rw [Nat.one_mul]; exact h5 : 1 * 256 ^ max x.length y.length ≤ _)
        omega
    · rw [Nat.pow_succ]; omega
  have ev : nv 256 (fl 256 (addn x y) (nv 256 x + nv 256 y)) = nv B a + nv B b := by rw [nv_fl, Nat.mod_eq_of_lt sm, ea, eb]
  have lw : (fl 256 (addn x y) (nv 256 x + nv 256 y)).length = addn x y := fl_len _ _
  repeat first
    | (refine hK _ ?_; clear hK K)
    | ((first | refine vm_reg (fun K hK => ?_) | refine vm_dreg (fun K hK => ?_)); simp (disch := (first | omega | assumption)) only [S1, ↓reduceIte, Nat.reduceEqDiff, Nat.reduceAdd, Nat.reduceMul, Nat.reduceDiv, AOp.sb, AOp.mut, ↓Bool.false_eq_true, beq_self_eq_true, ite_self, Nat.reduceLeDiff, Int.reduceEq, Int.reduceSub, Int.reduceAdd, Int.reduceNeg, Int.reduceLT, Int.reduceLE, Nat.reduceLT, W_len, D_len, Nat.div_one, Nat.mul_one, tn_nat, W_nf, D_nf, W_nil, D_nil]; refine hK _ ?_; clear hK K)
    | simp only [Sv, ↓reduceIte, Nat.reduceEqDiff]
  try simp only [Sv, ↓reduceIte, Nat.reduceEqDiff]
  refine vm_reg (fun K hK => ?_)
  simp (disch := (first | omega | assumption)) only [S1, ↓reduceIte, Nat.reduceEqDiff, Nat.reduceAdd, Nat.reduceMul, Nat.reduceDiv, AOp.sb, AOp.mut, ↓Bool.false_eq_true, beq_self_eq_true, ite_self, Nat.reduceLeDiff, Int.reduceEq, Int.reduceSub, Int.reduceAdd, Int.reduceNeg, Int.reduceLT, Int.reduceLE, Nat.reduceLT, W_len, D_len, Nat.div_one, Nat.mul_one, tn_nat, W_nf, D_nf, W_nil, D_nil]
  refine clp_mk _ _ ?_ ?_ ?_ (digits_spec a ha (by omega)) ?_
  · simp (disch := (first | omega | assumption)) only [S1, ↓reduceIte, Nat.reduceEqDiff, Nat.reduceAdd, Nat.reduceMul, Nat.reduceDiv, AOp.sb, AOp.mut, ↓Bool.false_eq_true, beq_self_eq_true, ite_self, Nat.reduceLeDiff, Int.reduceEq, Int.reduceSub, Int.reduceAdd, Int.reduceNeg, Int.reduceLT, Int.reduceLE, Nat.reduceLT, W_len, D_len, Nat.div_one, Nat.mul_one, tn_nat, W_nf, D_nf, W_nil, D_nil]
  · simp (disch := (first | omega | assumption)) only [S1, ↓reduceIte, Nat.reduceEqDiff, Nat.reduceAdd, Nat.reduceMul, Nat.reduceDiv, AOp.sb, AOp.mut, ↓Bool.false_eq_true, beq_self_eq_true, ite_self, Nat.reduceLeDiff, Int.reduceEq, Int.reduceSub, Int.reduceAdd, Int.reduceNeg, Int.reduceLT, Int.reduceLE, Nat.reduceLT, W_len, D_len, Nat.div_one, Nat.mul_one, tn_nat, W_nf, D_nf, W_nil, D_nil]
  · first | rfl | (simp (disch := (first | omega | assumption)) only [S1, ↓reduceIte, Nat.reduceEqDiff, Nat.reduceAdd, Nat.reduceMul, Nat.reduceDiv, AOp.sb, AOp.mut, ↓Bool.false_eq_true, beq_self_eq_true, ite_self, Nat.reduceLeDiff, Int.reduceEq, Int.reduceSub, Int.reduceAdd, Int.reduceNeg, Int.reduceLT, Int.reduceLE, Nat.reduceLT, W_len, D_len, Nat.div_one, Nat.mul_one, tn_nat, W_nf, D_nf, W_nil, D_nil])
  simp only [← hx]
  simp (disch := (first | omega | assumption)) only [S1, ↓reduceIte, Nat.reduceEqDiff, Nat.reduceAdd, Nat.reduceMul, Nat.reduceDiv, AOp.sb, AOp.mut, ↓Bool.false_eq_true, beq_self_eq_true, ite_self, Nat.reduceLeDiff, Int.reduceEq, Int.reduceSub, Int.reduceAdd, Int.reduceNeg, Int.reduceLT, Int.reduceLE, Nat.reduceLT, W_len, D_len, Nat.div_one, Nat.mul_one, tn_nat, W_nf, D_nf, W_nil, D_nil]
  refine clp_mk _ _ ?_ ?_ ?_ (digits_spec b hb (by omega)) ?_
  · simp (disch := (first | omega | assumption)) only [S1, ↓reduceIte, Nat.reduceEqDiff, Nat.reduceAdd, Nat.reduceMul, Nat.reduceDiv, AOp.sb, AOp.mut, ↓Bool.false_eq_true, beq_self_eq_true, ite_self, Nat.reduceLeDiff, Int.reduceEq, Int.reduceSub, Int.reduceAdd, Int.reduceNeg, Int.reduceLT, Int.reduceLE, Nat.reduceLT, W_len, D_len, Nat.div_one, Nat.mul_one, tn_nat, W_nf, D_nf, W_nil, D_nil]
  · simp (disch := (first | omega | assumption)) only [S1, ↓reduceIte, Nat.reduceEqDiff, Nat.reduceAdd, Nat.reduceMul, Nat.reduceDiv, AOp.sb, AOp.mut, ↓Bool.false_eq_true, beq_self_eq_true, ite_self, Nat.reduceLeDiff, Int.reduceEq, Int.reduceSub, Int.reduceAdd, Int.reduceNeg, Int.reduceLT, Int.reduceLE, Nat.reduceLT, W_len, D_len, Nat.div_one, Nat.mul_one, tn_nat, W_nf, D_nf, W_nil, D_nil]
  · first | rfl | (simp (disch := (first | omega | assumption)) only [S1, ↓reduceIte, Nat.reduceEqDiff, Nat.reduceAdd, Nat.reduceMul, Nat.reduceDiv, AOp.sb, AOp.mut, ↓Bool.false_eq_true, beq_self_eq_true, ite_self, Nat.reduceLeDiff, Int.reduceEq, Int.reduceSub, Int.reduceAdd, Int.reduceNeg, Int.reduceLT, Int.reduceLE, Nat.reduceLT, W_len, D_len, Nat.div_one, Nat.mul_one, tn_nat, W_nf, D_nf, W_nil, D_nil])
  simp only [← hy]
  simp (disch := (first | omega | assumption)) only [S1, ↓reduceIte, Nat.reduceEqDiff, Nat.reduceAdd, Nat.reduceMul, Nat.reduceDiv, AOp.sb, AOp.mut, ↓Bool.false_eq_true, beq_self_eq_true, ite_self, Nat.reduceLeDiff, Int.reduceEq, Int.reduceSub, Int.reduceAdd, Int.reduceNeg, Int.reduceLT, Int.reduceLE, Nat.reduceLT, W_len, D_len, Nat.div_one, Nat.mul_one, tn_nat, W_nf, D_nf, W_nil, D_nil]
  refine clp_mk _ _ ?_ ?_ ?_ (dadd_spec x y kx ky (by omega) (by omega)) ?_
  · simp (disch := (first | omega | assumption)) only [S1, ↓reduceIte, Nat.reduceEqDiff, Nat.reduceAdd, Nat.reduceMul, Nat.reduceDiv, AOp.sb, AOp.mut, ↓Bool.false_eq_true, beq_self_eq_true, ite_self, Nat.reduceLeDiff, Int.reduceEq, Int.reduceSub, Int.reduceAdd, Int.reduceNeg, Int.reduceLT, Int.reduceLE, Nat.reduceLT, W_len, D_len, Nat.div_one, Nat.mul_one, tn_nat, W_nf, D_nf, W_nil, D_nil]
  · simp (disch := (first | omega | assumption)) only [S1, ↓reduceIte, Nat.reduceEqDiff, Nat.reduceAdd, Nat.reduceMul, Nat.reduceDiv, AOp.sb, AOp.mut, ↓Bool.false_eq_true, beq_self_eq_true, ite_self, Nat.reduceLeDiff, Int.reduceEq, Int.reduceSub, Int.reduceAdd, Int.reduceNeg, Int.reduceLT, Int.reduceLE, Nat.reduceLT, W_len, D_len, Nat.div_one, Nat.mul_one, tn_nat, W_nf, D_nf, W_nil, D_nil]
  · first | rfl | (simp (disch := (first | omega | assumption)) only [S1, ↓reduceIte, Nat.reduceEqDiff, Nat.reduceAdd, Nat.reduceMul, Nat.reduceDiv, AOp.sb, AOp.mut, ↓Bool.false_eq_true, beq_self_eq_true, ite_self, Nat.reduceLeDiff, Int.reduceEq, Int.reduceSub, Int.reduceAdd, Int.reduceNeg, Int.reduceLT, Int.reduceLE, Nat.reduceLT, W_len, D_len, Nat.div_one, Nat.mul_one, tn_nat, W_nf, D_nf, W_nil, D_nil])
  simp (disch := (first | omega | assumption)) only [S1, ↓reduceIte, Nat.reduceEqDiff, Nat.reduceAdd, Nat.reduceMul, Nat.reduceDiv, AOp.sb, AOp.mut, ↓Bool.false_eq_true, beq_self_eq_true, ite_self, Nat.reduceLeDiff, Int.reduceEq, Int.reduceSub, Int.reduceAdd, Int.reduceNeg, Int.reduceLT, Int.reduceLE, Nat.reduceLT, W_len, D_len, Nat.div_one, Nat.mul_one, tn_nat, W_nf, D_nf, W_nil, D_nil]
  refine clp_mk _ _ ?_ ?_ ?_ (of_spec (fl 256 (addn x y) (nv 256 x + nv 256 y)) (fl_Lt (by decide) _ _) (by omega)) ?_
  · simp (disch := (first | omega | assumption)) only [S1, ↓reduceIte, Nat.reduceEqDiff, Nat.reduceAdd, Nat.reduceMul, Nat.reduceDiv, AOp.sb, AOp.mut, ↓Bool.false_eq_true, beq_self_eq_true, ite_self, Nat.reduceLeDiff, Int.reduceEq, Int.reduceSub, Int.reduceAdd, Int.reduceNeg, Int.reduceLT, Int.reduceLE, Nat.reduceLT, W_len, D_len, Nat.div_one, Nat.mul_one, tn_nat, W_nf, D_nf, W_nil, D_nil]
  · simp (disch := (first | omega | assumption)) only [S1, ↓reduceIte, Nat.reduceEqDiff, Nat.reduceAdd, Nat.reduceMul, Nat.reduceDiv, AOp.sb, AOp.mut, ↓Bool.false_eq_true, beq_self_eq_true, ite_self, Nat.reduceLeDiff, Int.reduceEq, Int.reduceSub, Int.reduceAdd, Int.reduceNeg, Int.reduceLT, Int.reduceLE, Nat.reduceLT, W_len, D_len, Nat.div_one, Nat.mul_one, tn_nat, W_nf, D_nf, W_nil, D_nil]
  · first | rfl | (simp (disch := (first | omega | assumption)) only [S1, ↓reduceIte, Nat.reduceEqDiff, Nat.reduceAdd, Nat.reduceMul, Nat.reduceDiv, AOp.sb, AOp.mut, ↓Bool.false_eq_true, beq_self_eq_true, ite_self, Nat.reduceLeDiff, Int.reduceEq, Int.reduceSub, Int.reduceAdd, Int.reduceNeg, Int.reduceLT, Int.reduceLE, Nat.reduceLT, W_len, D_len, Nat.div_one, Nat.mul_one, tn_nat, W_nf, D_nf, W_nil, D_nil])
  simp (disch := (first | omega | assumption)) only [S1, ↓reduceIte, Nat.reduceEqDiff, Nat.reduceAdd, Nat.reduceMul, Nat.reduceDiv, AOp.sb, AOp.mut, ↓Bool.false_eq_true, beq_self_eq_true, ite_self, Nat.reduceLeDiff, Int.reduceEq, Int.reduceSub, Int.reduceAdd, Int.reduceNeg, Int.reduceLT, Int.reduceLE, Nat.reduceLT, W_len, D_len, Nat.div_one, Nat.mul_one, tn_nat, W_nf, D_nf, W_nil, D_nil, ev]
  refine hK _ ?_
  clear hK K
  repeat first
    | (refine hK _ ?_; clear hK K)
    | ((first | refine vm_reg (fun K hK => ?_) | refine vm_dreg (fun K hK => ?_)); simp (disch := (first | omega | assumption)) only [S1, ↓reduceIte, Nat.reduceEqDiff, Nat.reduceAdd, Nat.reduceMul, Nat.reduceDiv, AOp.sb, AOp.mut, ↓Bool.false_eq_true, beq_self_eq_true, ite_self, Nat.reduceLeDiff, Int.reduceEq, Int.reduceSub, Int.reduceAdd, Int.reduceNeg, Int.reduceLT, Int.reduceLE, Nat.reduceLT, W_len, D_len, Nat.div_one, Nat.mul_one, tn_nat, W_nf, D_nf, W_nil, D_nil]; refine hK _ ?_; clear hK K)
    | simp only [Sv, ↓reduceIte, Nat.reduceEqDiff]
  simp (disch := (first | omega | assumption)) only [retOk, retN, ret1, retF, ret1F, V.okArg, and_true, true_and, S1, ↓reduceIte, Nat.reduceEqDiff, Nat.reduceAdd, Nat.reduceMul, Nat.reduceDiv, AOp.sb, AOp.mut, ↓Bool.false_eq_true, beq_self_eq_true, ite_self, Nat.reduceLeDiff, Int.reduceEq, Int.reduceSub, Int.reduceAdd, Int.reduceNeg, Int.reduceLT, Int.reduceLE, Nat.reduceLT, W_len, D_len, Nat.div_one, Nat.mul_one, tn_nat, W_nf, D_nf, W_nil, D_nil]

/-- what is taken away of what is not less -/
theorem sub_val {x y : List Nat} (hx : Lt 256 x) (hy : Lt 256 y) (h : nv 256 y ≤ nv 256 x) (t : tz y = y) : nv 256 (fl 256 x.length (nv 256 x + 256 ^ x.length - nv 256 (y.take x.length))) = nv 256 x - nv 256 y := by
  have h1 := nv_lt hx
  have hl : y.length ≤ x.length := by
    rcases Nat.eq_zero_or_pos y.length with h0 | h0
    · omega
    · have h2 := nv_top (b := 256) t (fun h => by rw [h] at h0; simp at h0)
      have h3 : 256 ^ (y.length - 1) < 256 ^ x.length := by omega
      have := (Nat.pow_lt_pow_iff_right (by decide : 1 < 256)).1 h3
      omega
  rw [nv_fl, List.take_of_length_le hl, show nv 256 x + 256 ^ x.length - nv 256 y = (nv 256 x - nv 256 y) + 256 ^ x.length from by omega, Nat.add_mod_right, Nat.mod_eq_of_lt (by omega)]
end Go.Proofs.Ytngohbpgdeiodaa
