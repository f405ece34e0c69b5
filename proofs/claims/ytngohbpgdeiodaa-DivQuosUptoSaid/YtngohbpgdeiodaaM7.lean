/-
  slices.Concat.
-/
import Derived.Test.YtngohbpgdeiodaaM6
namespace Go.Proofs.Ytngohbpgdeiodaa
open Go Go.RowKit Ab
set_option linter.unusedSimpArgs false
set_option linter.unusedVariables false
set_option maxHeartbeats 10000000

/-- Rows, as values. -/
def PW (ps : List (List Nat)) : List V := ps.map fun p => V.l 1 (W p)
theorem PW_len (ps : List (List Nat)) : (PW ps).length = ps.length := by simp [PW]
theorem PW_get (ps : List (List Nat)) (i : Nat) (h : i < ps.length) : (PW ps).getD i .un = V.l 1 (W (ps.getD i [])) := by simp [PW, List.getD_eq_getElem?_getD, h]
theorem flat_take (ps : List (List Nat)) (i : Nat) (h : i < ps.length) : (ps.take (i + 1)).flatten = (ps.take i).flatten ++ ps.getD i [] := by
  rw [List.take_succ_eq_append_getElem h, List.flatten_append, List.getD_eq_getElem?_getD, List.getElem?_eq_getElem h]; simp
theorem flat_take_le (ps : List (List Nat)) (i : Nat) : (ps.take i).flatten.length ≤ ps.flatten.length := by
  have : ps.flatten = (ps.take i).flatten ++ (ps.drop i).flatten := by rw [← List.flatten_append, List.take_append_drop]
  rw [this, List.length_append]; omega

-- slices.Concat[surd/api.Nat,uint64]
def a79 : AC := .seq (.reg [⟨some 2, none, .mv (.k .nl)⟩])
  (.seq (.reg [⟨some 3, none, .mv (.k (.i .i64 0))⟩])
  (.seq (.seq (.reg [⟨some 9, none, .mv (.t 0)⟩, 
        ⟨some 10, none, .len (.t 9)⟩, 
        ⟨some 11, none, .mv (.k (.i .i64 0))⟩])
    (.blk 0
    (.loop
      (.seq (.reg [⟨some 12, none, .bin .lss (.t 11) (.t 10)⟩])
        (.seq (.cond (.t 12)
          (.skip)
          (.exit 0))
        (.seq (.blk 1
          (.seq (.reg [⟨some 13, none, .idx 1 (.t 9) (.t 11)⟩, 
                ⟨some 14, none, .ld false 1 (.t 13)⟩, 
                ⟨some 5, none, .mv (.t 14)⟩])
            (.seq (.reg [⟨some 15, none, .mv (.t 3)⟩, 
                ⟨some 16, none, .mv (.t 5)⟩, 
                ⟨some 17, none, .len (.t 16)⟩, 
                ⟨some 18, none, .bin .add (.t 15) (.t 17)⟩, 
                ⟨some 3, none, .mv (.t 18)⟩])
            (.seq (.reg [⟨some 19, none, .mv (.t 3)⟩, 
                ⟨some 20, none, .bin .lss (.t 19) (.k (.i .i64 0))⟩])
            (.cond (.t 20)
            (.reg [⟨some 21, none, .bad⟩, 
                ⟨none, none, .bad⟩])
            (.skip))))))
        (.reg [⟨some 22, none, .bin .add (.t 11) (.k (.i .i64 1))⟩, 
          ⟨some 11, none, .mv (.t 22)⟩])))))))
  (.seq (.reg [⟨some 23, none, .mv (.t 3)⟩, 
      ⟨some 24, none, .call 98 [(1, (.k .nl)), (1, (.t 23))]⟩, 
      ⟨some 6, none, .mv (.t 24)⟩])
  (.seq (.seq (.reg [⟨some 25, none, .mv (.t 0)⟩, 
        ⟨some 26, none, .len (.t 25)⟩, 
        ⟨some 27, none, .mv (.k (.i .i64 0))⟩])
    (.blk 2
    (.loop
      (.seq (.reg [⟨some 28, none, .bin .lss (.t 27) (.t 26)⟩])
        (.seq (.cond (.t 28)
          (.skip)
          (.exit 2))
        (.seq (.blk 3
          (.seq (.reg [⟨some 29, none, .idx 1 (.t 25) (.t 27)⟩, 
                ⟨some 30, none, .ld false 1 (.t 29)⟩, 
                ⟨some 8, none, .mv (.t 30)⟩])
            (.reg [⟨some 31, none, .mv (.t 6)⟩, 
              ⟨some 32, none, .mv (.t 8)⟩, 
              ⟨some 33, none, .app 29 1 8 (.t 31) (.t 32)⟩, 
              ⟨some 6, none, .mv (.t 33)⟩])))
        (.reg [⟨some 34, none, .bin .add (.t 27) (.k (.i .i64 1))⟩, 
          ⟨some 27, none, .mv (.t 34)⟩])))))))
  (.seq (.reg [⟨some 35, none, .mv (.t 6)⟩, 
      ⟨some 2, none, .mv (.t 35)⟩])
  (.ret))))))
theorem concat_spec (ps : List (List Nat)) (hp : ps.length ≤ 1000000) (hl : ps.flatten.length ≤ 1000000000000) : AFun Try.prog J0 79 [.l 1 (PW ps)] (.o 29 1 (W ps.flatten)) := by
  refine AFun.mk fol J0s Try.func79 rfl (ac := a79) (by kernel_rfl) rfl rfl ?_
  apply vm_start
  unfold a79
  simp only [init_eq, initE]
  repeat first
    | (refine hK _ ?_; clear hK K)
    | ((first | refine vm_reg (fun K hK => ?_) | refine vm_dreg (fun K hK => ?_)); simp (disch := (first | omega | assumption)) only [S1, ↓reduceIte, Nat.reduceEqDiff, Nat.reduceAdd, Nat.reduceMul, Nat.reduceDiv, AOp.sb, AOp.mut, ↓Bool.false_eq_true, beq_self_eq_true, ite_self, Nat.reduceLeDiff, Int.reduceEq, Int.reduceSub, Int.reduceAdd, Int.reduceNeg, Int.reduceLT, Int.reduceLE, Nat.reduceLT, wi, tn_nat, Nat.div_one, Nat.mul_one, W_len, PW_len, W_app, W_cell, W_nf]; refine hK _ ?_; clear hK K)
    | simp only [Sv, ↓reduceIte, Nat.reduceEqDiff]
  refine vm_loopA [] Nat (fun i => ⟨[(0, .l 1 (PW ps)), (3, .i .i64 ((ps.take i).flatten.length : Int)), (9, .l 1 (PW ps)), (10, .i .i64 (ps.length : Int)), (11, .i .i64 (i : Int))], [], 0⟩)
    (fun i => i ≤ ps.length) (fun i => ps.length - i) 0 (Nat.zero_le _) (by simp (disch := (first | omega | assumption)) only [Sl, Sa, Sw, ↓reduceIte, Nat.reduceEqDiff, Nat.reduceLT, List.all_nil, List.all_cons, Nat.reduceBneDiff, Nat.reduceAdd, bne_iff_ne, ne_eq, reduceCtorEq, not_false_eq_true, not_true_eq_false, Bool.and_true, Bool.true_and, and_true, true_and, and_self]) (by
    simp (disch := (first | omega | assumption)) only [Sl, Sa, Sw, ↓reduceIte, Nat.reduceEqDiff, Nat.reduceLT, List.all_nil, List.all_cons, Nat.reduceBneDiff, Nat.reduceAdd, bne_iff_ne, ne_eq, reduceCtorEq, not_false_eq_true, not_true_eq_false, Bool.and_true, Bool.true_and, and_true, true_and, and_self, i_eq]
    repeat' first | rfl | omega | (simp only [List.length_append, List.length_cons, List.length_nil]; done) | apply And.intro) ?_
  intro i hi Q' hQ he hr
  have hfi := flat_take_le ps i
  by_cases hlt : (i : Int) < ps.length
  · have hf := congrArg List.length (flat_take ps i (by omega))
    rw [List.length_append] at hf
    have hf2 := flat_take_le ps (i + 1)
    have hneg : ¬ (((ps.take i).flatten.length : Int) + ((ps.getD i []).length : Int)) < 0 := by omega
    repeat first
      | (refine hK _ ?_; clear hK K)
      | ((first | refine vm_reg (fun K hK => ?_) | refine vm_dreg (fun K hK => ?_)); simp (disch := (first | omega | assumption)) only [S1, ↓reduceIte, Nat.reduceEqDiff, Nat.reduceAdd, Nat.reduceMul, Nat.reduceDiv, AOp.sb, AOp.mut, ↓Bool.false_eq_true, beq_self_eq_true, ite_self, Nat.reduceLeDiff, Int.reduceEq, Int.reduceSub, Int.reduceAdd, Int.reduceNeg, Int.reduceLT, Int.reduceLE, Nat.reduceLT, wi, tn_nat, Nat.div_one, Nat.mul_one, W_len, PW_len, W_app, W_cell, W_nf, hlt, PW_get, hneg]; refine hK _ ?_; clear hK K)
      | simp only [Sv, ↓reduceIte, Nat.reduceEqDiff]
    refine hQ _ (i + 1) (by omega) (by omega) ?_
    simp (disch := (first | omega | assumption)) only [Sl, Sa, Sw, ↓reduceIte, Nat.reduceEqDiff, Nat.reduceLT, List.all_nil, List.all_cons, Nat.reduceBneDiff, Nat.reduceAdd, bne_iff_ne, ne_eq, reduceCtorEq, not_false_eq_true, not_true_eq_false, Bool.and_true, Bool.true_and, and_true, true_and, and_self, i_eq]
    repeat' first | rfl | omega | (simp only [List.length_append, List.length_cons, List.length_nil]; done) | apply And.intro
  · obtain rfl : i = ps.length := by omega
    repeat first
      | (refine hK _ ?_; clear hK K)
      | ((first | refine vm_reg (fun K hK => ?_) | refine vm_dreg (fun K hK => ?_)); simp (disch := (first | omega | assumption)) only [S1, ↓reduceIte, Nat.reduceEqDiff, Nat.reduceAdd, Nat.reduceMul, Nat.reduceDiv, AOp.sb, AOp.mut, ↓Bool.false_eq_true, beq_self_eq_true, ite_self, Nat.reduceLeDiff, Int.reduceEq, Int.reduceSub, Int.reduceAdd, Int.reduceNeg, Int.reduceLT, Int.reduceLE, Nat.reduceLT, wi, tn_nat, Nat.div_one, Nat.mul_one, W_len, PW_len, W_app, W_cell, W_nf, hlt]; refine hK _ ?_; clear hK K)
      | simp only [Sv, ↓reduceIte, Nat.reduceEqDiff]
    refine he _ _ ?_
    rw [List.take_length]
    repeat first | (refine hK _ ?_; clear hK K) | simp only [Sv, ↓reduceIte, Nat.reduceEqDiff] | ((first | refine vm_reg (fun K hK => ?_) | refine vm_dreg (fun K hK => ?_)); simp (disch := (first | omega | assumption)) only [S1, ↓reduceIte, Nat.reduceEqDiff, Nat.reduceAdd, Nat.reduceMul, Nat.reduceDiv, AOp.sb, AOp.mut, ↓Bool.false_eq_true, beq_self_eq_true, ite_self, Nat.reduceLeDiff, Int.reduceEq, Int.reduceSub, Int.reduceAdd, Int.reduceNeg, Int.reduceLT, Int.reduceLE, Nat.reduceLT, wi, tn_nat, Nat.div_one, Nat.mul_one, W_len, PW_len, W_app, W_cell, W_nf])
    refine clp_ofn _ _ (grow_spec ps.flatten.length hl) ?_ ?_
    · first | rfl | (simp (disch := (first | omega | assumption)) only [S1, ↓reduceIte, Nat.reduceEqDiff, Nat.reduceAdd, Nat.reduceMul, Nat.reduceDiv, AOp.sb, AOp.mut, ↓Bool.false_eq_true, beq_self_eq_true, ite_self, Nat.reduceLeDiff, Int.reduceEq, Int.reduceSub, Int.reduceAdd, Int.reduceNeg, Int.reduceLT, Int.reduceLE, Nat.reduceLT, wi, tn_nat, Nat.div_one, Nat.mul_one, W_len, PW_len, W_app, W_cell, W_nf])
    simp (disch := (first | omega | assumption)) only [S1, ↓reduceIte, Nat.reduceEqDiff, Nat.reduceAdd, Nat.reduceMul, Nat.reduceDiv, AOp.sb, AOp.mut, ↓Bool.false_eq_true, beq_self_eq_true, ite_self, Nat.reduceLeDiff, Int.reduceEq, Int.reduceSub, Int.reduceAdd, Int.reduceNeg, Int.reduceLT, Int.reduceLE, Nat.reduceLT, wi, tn_nat, Nat.div_one, Nat.mul_one, W_len, PW_len, W_app, W_cell, W_nf]
    repeat first
      | (refine hK _ ?_; clear hK K)
      | ((first | refine vm_reg (fun K hK => ?_) | refine vm_dreg (fun K hK => ?_)); simp (disch := (first | omega | assumption)) only [S1, ↓reduceIte, Nat.reduceEqDiff, Nat.reduceAdd, Nat.reduceMul, Nat.reduceDiv, AOp.sb, AOp.mut, ↓Bool.false_eq_true, beq_self_eq_true, ite_self, Nat.reduceLeDiff, Int.reduceEq, Int.reduceSub, Int.reduceAdd, Int.reduceNeg, Int.reduceLT, Int.reduceLE, Nat.reduceLT, wi, tn_nat, Nat.div_one, Nat.mul_one, W_len, PW_len, W_app, W_cell, W_nf]; refine hK _ ?_; clear hK K)
      | simp only [Sv, ↓reduceIte, Nat.reduceEqDiff]
    refine vm_loopA [] Nat (fun i => ⟨[(6, .ow 1 0 (ps.take i).flatten.length), (25, .l 1 (PW ps)), (26, .i .i64 (ps.length : Int)), (27, .i .i64 (i : Int))], [(0, some ⟨29, 1, W (ps.take i).flatten, true, false⟩)], 1⟩)
      (fun i => i ≤ ps.length) (fun i => ps.length - i) 0 (Nat.zero_le _) (by simp (disch := (first | omega | assumption)) only [Sl, Sa, Sw, ↓reduceIte, Nat.reduceEqDiff, Nat.reduceLT, List.all_nil, List.all_cons, Nat.reduceBneDiff, Nat.reduceAdd, bne_iff_ne, ne_eq, reduceCtorEq, not_false_eq_true, not_true_eq_false, Bool.and_true, Bool.true_and, and_true, true_and, and_self]) (by
      simp (disch := (first | omega | assumption)) only [Sl, Sa, Sw, ↓reduceIte, Nat.reduceEqDiff, Nat.reduceLT, List.all_nil, List.all_cons, Nat.reduceBneDiff, Nat.reduceAdd, bne_iff_ne, ne_eq, reduceCtorEq, not_false_eq_true, not_true_eq_false, Bool.and_true, Bool.true_and, and_true, true_and, and_self, i_eq]
      repeat' first | rfl | omega | (simp only [List.length_append, List.length_cons, List.length_nil]; done) | apply And.intro) ?_
    intro i hi Q2 hQ2 he2 hr2
    have hfi := flat_take_le ps i
    by_cases hlt : (i : Int) < ps.length
    · have hfl := flat_take ps i (by omega)
      have hf := congrArg List.length hfl
      rw [List.length_append] at hf
      have hf2 := flat_take_le ps (i + 1)
      repeat first
        | (refine hK _ ?_; clear hK K)
        | ((first | refine vm_reg (fun K hK => ?_) | refine vm_dreg (fun K hK => ?_)); simp (disch := (first | omega | assumption)) only [S1, ↓reduceIte, Nat.reduceEqDiff, Nat.reduceAdd, Nat.reduceMul, Nat.reduceDiv, AOp.sb, AOp.mut, ↓Bool.false_eq_true, beq_self_eq_true, ite_self, Nat.reduceLeDiff, Int.reduceEq, Int.reduceSub, Int.reduceAdd, Int.reduceNeg, Int.reduceLT, Int.reduceLE, Nat.reduceLT, wi, tn_nat, Nat.div_one, Nat.mul_one, W_len, PW_len, W_app, W_cell, W_nf, hlt, PW_get]; refine hK _ ?_; clear hK K)
        | simp only [Sv, ↓reduceIte, Nat.reduceEqDiff]
      refine hQ2 _ (i + 1) (by omega) (by omega) ?_
      simp (disch := (first | omega | assumption)) only [Sl, Sa, Sw, ↓reduceIte, Nat.reduceEqDiff, Nat.reduceLT, List.all_nil, List.all_cons, Nat.reduceBneDiff, Nat.reduceAdd, bne_iff_ne, ne_eq, reduceCtorEq, not_false_eq_true, not_true_eq_false, Bool.and_true, Bool.true_and, and_true, true_and, and_self, i_eq]
      rw [hfl]
      repeat' first | rfl | omega | (simp only [List.length_append, List.length_cons, List.length_nil]; done) | apply And.intro
    · obtain rfl : i = ps.length := by omega
      repeat first
        | (refine hK _ ?_; clear hK K)
        | ((first | refine vm_reg (fun K hK => ?_) | refine vm_dreg (fun K hK => ?_)); simp (disch := (first | omega | assumption)) only [S1, ↓reduceIte, Nat.reduceEqDiff, Nat.reduceAdd, Nat.reduceMul, Nat.reduceDiv, AOp.sb, AOp.mut, ↓Bool.false_eq_true, beq_self_eq_true, ite_self, Nat.reduceLeDiff, Int.reduceEq, Int.reduceSub, Int.reduceAdd, Int.reduceNeg, Int.reduceLT, Int.reduceLE, Nat.reduceLT, wi, tn_nat, Nat.div_one, Nat.mul_one, W_len, PW_len, W_app, W_cell, W_nf, hlt]; refine hK _ ?_; clear hK K)
        | simp only [Sv, ↓reduceIte, Nat.reduceEqDiff]
      refine he2 _ _ ?_
      rw [List.take_length]
      repeat first
        | (refine hK _ ?_; clear hK K)
        | ((first | refine vm_reg (fun K hK => ?_) | refine vm_dreg (fun K hK => ?_)); simp (disch := (first | omega | assumption)) only [S1, ↓reduceIte, Nat.reduceEqDiff, Nat.reduceAdd, Nat.reduceMul, Nat.reduceDiv, AOp.sb, AOp.mut, ↓Bool.false_eq_true, beq_self_eq_true, ite_self, Nat.reduceLeDiff, Int.reduceEq, Int.reduceSub, Int.reduceAdd, Int.reduceNeg, Int.reduceLT, Int.reduceLE, Nat.reduceLT, wi, tn_nat, Nat.div_one, Nat.mul_one, W_len, PW_len, W_app, W_cell, W_nf]; refine hK _ ?_; clear hK K)
        | simp only [Sv, ↓reduceIte, Nat.reduceEqDiff]
      simp (disch := (first | omega | assumption)) only [retOk, retN, ret1, retF, ret1F, V.okArg, and_true, true_and, S1, ↓reduceIte, Nat.reduceEqDiff, Nat.reduceAdd, Nat.reduceMul, Nat.reduceDiv, AOp.sb, AOp.mut, ↓Bool.false_eq_true, beq_self_eq_true, ite_self, Nat.reduceLeDiff, Int.reduceEq, Int.reduceSub, Int.reduceAdd, Int.reduceNeg, Int.reduceLT, Int.reduceLE, Nat.reduceLT, wi, tn_nat, Nat.div_one, Nat.mul_one, W_len, PW_len, W_app, W_cell, W_nf]
end Go.Proofs.Ytngohbpgdeiodaa
