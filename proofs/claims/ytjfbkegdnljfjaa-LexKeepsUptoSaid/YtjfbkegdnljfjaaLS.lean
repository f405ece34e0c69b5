/-
  lex.Join: its two tests, in the layer.
-/
import Derived.Test.YtjfbkegdnljfjaaLR
import Derived.Test.YtjfbkegdnljfjaaL5
namespace Go.Proofs.Ytjfbkegdnljfjaa
open Go Go.RowKit Ab
set_option linter.unusedSimpArgs false
set_option linter.unusedVariables false
set_option maxHeartbeats 10000000
def aJ5 : AC := .dreg [⟨some 14, none, .fad 0 (.t 6)⟩, ⟨some 15, none, .ld false 1 (.t 14)⟩, ⟨some 16, none, .bin .eql (.t 15) (.k (.i .i64 0))⟩, ⟨some 17, none, .mv (.t 16)⟩, ⟨some 18, some (17, false), .fad 0 (.t 6)⟩, ⟨some 19, some (17, false), .ld false 1 (.t 18)⟩, ⟨some 20, some (17, false), .fad 1 (.t 6)⟩, ⟨some 21, some (17, false), .ld false 1 (.t 20)⟩, ⟨some 22, some (17, false), .call 22 [(1, (.t 21))]⟩, ⟨some 23, some (17, false), .bin .neq (.t 19) (.t 22)⟩, ⟨some 24, none, .pick (.t 17) (.k (.b true)) (.t 23)⟩]
def aJ6 : AC := .dreg [⟨some 25, none, .mv (.t 5)⟩, ⟨some 26, none, .bin .gtr (.t 25) (.k (.i .i64 0))⟩, ⟨some 27, none, .mv (.t 26)⟩, ⟨some 28, some (27, true), .mv (.t 0)⟩, ⟨some 29, some (27, true), .mv (.t 5)⟩, ⟨some 30, some (27, true), .bin .sub (.t 29) (.k (.i .i64 1))⟩, ⟨some 31, some (27, true), .idx 3 (.t 28) (.t 30)⟩, ⟨some 32, some (27, true), .fad 0 (.t 31)⟩, ⟨some 33, some (27, true), .ld false 1 (.t 32)⟩, ⟨some 34, some (27, true), .ld true 3 (.t 6)⟩, ⟨some 35, some (27, true), .call 27 [(1, (.t 33)), (1, (.t 34))]⟩, ⟨some 36, none, .pick (.t 27) (.t 35) (.k (.b false))⟩]
theorem T_cell3 : ∀ (ts : List Tk) (i : Nat) (h : i < ts.length), (T ts)[i * 3]? = some (.i .i64 (ts.getD i default).k) ∧ (T ts)[i * 3 + 1]? = some (.s (ts.getD i default).t) ∧ (T ts)[i * 3 + 2]? = some (.i .i64 (ts.getD i default).a)
  | [], i, h => by simp at h
  | x :: r, 0, h => ⟨rfl, rfl, rfl⟩
  | x :: r, i + 1, h => by
    have := T_cell3 r i (by simpa using h)
    rw [show (i + 1) * 3 = i * 3 + 1 + 1 + 1 from by omega]
    exact this
def gapV (a b : Tk) : Bool := if a.k = 1 then decide (b.k = 1) else if a.k = 2 ∨ a.k = 3 ∨ a.k = 4 then decide (b.k ≠ 5) else false
def okT (x : Tk) : Bool := decide (x.k ≠ 0 ∧ x.k = (kind x.t : Int))
def a27 : AC := .seq (.reg [⟨some 3, none, .bx 27 (.t 1)⟩,
 ⟨some 4, none, .mv (.k (.b false))⟩])
 (.seq (.seq (.reg [⟨some 5, none, .mv (.t 0)⟩])
 (.blk 0
 (.seq (.reg [⟨some 7, none, .bin .eql (.t 5) (.k (.i .i64 1))⟩,
 ⟨some 6, none, .mv (.t 7)⟩])
 (.cond (.t 6)
 (.seq (.reg [⟨some 8, none, .fad 0 (.t 3)⟩,
 ⟨some 9, none, .ld false 1 (.t 8)⟩,
 ⟨some 10, none, .bin .eql (.t 9) (.k (.i .i64 1))⟩,
 ⟨some 4, none, .mv (.t 10)⟩])
 (.ret))
 (.seq (.seq (.reg [⟨some 12, none, .bin .eql (.t 5) (.k (.i .i64 2))⟩,
 ⟨some 11, none, .mv (.t 12)⟩])
 (.cond (.t 11)
 (.skip)
 (.seq (.reg [⟨some 13, none, .bin .eql (.t 5) (.k (.i .i64 3))⟩,
 ⟨some 11, none, .mv (.t 13)⟩])
 (.cond (.t 11)
 (.skip)
 (.reg [⟨some 14, none, .bin .eql (.t 5) (.k (.i .i64 4))⟩,
 ⟨some 11, none, .mv (.t 14)⟩])))))
 (.cond (.t 11)
 (.seq (.reg [⟨some 15, none, .fad 0 (.t 3)⟩,
 ⟨some 16, none, .ld false 1 (.t 15)⟩,
 ⟨some 17, none, .bin .neq (.t 16) (.k (.i .i64 5))⟩,
 ⟨some 4, none, .mv (.t 17)⟩])
 (.ret))
 (.skip)))))))
 (.seq (.reg [⟨some 4, none, .mv (.k (.b false))⟩])
 (.ret)))
theorem grows_spec (a x : Tk) : AFun Try.prog J0 27 [.i .i64 a.k, .g (Tv x)] (.b (gapV a x)) := by
  unfold gapV
  by_cases h1 : a.k = 1
  · rw [if_pos h1]
    refine AFun.mk fol J0s Try.func27 rfl (ac := a27) (by kernel_rfl) rfl rfl rfl ?_
    apply vm_start
    unfold a27
    simp only [init_eq, initE]
    repeat first | (refine hK _ ?_; clear hK K) | simp only [Sv, ↓reduceIte, Nat.reduceEqDiff] | ((first | refine vm_reg (fun K hK => ?_) | refine vm_dreg (fun K hK => ?_) | refine vm_dregx (fun K hK => ?_)); simp (disch := (first | omega | assumption)) only [S1, ↓reduceIte, Nat.reduceEqDiff, Nat.reduceAdd, Nat.reduceMul, Nat.reduceDiv, AOp.sb, AOp.mut, frzf, ↓Bool.false_eq_true, beq_self_eq_true, ite_self, Nat.reduceLeDiff, Int.reduceEq, Int.reduceSub, Int.reduceAdd, Int.reduceNeg, Int.reduceLT, Int.reduceLE, Nat.reduceLT, wi, tn_nat, h1, Tv])
    simp (disch := (first | omega | assumption)) only [retOk, retN, ret1, retF, ret1F, V.okArg, and_true, true_and, S1, ↓reduceIte, Nat.reduceEqDiff, Nat.reduceAdd, Nat.reduceMul, Nat.reduceDiv, AOp.sb, AOp.mut, frzf, ↓Bool.false_eq_true, beq_self_eq_true, ite_self, Nat.reduceLeDiff, Int.reduceEq, Int.reduceSub, Int.reduceAdd, Int.reduceNeg, Int.reduceLT, Int.reduceLE, Nat.reduceLT, wi, tn_nat, h1, Tv]
  · rw [if_neg h1]
    by_cases h2 : a.k = 2
    · rw [if_pos (.inl h2)]
      refine AFun.mk fol J0s Try.func27 rfl (ac := a27) (by kernel_rfl) rfl rfl rfl ?_
      apply vm_start
      unfold a27
      simp only [init_eq, initE]
      repeat first | (refine hK _ ?_; clear hK K) | simp only [Sv, ↓reduceIte, Nat.reduceEqDiff] | ((first | refine vm_reg (fun K hK => ?_) | refine vm_dreg (fun K hK => ?_) | refine vm_dregx (fun K hK => ?_)); simp (disch := (first | omega | assumption)) only [S1, ↓reduceIte, Nat.reduceEqDiff, Nat.reduceAdd, Nat.reduceMul, Nat.reduceDiv, AOp.sb, AOp.mut, frzf, ↓Bool.false_eq_true, beq_self_eq_true, ite_self, Nat.reduceLeDiff, Int.reduceEq, Int.reduceSub, Int.reduceAdd, Int.reduceNeg, Int.reduceLT, Int.reduceLE, Nat.reduceLT, wi, tn_nat, h1, h2, Tv])
      simp (disch := (first | omega | assumption)) only [retOk, retN, ret1, retF, ret1F, V.okArg, and_true, true_and, S1, ↓reduceIte, Nat.reduceEqDiff, Nat.reduceAdd, Nat.reduceMul, Nat.reduceDiv, AOp.sb, AOp.mut, frzf, ↓Bool.false_eq_true, beq_self_eq_true, ite_self, Nat.reduceLeDiff, Int.reduceEq, Int.reduceSub, Int.reduceAdd, Int.reduceNeg, Int.reduceLT, Int.reduceLE, Nat.reduceLT, wi, tn_nat, h1, h2, Tv]
    · by_cases h3 : a.k = 3
      · rw [if_pos (.inr (.inl h3))]
        refine AFun.mk fol J0s Try.func27 rfl (ac := a27) (by kernel_rfl) rfl rfl rfl ?_
        apply vm_start
        unfold a27
        simp only [init_eq, initE]
        repeat first | (refine hK _ ?_; clear hK K) | simp only [Sv, ↓reduceIte, Nat.reduceEqDiff] | ((first | refine vm_reg (fun K hK => ?_) | refine vm_dreg (fun K hK => ?_) | refine vm_dregx (fun K hK => ?_)); simp (disch := (first | omega | assumption)) only [S1, ↓reduceIte, Nat.reduceEqDiff, Nat.reduceAdd, Nat.reduceMul, Nat.reduceDiv, AOp.sb, AOp.mut, frzf, ↓Bool.false_eq_true, beq_self_eq_true, ite_self, Nat.reduceLeDiff, Int.reduceEq, Int.reduceSub, Int.reduceAdd, Int.reduceNeg, Int.reduceLT, Int.reduceLE, Nat.reduceLT, wi, tn_nat, h1, h2, h3, Tv])
        simp (disch := (first | omega | assumption)) only [retOk, retN, ret1, retF, ret1F, V.okArg, and_true, true_and, S1, ↓reduceIte, Nat.reduceEqDiff, Nat.reduceAdd, Nat.reduceMul, Nat.reduceDiv, AOp.sb, AOp.mut, frzf, ↓Bool.false_eq_true, beq_self_eq_true, ite_self, Nat.reduceLeDiff, Int.reduceEq, Int.reduceSub, Int.reduceAdd, Int.reduceNeg, Int.reduceLT, Int.reduceLE, Nat.reduceLT, wi, tn_nat, h1, h2, h3, Tv]
      · by_cases h4 : a.k = 4
        · rw [if_pos (.inr (.inr h4))]
          refine AFun.mk fol J0s Try.func27 rfl (ac := a27) (by kernel_rfl) rfl rfl rfl ?_
          apply vm_start
          unfold a27
          simp only [init_eq, initE]
          repeat first | (refine hK _ ?_; clear hK K) | simp only [Sv, ↓reduceIte, Nat.reduceEqDiff] | ((first | refine vm_reg (fun K hK => ?_) | refine vm_dreg (fun K hK => ?_) | refine vm_dregx (fun K hK => ?_)); simp (disch := (first | omega | assumption)) only [S1, ↓reduceIte, Nat.reduceEqDiff, Nat.reduceAdd, Nat.reduceMul, Nat.reduceDiv, AOp.sb, AOp.mut, frzf, ↓Bool.false_eq_true, beq_self_eq_true, ite_self, Nat.reduceLeDiff, Int.reduceEq, Int.reduceSub, Int.reduceAdd, Int.reduceNeg, Int.reduceLT, Int.reduceLE, Nat.reduceLT, wi, tn_nat, h1, h2, h3, h4, Tv])
          simp (disch := (first | omega | assumption)) only [retOk, retN, ret1, retF, ret1F, V.okArg, and_true, true_and, S1, ↓reduceIte, Nat.reduceEqDiff, Nat.reduceAdd, Nat.reduceMul, Nat.reduceDiv, AOp.sb, AOp.mut, frzf, ↓Bool.false_eq_true, beq_self_eq_true, ite_self, Nat.reduceLeDiff, Int.reduceEq, Int.reduceSub, Int.reduceAdd, Int.reduceNeg, Int.reduceLT, Int.reduceLE, Nat.reduceLT, wi, tn_nat, h1, h2, h3, h4, Tv]
        · rw [if_neg (by omega)]
          refine AFun.mk fol J0s Try.func27 rfl (ac := a27) (by kernel_rfl) rfl rfl rfl ?_
          apply vm_start
          unfold a27
          simp only [init_eq, initE]
          repeat first | (refine hK _ ?_; clear hK K) | simp only [Sv, ↓reduceIte, Nat.reduceEqDiff] | ((first | refine vm_reg (fun K hK => ?_) | refine vm_dreg (fun K hK => ?_) | refine vm_dregx (fun K hK => ?_)); simp (disch := (first | omega | assumption)) only [S1, ↓reduceIte, Nat.reduceEqDiff, Nat.reduceAdd, Nat.reduceMul, Nat.reduceDiv, AOp.sb, AOp.mut, frzf, ↓Bool.false_eq_true, beq_self_eq_true, ite_self, Nat.reduceLeDiff, Int.reduceEq, Int.reduceSub, Int.reduceAdd, Int.reduceNeg, Int.reduceLT, Int.reduceLE, Nat.reduceLT, wi, tn_nat, h1, h2, h3, h4, Tv])
          simp (disch := (first | omega | assumption)) only [retOk, retN, ret1, retF, ret1F, V.okArg, and_true, true_and, S1, ↓reduceIte, Nat.reduceEqDiff, Nat.reduceAdd, Nat.reduceMul, Nat.reduceDiv, AOp.sb, AOp.mut, frzf, ↓Bool.false_eq_true, beq_self_eq_true, ite_self, Nat.reduceLeDiff, Int.reduceEq, Int.reduceSub, Int.reduceAdd, Int.reduceNeg, Int.reduceLT, Int.reduceLE, Nat.reduceLT, wi, tn_nat, h1, h2, h3, h4, Tv]
theorem j5 (x : Tk) (hm : x.t.length ≤ 9223372036854775807) : avc (AFun Try.prog J0) (XFun Try.prog) aJ5 (fun ex s' => exN ex = true ∧ s'.get 24 = .b (!okT x)) ⟨[(6, .ip (Tv x) 0)], [], 0⟩ := by
  have c1 := kind_spec x.t hm
  have e : okT x = decide (x.k ≠ 0 ∧ x.k = (kind x.t : Int)) := rfl
  generalize ((kind x.t : Nat) : Int) = kk at *
  apply vm_start
  unfold aJ5
  by_cases h1 : x.k = 0
  · repeat first
      | (refine hK _ ?_; clear hK K)
      | ((first | refine vm_reg (fun K hK => ?_) | refine vm_dreg (fun K hK => ?_) | refine vm_dregx (fun K hK => ?_)); simp (disch := (first | omega | assumption)) only [S1, ↓reduceIte, Nat.reduceEqDiff, Nat.reduceAdd, Nat.reduceMul, Nat.reduceDiv, AOp.sb, AOp.mut, frzf, ↓Bool.false_eq_true, beq_self_eq_true, ite_self, Nat.reduceLeDiff, Int.reduceEq, Int.reduceSub, Int.reduceAdd, Int.reduceNeg, Int.reduceLT, Int.reduceLE, Nat.reduceLT, wi, tn_nat, h1, Tv]; refine hK _ ?_; clear hK K)
      | simp only [Sv, ↓reduceIte, Nat.reduceEqDiff]
    exact ⟨rfl, by rw [e, decide_eq_false (fun h => h.1 h1)]; rfl⟩
  · by_cases h2 : x.k = kk
    · have h3 : ¬ kk = 0 := h2 ▸ h1
      have zc1 := c1
      repeat first | (refine hK _ ?_; clear hK K) | simp only [Sv, ↓reduceIte, Nat.reduceEqDiff] | ((first | refine vm_reg (fun K hK => ?_) | refine vm_dreg (fun K hK => ?_) | refine vm_dregx (fun K hK => ?_) | refine clp_q ?_ | refine clq_mk (by assumption) ?_ | refine mcq_q ?_ | (apply mcr_mk; assumption) | (apply ocr_mk; assumption)); simp (disch := (first | omega | assumption)) only [S1, ↓reduceIte, Nat.reduceEqDiff, Nat.reduceAdd, Nat.reduceMul, Nat.reduceDiv, AOp.sb, AOp.mut, frzf, ↓Bool.false_eq_true, beq_self_eq_true, ite_self, Nat.reduceLeDiff, Int.reduceEq, Int.reduceSub, Int.reduceAdd, Int.reduceNeg, Int.reduceLT, Int.reduceLE, Nat.reduceLT, wi, tn_nat, h3, h2, Tv, eq_self])
      exact ⟨rfl, by rw [e, decide_eq_true ⟨h1, h2⟩]; rfl⟩
    · have zc2 := c1
      repeat first | (refine hK _ ?_; clear hK K) | simp only [Sv, ↓reduceIte, Nat.reduceEqDiff] | ((first | refine vm_reg (fun K hK => ?_) | refine vm_dreg (fun K hK => ?_) | refine vm_dregx (fun K hK => ?_) | refine clp_q ?_ | refine clq_mk (by assumption) ?_ | refine mcq_q ?_ | (apply mcr_mk; assumption) | (apply ocr_mk; assumption)); simp (disch := (first | omega | assumption)) only [S1, ↓reduceIte, Nat.reduceEqDiff, Nat.reduceAdd, Nat.reduceMul, Nat.reduceDiv, AOp.sb, AOp.mut, frzf, ↓Bool.false_eq_true, beq_self_eq_true, ite_self, Nat.reduceLeDiff, Int.reduceEq, Int.reduceSub, Int.reduceAdd, Int.reduceNeg, Int.reduceLT, Int.reduceLE, Nat.reduceLT, wi, tn_nat, h1, h2, Tv])
      exact ⟨rfl, by rw [e, decide_eq_false (fun h => h2 h.2)]; rfl⟩
theorem T_kk (ts : List Tk) (i : Nat) (h : i < ts.length) : (T ts).getD (i * 3 + 0) .un = .i .i64 (ts.getD i default).k := by
  rw [List.getD_eq_getElem?_getD, Nat.add_zero, (T_cell3 ts i h).1]; rfl
theorem j6 (ts : List Tk) (k : Nat) (hk : k < ts.length) (hl : ts.length ≤ 2000000) (x : Tk) : avc (AFun Try.prog J0) (XFun Try.prog) aJ6 (fun ex s' => exN ex = true ∧ s'.get 36 = .b (decide (0 < k) && gapV (ts.getD (k - 1) default) x)) ⟨[(0, .l 3 (T ts)), (5, .i .i64 (k : Int)), (6, .ip (Tv x) 0)], [], 0⟩ := by
  have lT := T_len ts
  apply vm_start
  unfold aJ6
  by_cases h1 : 0 < (k : Int)
  · have c1 := grows_spec (ts.getD (k - 1) default) x
    have e1 : ((k : Int) - 1).toNat = k - 1 := by omega
    have w1 : IntKind.i64.wrap ((k : Int) - 1) = (k : Int) - 1 := wi (by omega)
    have g1 := T_kk ts (k - 1) (by omega)
    have e2 : ((Tv x).drop 0).take 3 = Tv x := rfl
    have e3 : (Tv x).length = 3 := rfl
    generalize gapV (ts.getD (k - 1) default) x = gg at *
    have zc3 := c1
    repeat first | (refine hK _ ?_; clear hK K) | simp only [Sv, ↓reduceIte, Nat.reduceEqDiff] | ((first | refine vm_reg (fun K hK => ?_) | refine vm_dreg (fun K hK => ?_) | refine vm_dregx (fun K hK => ?_) | refine clp_q ?_ | refine clq_mk (by assumption) ?_ | refine mcq_q ?_ | (apply mcr_mk; assumption) | (apply ocr_mk; assumption)); simp (disch := (first | omega | assumption)) only [S1, ↓reduceIte, Nat.reduceEqDiff, Nat.reduceAdd, Nat.reduceMul, Nat.reduceDiv, AOp.sb, AOp.mut, frzf, ↓Bool.false_eq_true, beq_self_eq_true, ite_self, Nat.reduceLeDiff, Int.reduceEq, Int.reduceSub, Int.reduceAdd, Int.reduceNeg, Int.reduceLT, Int.reduceLE, Nat.reduceLT, wi, tn_nat, h1, e1, w1, lT, g1, e2, e3])
    exact ⟨rfl, by rw [decide_eq_true (by omega : 0 < k), Bool.true_and]⟩
  · repeat first
      | (refine hK _ ?_; clear hK K)
      | ((first | refine vm_reg (fun K hK => ?_) | refine vm_dreg (fun K hK => ?_) | refine vm_dregx (fun K hK => ?_)); simp (disch := (first | omega | assumption)) only [S1, ↓reduceIte, Nat.reduceEqDiff, Nat.reduceAdd, Nat.reduceMul, Nat.reduceDiv, AOp.sb, AOp.mut, frzf, ↓Bool.false_eq_true, beq_self_eq_true, ite_self, Nat.reduceLeDiff, Int.reduceEq, Int.reduceSub, Int.reduceAdd, Int.reduceNeg, Int.reduceLT, Int.reduceLE, Nat.reduceLT, wi, tn_nat, h1]; refine hK _ ?_; clear hK K)
      | simp only [Sv, ↓reduceIte, Nat.reduceEqDiff]
    exact ⟨rfl, by rw [decide_eq_false (by omega : ¬ 0 < k)]; rfl⟩
end Go.Proofs.Ytjfbkegdnljfjaa
