/-
  surdref02: differences; the law's first check.
-/
import Derived.Test.YtjabgieajkgkfaaRef4
namespace Go.Proofs.Ytjabgieajkgkfaa
open Go Go.RowKit Ab
set_option linter.unusedSimpArgs false
set_option linter.unusedVariables false
set_option maxHeartbeats 10000000


-- surd/surdref02.Sub
def a10 : AC := .seq (.reg [⟨some 4, none, .mv (.k .nl)⟩, 
      ⟨some 5, none, .mv (.k (.i .i64 0))⟩])
  (.seq (.seq (.reg [⟨some 6, none, .mv (.t 0)⟩, 
        ⟨some 7, none, .mv (.t 1)⟩, 
        ⟨some 8, none, .call 18 [(1, (.t 6)), (1, (.t 7))]⟩, 
        ⟨some 9, none, .bin .lss (.t 8) (.k (.i .i64 0))⟩])
    (.cond (.t 9)
    (.seq (.reg [⟨some 4, none, .mv (.k .nl)⟩, 
          ⟨some 5, none, .mv (.k (.i .i64 2))⟩])
      (.ret))
    (.skip)))
  (.seq (.reg [⟨some 10, none, .mv (.t 0)⟩, 
      ⟨some 11, none, .call 39 [(1, (.t 10))]⟩, 
      ⟨some 12, none, .mv (.t 1)⟩, 
      ⟨some 13, none, .call 39 [(1, (.t 12))]⟩, 
      ⟨some 14, none, .call 38 [(1, (.t 11)), (1, (.t 13))]⟩, 
      ⟨some 15, none, .call 37 [(1, (.t 14))]⟩, 
      ⟨some 4, none, .mv (.t 15)⟩, 
      ⟨some 5, none, .mv (.k (.i .i64 0))⟩])
  (.ret)))
theorem rsub_spec (a b : List Nat) (ha : Wd a) (hb : Wd b) (la : a.length ≤ 100000000000) (lb : b.length ≤ 100000000000) :
    AFun Try.prog J0 10 [.l 1 (W a), .l 1 (W b)] (.t [.l 1 (W (if nv B a < nv B b then [] else dg B (nv B a - nv B b))), .i .i64 ((if nv B a < nv B b then 2 else 0 : Nat) : Int)]) := by
  refine AFun.mk fol J0s Try.func10 rfl (ac := a10) (by kernel_rfl) rfl rfl ?_
  apply vm_start
  unfold a10
  by_cases h : nv B a < nv B b
  · repeat first
      | (refine hK _ ?_; clear hK K)
      | ((first | refine vm_reg (fun K hK => ?_) | refine vm_dreg (fun K hK => ?_)); simp (disch := (first | omega | assumption)) only [initS, initE, Sw, Sx, Sb, pure_s2b, ↓reduceIte, Nat.reduceEqDiff, Nat.reduceAdd, Nat.reduceMul, Nat.reduceDiv, AOp.sb, AOp.mut, ↓Bool.false_eq_true, beq_self_eq_true, ite_self, decide_eq_true_eq, decide_true, decide_false, Nat.reduceLeDiff, c0, c1, c2, c3, c13, Int.cast_ofNat_Int, Int.reduceEq, Int.reduceSub, Int.reduceAdd, Int.reduceNeg, Int.reduceLT, Int.reduceLE, Nat.reduceLT, W_len, D_len, Nat.div_one, Nat.mul_one, tn_nat, W_nf, D_nf, W_nil, D_nil, chk_of]; refine hK _ ?_; clear hK K)
      | simp only [Sv, ↓reduceIte, Nat.reduceEqDiff]
    try simp only [Sv, ↓reduceIte, Nat.reduceEqDiff]
    refine vm_reg (fun K hK => ?_)
    simp (disch := (first | omega | assumption)) only [initS, initE, Sw, Sx, Sb, pure_s2b, ↓reduceIte, Nat.reduceEqDiff, Nat.reduceAdd, Nat.reduceMul, Nat.reduceDiv, AOp.sb, AOp.mut, ↓Bool.false_eq_true, beq_self_eq_true, ite_self, decide_eq_true_eq, decide_true, decide_false, Nat.reduceLeDiff, c0, c1, c2, c3, c13, Int.cast_ofNat_Int, Int.reduceEq, Int.reduceSub, Int.reduceAdd, Int.reduceNeg, Int.reduceLT, Int.reduceLE, Nat.reduceLT, W_len, D_len, Nat.div_one, Nat.mul_one, tn_nat, W_nf, D_nf, W_nil, D_nil, chk_of]
    refine clp_mk _ _ ?_ ?_ ?_ (rcmp_spec a b ha hb la lb) ?_
    · simp (disch := (first | omega | assumption)) only [initS, initE, Sw, Sx, Sb, pure_s2b, ↓reduceIte, Nat.reduceEqDiff, Nat.reduceAdd, Nat.reduceMul, Nat.reduceDiv, AOp.sb, AOp.mut, ↓Bool.false_eq_true, beq_self_eq_true, ite_self, decide_eq_true_eq, decide_true, decide_false, Nat.reduceLeDiff, c0, c1, c2, c3, c13, Int.cast_ofNat_Int, Int.reduceEq, Int.reduceSub, Int.reduceAdd, Int.reduceNeg, Int.reduceLT, Int.reduceLE, Nat.reduceLT, W_len, D_len, Nat.div_one, Nat.mul_one, tn_nat, W_nf, D_nf, W_nil, D_nil, chk_of]
    · simp (disch := (first | omega | assumption)) only [initS, initE, Sw, Sx, Sb, pure_s2b, ↓reduceIte, Nat.reduceEqDiff, Nat.reduceAdd, Nat.reduceMul, Nat.reduceDiv, AOp.sb, AOp.mut, ↓Bool.false_eq_true, beq_self_eq_true, ite_self, decide_eq_true_eq, decide_true, decide_false, Nat.reduceLeDiff, c0, c1, c2, c3, c13, Int.cast_ofNat_Int, Int.reduceEq, Int.reduceSub, Int.reduceAdd, Int.reduceNeg, Int.reduceLT, Int.reduceLE, Nat.reduceLT, W_len, D_len, Nat.div_one, Nat.mul_one, tn_nat, W_nf, D_nf, W_nil, D_nil, chk_of]
    · first | rfl | (simp (disch := (first | omega | assumption)) only [initS, initE, Sw, Sx, Sb, pure_s2b, ↓reduceIte, Nat.reduceEqDiff, Nat.reduceAdd, Nat.reduceMul, Nat.reduceDiv, AOp.sb, AOp.mut, ↓Bool.false_eq_true, beq_self_eq_true, ite_self, decide_eq_true_eq, decide_true, decide_false, Nat.reduceLeDiff, c0, c1, c2, c3, c13, Int.cast_ofNat_Int, Int.reduceEq, Int.reduceSub, Int.reduceAdd, Int.reduceNeg, Int.reduceLT, Int.reduceLE, Nat.reduceLT, W_len, D_len, Nat.div_one, Nat.mul_one, tn_nat, W_nf, D_nf, W_nil, D_nil, chk_of])
    simp (disch := (first | omega | assumption)) only [initS, initE, Sw, Sx, Sb, pure_s2b, ↓reduceIte, Nat.reduceEqDiff, Nat.reduceAdd, Nat.reduceMul, Nat.reduceDiv, AOp.sb, AOp.mut, ↓Bool.false_eq_true, beq_self_eq_true, ite_self, decide_eq_true_eq, decide_true, decide_false, Nat.reduceLeDiff, c0, c1, c2, c3, c13, Int.cast_ofNat_Int, Int.reduceEq, Int.reduceSub, Int.reduceAdd, Int.reduceNeg, Int.reduceLT, Int.reduceLE, Nat.reduceLT, W_len, D_len, Nat.div_one, Nat.mul_one, tn_nat, W_nf, D_nf, W_nil, D_nil, chk_of, sg_lt, h]
    refine hK _ ?_
    clear hK K
    repeat first
      | (refine hK _ ?_; clear hK K)
      | ((first | refine vm_reg (fun K hK => ?_) | refine vm_dreg (fun K hK => ?_)); simp (disch := (first | omega | assumption)) only [initS, initE, Sw, Sx, Sb, pure_s2b, ↓reduceIte, Nat.reduceEqDiff, Nat.reduceAdd, Nat.reduceMul, Nat.reduceDiv, AOp.sb, AOp.mut, ↓Bool.false_eq_true, beq_self_eq_true, ite_self, decide_eq_true_eq, decide_true, decide_false, Nat.reduceLeDiff, c0, c1, c2, c3, c13, Int.cast_ofNat_Int, Int.reduceEq, Int.reduceSub, Int.reduceAdd, Int.reduceNeg, Int.reduceLT, Int.reduceLE, Nat.reduceLT, W_len, D_len, Nat.div_one, Nat.mul_one, tn_nat, W_nf, D_nf, W_nil, D_nil, chk_of]; refine hK _ ?_; clear hK K)
      | simp only [Sv, ↓reduceIte, Nat.reduceEqDiff]
    simp (disch := (first | omega | assumption)) only [retOk, retN, ret1, V.okArg, and_true, true_and, initS, initE, Sw, Sx, Sb, pure_s2b, ↓reduceIte, Nat.reduceEqDiff, Nat.reduceAdd, Nat.reduceMul, Nat.reduceDiv, AOp.sb, AOp.mut, ↓Bool.false_eq_true, beq_self_eq_true, ite_self, decide_eq_true_eq, decide_true, decide_false, Nat.reduceLeDiff, c0, c1, c2, c3, c13, Int.cast_ofNat_Int, Int.reduceEq, Int.reduceSub, Int.reduceAdd, Int.reduceNeg, Int.reduceLT, Int.reduceLE, Nat.reduceLT, W_len, D_len, Nat.div_one, Nat.mul_one, tn_nat, W_nf, D_nf, W_nil, D_nil, chk_of, h]
  · repeat first
      | (refine hK _ ?_; clear hK K)
      | ((first | refine vm_reg (fun K hK => ?_) | refine vm_dreg (fun K hK => ?_)); simp (disch := (first | omega | assumption)) only [initS, initE, Sw, Sx, Sb, pure_s2b, ↓reduceIte, Nat.reduceEqDiff, Nat.reduceAdd, Nat.reduceMul, Nat.reduceDiv, AOp.sb, AOp.mut, ↓Bool.false_eq_true, beq_self_eq_true, ite_self, decide_eq_true_eq, decide_true, decide_false, Nat.reduceLeDiff, c0, c1, c2, c3, c13, Int.cast_ofNat_Int, Int.reduceEq, Int.reduceSub, Int.reduceAdd, Int.reduceNeg, Int.reduceLT, Int.reduceLE, Nat.reduceLT, W_len, D_len, Nat.div_one, Nat.mul_one, tn_nat, W_nf, D_nf, W_nil, D_nil, chk_of]; refine hK _ ?_; clear hK K)
      | simp only [Sv, ↓reduceIte, Nat.reduceEqDiff]
    try simp only [Sv, ↓reduceIte, Nat.reduceEqDiff]
    refine vm_reg (fun K hK => ?_)
    simp (disch := (first | omega | assumption)) only [initS, initE, Sw, Sx, Sb, pure_s2b, ↓reduceIte, Nat.reduceEqDiff, Nat.reduceAdd, Nat.reduceMul, Nat.reduceDiv, AOp.sb, AOp.mut, ↓Bool.false_eq_true, beq_self_eq_true, ite_self, decide_eq_true_eq, decide_true, decide_false, Nat.reduceLeDiff, c0, c1, c2, c3, c13, Int.cast_ofNat_Int, Int.reduceEq, Int.reduceSub, Int.reduceAdd, Int.reduceNeg, Int.reduceLT, Int.reduceLE, Nat.reduceLT, W_len, D_len, Nat.div_one, Nat.mul_one, tn_nat, W_nf, D_nf, W_nil, D_nil, chk_of]
    refine clp_mk _ _ ?_ ?_ ?_ (rcmp_spec a b ha hb la lb) ?_
    · simp (disch := (first | omega | assumption)) only [initS, initE, Sw, Sx, Sb, pure_s2b, ↓reduceIte, Nat.reduceEqDiff, Nat.reduceAdd, Nat.reduceMul, Nat.reduceDiv, AOp.sb, AOp.mut, ↓Bool.false_eq_true, beq_self_eq_true, ite_self, decide_eq_true_eq, decide_true, decide_false, Nat.reduceLeDiff, c0, c1, c2, c3, c13, Int.cast_ofNat_Int, Int.reduceEq, Int.reduceSub, Int.reduceAdd, Int.reduceNeg, Int.reduceLT, Int.reduceLE, Nat.reduceLT, W_len, D_len, Nat.div_one, Nat.mul_one, tn_nat, W_nf, D_nf, W_nil, D_nil, chk_of]
    · simp (disch := (first | omega | assumption)) only [initS, initE, Sw, Sx, Sb, pure_s2b, ↓reduceIte, Nat.reduceEqDiff, Nat.reduceAdd, Nat.reduceMul, Nat.reduceDiv, AOp.sb, AOp.mut, ↓Bool.false_eq_true, beq_self_eq_true, ite_self, decide_eq_true_eq, decide_true, decide_false, Nat.reduceLeDiff, c0, c1, c2, c3, c13, Int.cast_ofNat_Int, Int.reduceEq, Int.reduceSub, Int.reduceAdd, Int.reduceNeg, Int.reduceLT, Int.reduceLE, Nat.reduceLT, W_len, D_len, Nat.div_one, Nat.mul_one, tn_nat, W_nf, D_nf, W_nil, D_nil, chk_of]
    · first | rfl | (simp (disch := (first | omega | assumption)) only [initS, initE, Sw, Sx, Sb, pure_s2b, ↓reduceIte, Nat.reduceEqDiff, Nat.reduceAdd, Nat.reduceMul, Nat.reduceDiv, AOp.sb, AOp.mut, ↓Bool.false_eq_true, beq_self_eq_true, ite_self, decide_eq_true_eq, decide_true, decide_false, Nat.reduceLeDiff, c0, c1, c2, c3, c13, Int.cast_ofNat_Int, Int.reduceEq, Int.reduceSub, Int.reduceAdd, Int.reduceNeg, Int.reduceLT, Int.reduceLE, Nat.reduceLT, W_len, D_len, Nat.div_one, Nat.mul_one, tn_nat, W_nf, D_nf, W_nil, D_nil, chk_of])
    simp (disch := (first | omega | assumption)) only [initS, initE, Sw, Sx, Sb, pure_s2b, ↓reduceIte, Nat.reduceEqDiff, Nat.reduceAdd, Nat.reduceMul, Nat.reduceDiv, AOp.sb, AOp.mut, ↓Bool.false_eq_true, beq_self_eq_true, ite_self, decide_eq_true_eq, decide_true, decide_false, Nat.reduceLeDiff, c0, c1, c2, c3, c13, Int.cast_ofNat_Int, Int.reduceEq, Int.reduceSub, Int.reduceAdd, Int.reduceNeg, Int.reduceLT, Int.reduceLE, Nat.reduceLT, W_len, D_len, Nat.div_one, Nat.mul_one, tn_nat, W_nf, D_nf, W_nil, D_nil, chk_of, sg_lt, h]
    refine hK _ ?_
    clear hK K
    repeat first
      | (refine hK _ ?_; clear hK K)
      | ((first | refine vm_reg (fun K hK => ?_) | refine vm_dreg (fun K hK => ?_)); simp (disch := (first | omega | assumption)) only [initS, initE, Sw, Sx, Sb, pure_s2b, ↓reduceIte, Nat.reduceEqDiff, Nat.reduceAdd, Nat.reduceMul, Nat.reduceDiv, AOp.sb, AOp.mut, ↓Bool.false_eq_true, beq_self_eq_true, ite_self, decide_eq_true_eq, decide_true, decide_false, Nat.reduceLeDiff, c0, c1, c2, c3, c13, Int.cast_ofNat_Int, Int.reduceEq, Int.reduceSub, Int.reduceAdd, Int.reduceNeg, Int.reduceLT, Int.reduceLE, Nat.reduceLT, W_len, D_len, Nat.div_one, Nat.mul_one, tn_nat, W_nf, D_nf, W_nil, D_nil, chk_of]; refine hK _ ?_; clear hK K)
      | simp only [Sv, ↓reduceIte, Nat.reduceEqDiff]
    obtain ⟨x, hx⟩ : ∃ x, x = dg 256 (nv B a) := ⟨_, rfl⟩
    obtain ⟨y, hy⟩ : ∃ y, y = dg 256 (nv B b) := ⟨_, rfl⟩
    have hla := dg256_len ha
    have ea := nv_dg D2 (nv B a)
    have eb := nv_dg D2 (nv B b)
    have kx : Lt 256 x := by rw [hx]; exact dg_Lt (by decide) _
    have ky : Lt 256 y := by rw [hy]; exact dg_Lt (by decide) _
    have ty : tz y = y := by rw [hy]; exact tz_dg' _
    rw [← hx] at hla ea
    rw [← hy] at eb
    have sv : nv 256 (fl 256 x.length (nv 256 x + 256 ^ x.length - nv 256 (y.take x.length))) = nv B a - nv B b := by rw [sub_val kx ky (by omega) ty, ea, eb]
    try simp only [Sv, ↓reduceIte, Nat.reduceEqDiff]
    refine vm_reg (fun K hK => ?_)
    simp (disch := (first | omega | assumption)) only [initS, initE, Sw, Sx, Sb, pure_s2b, ↓reduceIte, Nat.reduceEqDiff, Nat.reduceAdd, Nat.reduceMul, Nat.reduceDiv, AOp.sb, AOp.mut, ↓Bool.false_eq_true, beq_self_eq_true, ite_self, decide_eq_true_eq, decide_true, decide_false, Nat.reduceLeDiff, c0, c1, c2, c3, c13, Int.cast_ofNat_Int, Int.reduceEq, Int.reduceSub, Int.reduceAdd, Int.reduceNeg, Int.reduceLT, Int.reduceLE, Nat.reduceLT, W_len, D_len, Nat.div_one, Nat.mul_one, tn_nat, W_nf, D_nf, W_nil, D_nil, chk_of]
    refine clp_mk _ _ ?_ ?_ ?_ (digits_spec a ha (by omega)) ?_
    · simp (disch := (first | omega | assumption)) only [initS, initE, Sw, Sx, Sb, pure_s2b, ↓reduceIte, Nat.reduceEqDiff, Nat.reduceAdd, Nat.reduceMul, Nat.reduceDiv, AOp.sb, AOp.mut, ↓Bool.false_eq_true, beq_self_eq_true, ite_self, decide_eq_true_eq, decide_true, decide_false, Nat.reduceLeDiff, c0, c1, c2, c3, c13, Int.cast_ofNat_Int, Int.reduceEq, Int.reduceSub, Int.reduceAdd, Int.reduceNeg, Int.reduceLT, Int.reduceLE, Nat.reduceLT, W_len, D_len, Nat.div_one, Nat.mul_one, tn_nat, W_nf, D_nf, W_nil, D_nil, chk_of]
    · simp (disch := (first | omega | assumption)) only [initS, initE, Sw, Sx, Sb, pure_s2b, ↓reduceIte, Nat.reduceEqDiff, Nat.reduceAdd, Nat.reduceMul, Nat.reduceDiv, AOp.sb, AOp.mut, ↓Bool.false_eq_true, beq_self_eq_true, ite_self, decide_eq_true_eq, decide_true, decide_false, Nat.reduceLeDiff, c0, c1, c2, c3, c13, Int.cast_ofNat_Int, Int.reduceEq, Int.reduceSub, Int.reduceAdd, Int.reduceNeg, Int.reduceLT, Int.reduceLE, Nat.reduceLT, W_len, D_len, Nat.div_one, Nat.mul_one, tn_nat, W_nf, D_nf, W_nil, D_nil, chk_of]
    · first | rfl | (simp (disch := (first | omega | assumption)) only [initS, initE, Sw, Sx, Sb, pure_s2b, ↓reduceIte, Nat.reduceEqDiff, Nat.reduceAdd, Nat.reduceMul, Nat.reduceDiv, AOp.sb, AOp.mut, ↓Bool.false_eq_true, beq_self_eq_true, ite_self, decide_eq_true_eq, decide_true, decide_false, Nat.reduceLeDiff, c0, c1, c2, c3, c13, Int.cast_ofNat_Int, Int.reduceEq, Int.reduceSub, Int.reduceAdd, Int.reduceNeg, Int.reduceLT, Int.reduceLE, Nat.reduceLT, W_len, D_len, Nat.div_one, Nat.mul_one, tn_nat, W_nf, D_nf, W_nil, D_nil, chk_of])
    simp only [← hx]
    simp (disch := (first | omega | assumption)) only [initS, initE, Sw, Sx, Sb, pure_s2b, ↓reduceIte, Nat.reduceEqDiff, Nat.reduceAdd, Nat.reduceMul, Nat.reduceDiv, AOp.sb, AOp.mut, ↓Bool.false_eq_true, beq_self_eq_true, ite_self, decide_eq_true_eq, decide_true, decide_false, Nat.reduceLeDiff, c0, c1, c2, c3, c13, Int.cast_ofNat_Int, Int.reduceEq, Int.reduceSub, Int.reduceAdd, Int.reduceNeg, Int.reduceLT, Int.reduceLE, Nat.reduceLT, W_len, D_len, Nat.div_one, Nat.mul_one, tn_nat, W_nf, D_nf, W_nil, D_nil, chk_of]
    refine clp_mk _ _ ?_ ?_ ?_ (digits_spec b hb (by omega)) ?_
    · simp (disch := (first | omega | assumption)) only [initS, initE, Sw, Sx, Sb, pure_s2b, ↓reduceIte, Nat.reduceEqDiff, Nat.reduceAdd, Nat.reduceMul, Nat.reduceDiv, AOp.sb, AOp.mut, ↓Bool.false_eq_true, beq_self_eq_true, ite_self, decide_eq_true_eq, decide_true, decide_false, Nat.reduceLeDiff, c0, c1, c2, c3, c13, Int.cast_ofNat_Int, Int.reduceEq, Int.reduceSub, Int.reduceAdd, Int.reduceNeg, Int.reduceLT, Int.reduceLE, Nat.reduceLT, W_len, D_len, Nat.div_one, Nat.mul_one, tn_nat, W_nf, D_nf, W_nil, D_nil, chk_of]
    · simp (disch := (first | omega | assumption)) only [initS, initE, Sw, Sx, Sb, pure_s2b, ↓reduceIte, Nat.reduceEqDiff, Nat.reduceAdd, Nat.reduceMul, Nat.reduceDiv, AOp.sb, AOp.mut, ↓Bool.false_eq_true, beq_self_eq_true, ite_self, decide_eq_true_eq, decide_true, decide_false, Nat.reduceLeDiff, c0, c1, c2, c3, c13, Int.cast_ofNat_Int, Int.reduceEq, Int.reduceSub, Int.reduceAdd, Int.reduceNeg, Int.reduceLT, Int.reduceLE, Nat.reduceLT, W_len, D_len, Nat.div_one, Nat.mul_one, tn_nat, W_nf, D_nf, W_nil, D_nil, chk_of]
    · first | rfl | (simp (disch := (first | omega | assumption)) only [initS, initE, Sw, Sx, Sb, pure_s2b, ↓reduceIte, Nat.reduceEqDiff, Nat.reduceAdd, Nat.reduceMul, Nat.reduceDiv, AOp.sb, AOp.mut, ↓Bool.false_eq_true, beq_self_eq_true, ite_self, decide_eq_true_eq, decide_true, decide_false, Nat.reduceLeDiff, c0, c1, c2, c3, c13, Int.cast_ofNat_Int, Int.reduceEq, Int.reduceSub, Int.reduceAdd, Int.reduceNeg, Int.reduceLT, Int.reduceLE, Nat.reduceLT, W_len, D_len, Nat.div_one, Nat.mul_one, tn_nat, W_nf, D_nf, W_nil, D_nil, chk_of])
    simp only [← hy]
    simp (disch := (first | omega | assumption)) only [initS, initE, Sw, Sx, Sb, pure_s2b, ↓reduceIte, Nat.reduceEqDiff, Nat.reduceAdd, Nat.reduceMul, Nat.reduceDiv, AOp.sb, AOp.mut, ↓Bool.false_eq_true, beq_self_eq_true, ite_self, decide_eq_true_eq, decide_true, decide_false, Nat.reduceLeDiff, c0, c1, c2, c3, c13, Int.cast_ofNat_Int, Int.reduceEq, Int.reduceSub, Int.reduceAdd, Int.reduceNeg, Int.reduceLT, Int.reduceLE, Nat.reduceLT, W_len, D_len, Nat.div_one, Nat.mul_one, tn_nat, W_nf, D_nf, W_nil, D_nil, chk_of]
    refine clp_mk _ _ ?_ ?_ ?_ (dsub_spec x y kx ky (by omega)) ?_
    · simp (disch := (first | omega | assumption)) only [initS, initE, Sw, Sx, Sb, pure_s2b, ↓reduceIte, Nat.reduceEqDiff, Nat.reduceAdd, Nat.reduceMul, Nat.reduceDiv, AOp.sb, AOp.mut, ↓Bool.false_eq_true, beq_self_eq_true, ite_self, decide_eq_true_eq, decide_true, decide_false, Nat.reduceLeDiff, c0, c1, c2, c3, c13, Int.cast_ofNat_Int, Int.reduceEq, Int.reduceSub, Int.reduceAdd, Int.reduceNeg, Int.reduceLT, Int.reduceLE, Nat.reduceLT, W_len, D_len, Nat.div_one, Nat.mul_one, tn_nat, W_nf, D_nf, W_nil, D_nil, chk_of]
    · simp (disch := (first | omega | assumption)) only [initS, initE, Sw, Sx, Sb, pure_s2b, ↓reduceIte, Nat.reduceEqDiff, Nat.reduceAdd, Nat.reduceMul, Nat.reduceDiv, AOp.sb, AOp.mut, ↓Bool.false_eq_true, beq_self_eq_true, ite_self, decide_eq_true_eq, decide_true, decide_false, Nat.reduceLeDiff, c0, c1, c2, c3, c13, Int.cast_ofNat_Int, Int.reduceEq, Int.reduceSub, Int.reduceAdd, Int.reduceNeg, Int.reduceLT, Int.reduceLE, Nat.reduceLT, W_len, D_len, Nat.div_one, Nat.mul_one, tn_nat, W_nf, D_nf, W_nil, D_nil, chk_of]
    · first | rfl | (simp (disch := (first | omega | assumption)) only [initS, initE, Sw, Sx, Sb, pure_s2b, ↓reduceIte, Nat.reduceEqDiff, Nat.reduceAdd, Nat.reduceMul, Nat.reduceDiv, AOp.sb, AOp.mut, ↓Bool.false_eq_true, beq_self_eq_true, ite_self, decide_eq_true_eq, decide_true, decide_false, Nat.reduceLeDiff, c0, c1, c2, c3, c13, Int.cast_ofNat_Int, Int.reduceEq, Int.reduceSub, Int.reduceAdd, Int.reduceNeg, Int.reduceLT, Int.reduceLE, Nat.reduceLT, W_len, D_len, Nat.div_one, Nat.mul_one, tn_nat, W_nf, D_nf, W_nil, D_nil, chk_of])
    simp (disch := (first | omega | assumption)) only [initS, initE, Sw, Sx, Sb, pure_s2b, ↓reduceIte, Nat.reduceEqDiff, Nat.reduceAdd, Nat.reduceMul, Nat.reduceDiv, AOp.sb, AOp.mut, ↓Bool.false_eq_true, beq_self_eq_true, ite_self, decide_eq_true_eq, decide_true, decide_false, Nat.reduceLeDiff, c0, c1, c2, c3, c13, Int.cast_ofNat_Int, Int.reduceEq, Int.reduceSub, Int.reduceAdd, Int.reduceNeg, Int.reduceLT, Int.reduceLE, Nat.reduceLT, W_len, D_len, Nat.div_one, Nat.mul_one, tn_nat, W_nf, D_nf, W_nil, D_nil, chk_of]
    refine clp_mk _ _ ?_ ?_ ?_ (of_spec (fl 256 x.length (nv 256 x + 256 ^ x.length - nv 256 (y.take x.length))) (fl_Lt (by decide) _ _) (by rw [fl_len]; omega)) ?_
    · simp (disch := (first | omega | assumption)) only [initS, initE, Sw, Sx, Sb, pure_s2b, ↓reduceIte, Nat.reduceEqDiff, Nat.reduceAdd, Nat.reduceMul, Nat.reduceDiv, AOp.sb, AOp.mut, ↓Bool.false_eq_true, beq_self_eq_true, ite_self, decide_eq_true_eq, decide_true, decide_false, Nat.reduceLeDiff, c0, c1, c2, c3, c13, Int.cast_ofNat_Int, Int.reduceEq, Int.reduceSub, Int.reduceAdd, Int.reduceNeg, Int.reduceLT, Int.reduceLE, Nat.reduceLT, W_len, D_len, Nat.div_one, Nat.mul_one, tn_nat, W_nf, D_nf, W_nil, D_nil, chk_of]
    · simp (disch := (first | omega | assumption)) only [initS, initE, Sw, Sx, Sb, pure_s2b, ↓reduceIte, Nat.reduceEqDiff, Nat.reduceAdd, Nat.reduceMul, Nat.reduceDiv, AOp.sb, AOp.mut, ↓Bool.false_eq_true, beq_self_eq_true, ite_self, decide_eq_true_eq, decide_true, decide_false, Nat.reduceLeDiff, c0, c1, c2, c3, c13, Int.cast_ofNat_Int, Int.reduceEq, Int.reduceSub, Int.reduceAdd, Int.reduceNeg, Int.reduceLT, Int.reduceLE, Nat.reduceLT, W_len, D_len, Nat.div_one, Nat.mul_one, tn_nat, W_nf, D_nf, W_nil, D_nil, chk_of]
    · first | rfl | (simp (disch := (first | omega | assumption)) only [initS, initE, Sw, Sx, Sb, pure_s2b, ↓reduceIte, Nat.reduceEqDiff, Nat.reduceAdd, Nat.reduceMul, Nat.reduceDiv, AOp.sb, AOp.mut, ↓Bool.false_eq_true, beq_self_eq_true, ite_self, decide_eq_true_eq, decide_true, decide_false, Nat.reduceLeDiff, c0, c1, c2, c3, c13, Int.cast_ofNat_Int, Int.reduceEq, Int.reduceSub, Int.reduceAdd, Int.reduceNeg, Int.reduceLT, Int.reduceLE, Nat.reduceLT, W_len, D_len, Nat.div_one, Nat.mul_one, tn_nat, W_nf, D_nf, W_nil, D_nil, chk_of])
    simp (disch := (first | omega | assumption)) only [initS, initE, Sw, Sx, Sb, pure_s2b, ↓reduceIte, Nat.reduceEqDiff, Nat.reduceAdd, Nat.reduceMul, Nat.reduceDiv, AOp.sb, AOp.mut, ↓Bool.false_eq_true, beq_self_eq_true, ite_self, decide_eq_true_eq, decide_true, decide_false, Nat.reduceLeDiff, c0, c1, c2, c3, c13, Int.cast_ofNat_Int, Int.reduceEq, Int.reduceSub, Int.reduceAdd, Int.reduceNeg, Int.reduceLT, Int.reduceLE, Nat.reduceLT, W_len, D_len, Nat.div_one, Nat.mul_one, tn_nat, W_nf, D_nf, W_nil, D_nil, chk_of, sv]
    refine hK _ ?_
    clear hK K
    repeat first
      | (refine hK _ ?_; clear hK K)
      | ((first | refine vm_reg (fun K hK => ?_) | refine vm_dreg (fun K hK => ?_)); simp (disch := (first | omega | assumption)) only [initS, initE, Sw, Sx, Sb, pure_s2b, ↓reduceIte, Nat.reduceEqDiff, Nat.reduceAdd, Nat.reduceMul, Nat.reduceDiv, AOp.sb, AOp.mut, ↓Bool.false_eq_true, beq_self_eq_true, ite_self, decide_eq_true_eq, decide_true, decide_false, Nat.reduceLeDiff, c0, c1, c2, c3, c13, Int.cast_ofNat_Int, Int.reduceEq, Int.reduceSub, Int.reduceAdd, Int.reduceNeg, Int.reduceLT, Int.reduceLE, Nat.reduceLT, W_len, D_len, Nat.div_one, Nat.mul_one, tn_nat, W_nf, D_nf, W_nil, D_nil, chk_of]; refine hK _ ?_; clear hK K)
      | simp only [Sv, ↓reduceIte, Nat.reduceEqDiff]
    simp (disch := (first | omega | assumption)) only [retOk, retN, ret1, V.okArg, and_true, true_and, initS, initE, Sw, Sx, Sb, pure_s2b, ↓reduceIte, Nat.reduceEqDiff, Nat.reduceAdd, Nat.reduceMul, Nat.reduceDiv, AOp.sb, AOp.mut, ↓Bool.false_eq_true, beq_self_eq_true, ite_self, decide_eq_true_eq, decide_true, decide_false, Nat.reduceLeDiff, c0, c1, c2, c3, c13, Int.cast_ofNat_Int, Int.reduceEq, Int.reduceSub, Int.reduceAdd, Int.reduceNeg, Int.reduceLT, Int.reduceLE, Nat.reduceLT, W_len, D_len, Nat.div_one, Nat.mul_one, tn_nat, W_nf, D_nf, W_nil, D_nil, chk_of, h]

-- surd/surdref02.Diff
def a12 : AC := .seq (.reg [⟨some 4, none, .mv (.k .nl)⟩, 
      ⟨some 5, none, .mv (.k (.b false))⟩])
  (.seq (.seq (.reg [⟨some 6, none, .mv (.t 0)⟩, 
        ⟨some 7, none, .mv (.t 1)⟩, 
        ⟨some 8, none, .call 18 [(1, (.t 6)), (1, (.t 7))]⟩, 
        ⟨some 9, none, .bin .lss (.t 8) (.k (.i .i64 0))⟩])
    (.cond (.t 9)
    (.seq (.reg [⟨some 10, none, .mv (.t 1)⟩, 
          ⟨some 11, none, .call 39 [(1, (.t 10))]⟩, 
          ⟨some 12, none, .mv (.t 0)⟩, 
          ⟨some 13, none, .call 39 [(1, (.t 12))]⟩, 
          ⟨some 14, none, .call 38 [(1, (.t 11)), (1, (.t 13))]⟩, 
          ⟨some 15, none, .call 37 [(1, (.t 14))]⟩, 
          ⟨some 4, none, .mv (.t 15)⟩, 
          ⟨some 5, none, .mv (.k (.b true))⟩])
      (.ret))
    (.skip)))
  (.seq (.reg [⟨some 16, none, .mv (.t 0)⟩, 
      ⟨some 17, none, .call 39 [(1, (.t 16))]⟩, 
      ⟨some 18, none, .mv (.t 1)⟩, 
      ⟨some 19, none, .call 39 [(1, (.t 18))]⟩, 
      ⟨some 20, none, .call 38 [(1, (.t 17)), (1, (.t 19))]⟩, 
      ⟨some 21, none, .call 37 [(1, (.t 20))]⟩, 
      ⟨some 4, none, .mv (.t 21)⟩, 
      ⟨some 5, none, .mv (.k (.b false))⟩])
  (.ret)))
theorem rdiff_spec (a b : List Nat) (ha : Wd a) (hb : Wd b) (la : a.length ≤ 100000000000) (lb : b.length ≤ 100000000000) :
    AFun Try.prog J0 12 [.l 1 (W a), .l 1 (W b)] (.t [.l 1 (W (if nv B a < nv B b then dg B (nv B b - nv B a) else dg B (nv B a - nv B b))), .b (decide (nv B a < nv B b))]) := by
  refine AFun.mk fol J0s Try.func12 rfl (ac := a12) (by kernel_rfl) rfl rfl ?_
  apply vm_start
  unfold a12
  by_cases h : nv B a < nv B b
  · repeat first
      | (refine hK _ ?_; clear hK K)
      | ((first | refine vm_reg (fun K hK => ?_) | refine vm_dreg (fun K hK => ?_)); simp (disch := (first | omega | assumption)) only [initS, initE, Sw, Sx, Sb, pure_s2b, ↓reduceIte, Nat.reduceEqDiff, Nat.reduceAdd, Nat.reduceMul, Nat.reduceDiv, AOp.sb, AOp.mut, ↓Bool.false_eq_true, beq_self_eq_true, ite_self, decide_eq_true_eq, decide_true, decide_false, Nat.reduceLeDiff, c0, c1, c2, c3, c13, Int.cast_ofNat_Int, Int.reduceEq, Int.reduceSub, Int.reduceAdd, Int.reduceNeg, Int.reduceLT, Int.reduceLE, Nat.reduceLT, W_len, D_len, Nat.div_one, Nat.mul_one, tn_nat, W_nf, D_nf, W_nil, D_nil, chk_of]; refine hK _ ?_; clear hK K)
      | simp only [Sv, ↓reduceIte, Nat.reduceEqDiff]
    try simp only [Sv, ↓reduceIte, Nat.reduceEqDiff]
    refine vm_reg (fun K hK => ?_)
    simp (disch := (first | omega | assumption)) only [initS, initE, Sw, Sx, Sb, pure_s2b, ↓reduceIte, Nat.reduceEqDiff, Nat.reduceAdd, Nat.reduceMul, Nat.reduceDiv, AOp.sb, AOp.mut, ↓Bool.false_eq_true, beq_self_eq_true, ite_self, decide_eq_true_eq, decide_true, decide_false, Nat.reduceLeDiff, c0, c1, c2, c3, c13, Int.cast_ofNat_Int, Int.reduceEq, Int.reduceSub, Int.reduceAdd, Int.reduceNeg, Int.reduceLT, Int.reduceLE, Nat.reduceLT, W_len, D_len, Nat.div_one, Nat.mul_one, tn_nat, W_nf, D_nf, W_nil, D_nil, chk_of]
    refine clp_mk _ _ ?_ ?_ ?_ (rcmp_spec a b ha hb la lb) ?_
    · simp (disch := (first | omega | assumption)) only [initS, initE, Sw, Sx, Sb, pure_s2b, ↓reduceIte, Nat.reduceEqDiff, Nat.reduceAdd, Nat.reduceMul, Nat.reduceDiv, AOp.sb, AOp.mut, ↓Bool.false_eq_true, beq_self_eq_true, ite_self, decide_eq_true_eq, decide_true, decide_false, Nat.reduceLeDiff, c0, c1, c2, c3, c13, Int.cast_ofNat_Int, Int.reduceEq, Int.reduceSub, Int.reduceAdd, Int.reduceNeg, Int.reduceLT, Int.reduceLE, Nat.reduceLT, W_len, D_len, Nat.div_one, Nat.mul_one, tn_nat, W_nf, D_nf, W_nil, D_nil, chk_of]
    · simp (disch := (first | omega | assumption)) only [initS, initE, Sw, Sx, Sb, pure_s2b, ↓reduceIte, Nat.reduceEqDiff, Nat.reduceAdd, Nat.reduceMul, Nat.reduceDiv, AOp.sb, AOp.mut, ↓Bool.false_eq_true, beq_self_eq_true, ite_self, decide_eq_true_eq, decide_true, decide_false, Nat.reduceLeDiff, c0, c1, c2, c3, c13, Int.cast_ofNat_Int, Int.reduceEq, Int.reduceSub, Int.reduceAdd, Int.reduceNeg, Int.reduceLT, Int.reduceLE, Nat.reduceLT, W_len, D_len, Nat.div_one, Nat.mul_one, tn_nat, W_nf, D_nf, W_nil, D_nil, chk_of]
    · first | rfl | (simp (disch := (first | omega | assumption)) only [initS, initE, Sw, Sx, Sb, pure_s2b, ↓reduceIte, Nat.reduceEqDiff, Nat.reduceAdd, Nat.reduceMul, Nat.reduceDiv, AOp.sb, AOp.mut, ↓Bool.false_eq_true, beq_self_eq_true, ite_self, decide_eq_true_eq, decide_true, decide_false, Nat.reduceLeDiff, c0, c1, c2, c3, c13, Int.cast_ofNat_Int, Int.reduceEq, Int.reduceSub, Int.reduceAdd, Int.reduceNeg, Int.reduceLT, Int.reduceLE, Nat.reduceLT, W_len, D_len, Nat.div_one, Nat.mul_one, tn_nat, W_nf, D_nf, W_nil, D_nil, chk_of])
    simp (disch := (first | omega | assumption)) only [initS, initE, Sw, Sx, Sb, pure_s2b, ↓reduceIte, Nat.reduceEqDiff, Nat.reduceAdd, Nat.reduceMul, Nat.reduceDiv, AOp.sb, AOp.mut, ↓Bool.false_eq_true, beq_self_eq_true, ite_self, decide_eq_true_eq, decide_true, decide_false, Nat.reduceLeDiff, c0, c1, c2, c3, c13, Int.cast_ofNat_Int, Int.reduceEq, Int.reduceSub, Int.reduceAdd, Int.reduceNeg, Int.reduceLT, Int.reduceLE, Nat.reduceLT, W_len, D_len, Nat.div_one, Nat.mul_one, tn_nat, W_nf, D_nf, W_nil, D_nil, chk_of, sg_lt, h]
    refine hK _ ?_
    clear hK K
    repeat first
      | (refine hK _ ?_; clear hK K)
      | ((first | refine vm_reg (fun K hK => ?_) | refine vm_dreg (fun K hK => ?_)); simp (disch := (first | omega | assumption)) only [initS, initE, Sw, Sx, Sb, pure_s2b, ↓reduceIte, Nat.reduceEqDiff, Nat.reduceAdd, Nat.reduceMul, Nat.reduceDiv, AOp.sb, AOp.mut, ↓Bool.false_eq_true, beq_self_eq_true, ite_self, decide_eq_true_eq, decide_true, decide_false, Nat.reduceLeDiff, c0, c1, c2, c3, c13, Int.cast_ofNat_Int, Int.reduceEq, Int.reduceSub, Int.reduceAdd, Int.reduceNeg, Int.reduceLT, Int.reduceLE, Nat.reduceLT, W_len, D_len, Nat.div_one, Nat.mul_one, tn_nat, W_nf, D_nf, W_nil, D_nil, chk_of]; refine hK _ ?_; clear hK K)
      | simp only [Sv, ↓reduceIte, Nat.reduceEqDiff]
    obtain ⟨x, hx⟩ : ∃ x, x = dg 256 (nv B b) := ⟨_, rfl⟩
    obtain ⟨y, hy⟩ : ∃ y, y = dg 256 (nv B a) := ⟨_, rfl⟩
    have hla := dg256_len hb
    have ea := nv_dg D2 (nv B b)
    have eb := nv_dg D2 (nv B a)
    have kx : Lt 256 x := by rw [hx]; exact dg_Lt (by decide) _
    have ky : Lt 256 y := by rw [hy]; exact dg_Lt (by decide) _
    have ty : tz y = y := by rw [hy]; exact tz_dg' _
    rw [← hx] at hla ea
    rw [← hy] at eb
    have sv : nv 256 (fl 256 x.length (nv 256 x + 256 ^ x.length - nv 256 (y.take x.length))) = nv B b - nv B a := by rw [sub_val kx ky (by omega) ty, ea, eb]
    try simp only [Sv, ↓reduceIte, Nat.reduceEqDiff]
    refine vm_reg (fun K hK => ?_)
    simp (disch := (first | omega | assumption)) only [initS, initE, Sw, Sx, Sb, pure_s2b, ↓reduceIte, Nat.reduceEqDiff, Nat.reduceAdd, Nat.reduceMul, Nat.reduceDiv, AOp.sb, AOp.mut, ↓Bool.false_eq_true, beq_self_eq_true, ite_self, decide_eq_true_eq, decide_true, decide_false, Nat.reduceLeDiff, c0, c1, c2, c3, c13, Int.cast_ofNat_Int, Int.reduceEq, Int.reduceSub, Int.reduceAdd, Int.reduceNeg, Int.reduceLT, Int.reduceLE, Nat.reduceLT, W_len, D_len, Nat.div_one, Nat.mul_one, tn_nat, W_nf, D_nf, W_nil, D_nil, chk_of]
    refine clp_mk _ _ ?_ ?_ ?_ (digits_spec b hb (by omega)) ?_
    · simp (disch := (first | omega | assumption)) only [initS, initE, Sw, Sx, Sb, pure_s2b, ↓reduceIte, Nat.reduceEqDiff, Nat.reduceAdd, Nat.reduceMul, Nat.reduceDiv, AOp.sb, AOp.mut, ↓Bool.false_eq_true, beq_self_eq_true, ite_self, decide_eq_true_eq, decide_true, decide_false, Nat.reduceLeDiff, c0, c1, c2, c3, c13, Int.cast_ofNat_Int, Int.reduceEq, Int.reduceSub, Int.reduceAdd, Int.reduceNeg, Int.reduceLT, Int.reduceLE, Nat.reduceLT, W_len, D_len, Nat.div_one, Nat.mul_one, tn_nat, W_nf, D_nf, W_nil, D_nil, chk_of]
    · simp (disch := (first | omega | assumption)) only [initS, initE, Sw, Sx, Sb, pure_s2b, ↓reduceIte, Nat.reduceEqDiff, Nat.reduceAdd, Nat.reduceMul, Nat.reduceDiv, AOp.sb, AOp.mut, ↓Bool.false_eq_true, beq_self_eq_true, ite_self, decide_eq_true_eq, decide_true, decide_false, Nat.reduceLeDiff, c0, c1, c2, c3, c13, Int.cast_ofNat_Int, Int.reduceEq, Int.reduceSub, Int.reduceAdd, Int.reduceNeg, Int.reduceLT, Int.reduceLE, Nat.reduceLT, W_len, D_len, Nat.div_one, Nat.mul_one, tn_nat, W_nf, D_nf, W_nil, D_nil, chk_of]
    · first | rfl | (simp (disch := (first | omega | assumption)) only [initS, initE, Sw, Sx, Sb, pure_s2b, ↓reduceIte, Nat.reduceEqDiff, Nat.reduceAdd, Nat.reduceMul, Nat.reduceDiv, AOp.sb, AOp.mut, ↓Bool.false_eq_true, beq_self_eq_true, ite_self, decide_eq_true_eq, decide_true, decide_false, Nat.reduceLeDiff, c0, c1, c2, c3, c13, Int.cast_ofNat_Int, Int.reduceEq, Int.reduceSub, Int.reduceAdd, Int.reduceNeg, Int.reduceLT, Int.reduceLE, Nat.reduceLT, W_len, D_len, Nat.div_one, Nat.mul_one, tn_nat, W_nf, D_nf, W_nil, D_nil, chk_of])
    simp only [← hx]
    simp (disch := (first | omega | assumption)) only [initS, initE, Sw, Sx, Sb, pure_s2b, ↓reduceIte, Nat.reduceEqDiff, Nat.reduceAdd, Nat.reduceMul, Nat.reduceDiv, AOp.sb, AOp.mut, ↓Bool.false_eq_true, beq_self_eq_true, ite_self, decide_eq_true_eq, decide_true, decide_false, Nat.reduceLeDiff, c0, c1, c2, c3, c13, Int.cast_ofNat_Int, Int.reduceEq, Int.reduceSub, Int.reduceAdd, Int.reduceNeg, Int.reduceLT, Int.reduceLE, Nat.reduceLT, W_len, D_len, Nat.div_one, Nat.mul_one, tn_nat, W_nf, D_nf, W_nil, D_nil, chk_of]
    refine clp_mk _ _ ?_ ?_ ?_ (digits_spec a ha (by omega)) ?_
    · simp (disch := (first | omega | assumption)) only [initS, initE, Sw, Sx, Sb, pure_s2b, ↓reduceIte, Nat.reduceEqDiff, Nat.reduceAdd, Nat.reduceMul, Nat.reduceDiv, AOp.sb, AOp.mut, ↓Bool.false_eq_true, beq_self_eq_true, ite_self, decide_eq_true_eq, decide_true, decide_false, Nat.reduceLeDiff, c0, c1, c2, c3, c13, Int.cast_ofNat_Int, Int.reduceEq, Int.reduceSub, Int.reduceAdd, Int.reduceNeg, Int.reduceLT, Int.reduceLE, Nat.reduceLT, W_len, D_len, Nat.div_one, Nat.mul_one, tn_nat, W_nf, D_nf, W_nil, D_nil, chk_of]
    · simp (disch := (first | omega | assumption)) only [initS, initE, Sw, Sx, Sb, pure_s2b, ↓reduceIte, Nat.reduceEqDiff, Nat.reduceAdd, Nat.reduceMul, Nat.reduceDiv, AOp.sb, AOp.mut, ↓Bool.false_eq_true, beq_self_eq_true, ite_self, decide_eq_true_eq, decide_true, decide_false, Nat.reduceLeDiff, c0, c1, c2, c3, c13, Int.cast_ofNat_Int, Int.reduceEq, Int.reduceSub, Int.reduceAdd, Int.reduceNeg, Int.reduceLT, Int.reduceLE, Nat.reduceLT, W_len, D_len, Nat.div_one, Nat.mul_one, tn_nat, W_nf, D_nf, W_nil, D_nil, chk_of]
    · first | rfl | (simp (disch := (first | omega | assumption)) only [initS, initE, Sw, Sx, Sb, pure_s2b, ↓reduceIte, Nat.reduceEqDiff, Nat.reduceAdd, Nat.reduceMul, Nat.reduceDiv, AOp.sb, AOp.mut, ↓Bool.false_eq_true, beq_self_eq_true, ite_self, decide_eq_true_eq, decide_true, decide_false, Nat.reduceLeDiff, c0, c1, c2, c3, c13, Int.cast_ofNat_Int, Int.reduceEq, Int.reduceSub, Int.reduceAdd, Int.reduceNeg, Int.reduceLT, Int.reduceLE, Nat.reduceLT, W_len, D_len, Nat.div_one, Nat.mul_one, tn_nat, W_nf, D_nf, W_nil, D_nil, chk_of])
    simp only [← hy]
    simp (disch := (first | omega | assumption)) only [initS, initE, Sw, Sx, Sb, pure_s2b, ↓reduceIte, Nat.reduceEqDiff, Nat.reduceAdd, Nat.reduceMul, Nat.reduceDiv, AOp.sb, AOp.mut, ↓Bool.false_eq_true, beq_self_eq_true, ite_self, decide_eq_true_eq, decide_true, decide_false, Nat.reduceLeDiff, c0, c1, c2, c3, c13, Int.cast_ofNat_Int, Int.reduceEq, Int.reduceSub, Int.reduceAdd, Int.reduceNeg, Int.reduceLT, Int.reduceLE, Nat.reduceLT, W_len, D_len, Nat.div_one, Nat.mul_one, tn_nat, W_nf, D_nf, W_nil, D_nil, chk_of]
    refine clp_mk _ _ ?_ ?_ ?_ (dsub_spec x y kx ky (by omega)) ?_
    · simp (disch := (first | omega | assumption)) only [initS, initE, Sw, Sx, Sb, pure_s2b, ↓reduceIte, Nat.reduceEqDiff, Nat.reduceAdd, Nat.reduceMul, Nat.reduceDiv, AOp.sb, AOp.mut, ↓Bool.false_eq_true, beq_self_eq_true, ite_self, decide_eq_true_eq, decide_true, decide_false, Nat.reduceLeDiff, c0, c1, c2, c3, c13, Int.cast_ofNat_Int, Int.reduceEq, Int.reduceSub, Int.reduceAdd, Int.reduceNeg, Int.reduceLT, Int.reduceLE, Nat.reduceLT, W_len, D_len, Nat.div_one, Nat.mul_one, tn_nat, W_nf, D_nf, W_nil, D_nil, chk_of]
    · simp (disch := (first | omega | assumption)) only [initS, initE, Sw, Sx, Sb, pure_s2b, ↓reduceIte, Nat.reduceEqDiff, Nat.reduceAdd, Nat.reduceMul, Nat.reduceDiv, AOp.sb, AOp.mut, ↓Bool.false_eq_true, beq_self_eq_true, ite_self, decide_eq_true_eq, decide_true, decide_false, Nat.reduceLeDiff, c0, c1, c2, c3, c13, Int.cast_ofNat_Int, Int.reduceEq, Int.reduceSub, Int.reduceAdd, Int.reduceNeg, Int.reduceLT, Int.reduceLE, Nat.reduceLT, W_len, D_len, Nat.div_one, Nat.mul_one, tn_nat, W_nf, D_nf, W_nil, D_nil, chk_of]
    · first | rfl | (simp (disch := (first | omega | assumption)) only [initS, initE, Sw, Sx, Sb, pure_s2b, ↓reduceIte, Nat.reduceEqDiff, Nat.reduceAdd, Nat.reduceMul, Nat.reduceDiv, AOp.sb, AOp.mut, ↓Bool.false_eq_true, beq_self_eq_true, ite_self, decide_eq_true_eq, decide_true, decide_false, Nat.reduceLeDiff, c0, c1, c2, c3, c13, Int.cast_ofNat_Int, Int.reduceEq, Int.reduceSub, Int.reduceAdd, Int.reduceNeg, Int.reduceLT, Int.reduceLE, Nat.reduceLT, W_len, D_len, Nat.div_one, Nat.mul_one, tn_nat, W_nf, D_nf, W_nil, D_nil, chk_of])
    simp (disch := (first | omega | assumption)) only [initS, initE, Sw, Sx, Sb, pure_s2b, ↓reduceIte, Nat.reduceEqDiff, Nat.reduceAdd, Nat.reduceMul, Nat.reduceDiv, AOp.sb, AOp.mut, ↓Bool.false_eq_true, beq_self_eq_true, ite_self, decide_eq_true_eq, decide_true, decide_false, Nat.reduceLeDiff, c0, c1, c2, c3, c13, Int.cast_ofNat_Int, Int.reduceEq, Int.reduceSub, Int.reduceAdd, Int.reduceNeg, Int.reduceLT, Int.reduceLE, Nat.reduceLT, W_len, D_len, Nat.div_one, Nat.mul_one, tn_nat, W_nf, D_nf, W_nil, D_nil, chk_of]
    refine clp_mk _ _ ?_ ?_ ?_ (of_spec (fl 256 x.length (nv 256 x + 256 ^ x.length - nv 256 (y.take x.length))) (fl_Lt (by decide) _ _) (by rw [fl_len]; omega)) ?_
    · simp (disch := (first | omega | assumption)) only [initS, initE, Sw, Sx, Sb, pure_s2b, ↓reduceIte, Nat.reduceEqDiff, Nat.reduceAdd, Nat.reduceMul, Nat.reduceDiv, AOp.sb, AOp.mut, ↓Bool.false_eq_true, beq_self_eq_true, ite_self, decide_eq_true_eq, decide_true, decide_false, Nat.reduceLeDiff, c0, c1, c2, c3, c13, Int.cast_ofNat_Int, Int.reduceEq, Int.reduceSub, Int.reduceAdd, Int.reduceNeg, Int.reduceLT, Int.reduceLE, Nat.reduceLT, W_len, D_len, Nat.div_one, Nat.mul_one, tn_nat, W_nf, D_nf, W_nil, D_nil, chk_of]
    · simp (disch := (first | omega | assumption)) only [initS, initE, Sw, Sx, Sb, pure_s2b, ↓reduceIte, Nat.reduceEqDiff, Nat.reduceAdd, Nat.reduceMul, Nat.reduceDiv, AOp.sb, AOp.mut, ↓Bool.false_eq_true, beq_self_eq_true, ite_self, decide_eq_true_eq, decide_true, decide_false, Nat.reduceLeDiff, c0, c1, c2, c3, c13, Int.cast_ofNat_Int, Int.reduceEq, Int.reduceSub, Int.reduceAdd, Int.reduceNeg, Int.reduceLT, Int.reduceLE, Nat.reduceLT, W_len, D_len, Nat.div_one, Nat.mul_one, tn_nat, W_nf, D_nf, W_nil, D_nil, chk_of]
    · first | rfl | (simp (disch := (first | omega | assumption)) only [initS, initE, Sw, Sx, Sb, pure_s2b, ↓reduceIte, Nat.reduceEqDiff, Nat.reduceAdd, Nat.reduceMul, Nat.reduceDiv, AOp.sb, AOp.mut, ↓Bool.false_eq_true, beq_self_eq_true, ite_self, decide_eq_true_eq, decide_true, decide_false, Nat.reduceLeDiff, c0, c1, c2, c3, c13, Int.cast_ofNat_Int, Int.reduceEq, Int.reduceSub, Int.reduceAdd, Int.reduceNeg, Int.reduceLT, Int.reduceLE, Nat.reduceLT, W_len, D_len, Nat.div_one, Nat.mul_one, tn_nat, W_nf, D_nf, W_nil, D_nil, chk_of])
    simp (disch := (first | omega | assumption)) only [initS, initE, Sw, Sx, Sb, pure_s2b, ↓reduceIte, Nat.reduceEqDiff, Nat.reduceAdd, Nat.reduceMul, Nat.reduceDiv, AOp.sb, AOp.mut, ↓Bool.false_eq_true, beq_self_eq_true, ite_self, decide_eq_true_eq, decide_true, decide_false, Nat.reduceLeDiff, c0, c1, c2, c3, c13, Int.cast_ofNat_Int, Int.reduceEq, Int.reduceSub, Int.reduceAdd, Int.reduceNeg, Int.reduceLT, Int.reduceLE, Nat.reduceLT, W_len, D_len, Nat.div_one, Nat.mul_one, tn_nat, W_nf, D_nf, W_nil, D_nil, chk_of, sv]
    refine hK _ ?_
    clear hK K
    repeat first
      | (refine hK _ ?_; clear hK K)
      | ((first | refine vm_reg (fun K hK => ?_) | refine vm_dreg (fun K hK => ?_)); simp (disch := (first | omega | assumption)) only [initS, initE, Sw, Sx, Sb, pure_s2b, ↓reduceIte, Nat.reduceEqDiff, Nat.reduceAdd, Nat.reduceMul, Nat.reduceDiv, AOp.sb, AOp.mut, ↓Bool.false_eq_true, beq_self_eq_true, ite_self, decide_eq_true_eq, decide_true, decide_false, Nat.reduceLeDiff, c0, c1, c2, c3, c13, Int.cast_ofNat_Int, Int.reduceEq, Int.reduceSub, Int.reduceAdd, Int.reduceNeg, Int.reduceLT, Int.reduceLE, Nat.reduceLT, W_len, D_len, Nat.div_one, Nat.mul_one, tn_nat, W_nf, D_nf, W_nil, D_nil, chk_of]; refine hK _ ?_; clear hK K)
      | simp only [Sv, ↓reduceIte, Nat.reduceEqDiff]
    simp (disch := (first | omega | assumption)) only [retOk, retN, ret1, V.okArg, and_true, true_and, initS, initE, Sw, Sx, Sb, pure_s2b, ↓reduceIte, Nat.reduceEqDiff, Nat.reduceAdd, Nat.reduceMul, Nat.reduceDiv, AOp.sb, AOp.mut, ↓Bool.false_eq_true, beq_self_eq_true, ite_self, decide_eq_true_eq, decide_true, decide_false, Nat.reduceLeDiff, c0, c1, c2, c3, c13, Int.cast_ofNat_Int, Int.reduceEq, Int.reduceSub, Int.reduceAdd, Int.reduceNeg, Int.reduceLT, Int.reduceLE, Nat.reduceLT, W_len, D_len, Nat.div_one, Nat.mul_one, tn_nat, W_nf, D_nf, W_nil, D_nil, chk_of, h]
  · repeat first
      | (refine hK _ ?_; clear hK K)
      | ((first | refine vm_reg (fun K hK => ?_) | refine vm_dreg (fun K hK => ?_)); simp (disch := (first | omega | assumption)) only [initS, initE, Sw, Sx, Sb, pure_s2b, ↓reduceIte, Nat.reduceEqDiff, Nat.reduceAdd, Nat.reduceMul, Nat.reduceDiv, AOp.sb, AOp.mut, ↓Bool.false_eq_true, beq_self_eq_true, ite_self, decide_eq_true_eq, decide_true, decide_false, Nat.reduceLeDiff, c0, c1, c2, c3, c13, Int.cast_ofNat_Int, Int.reduceEq, Int.reduceSub, Int.reduceAdd, Int.reduceNeg, Int.reduceLT, Int.reduceLE, Nat.reduceLT, W_len, D_len, Nat.div_one, Nat.mul_one, tn_nat, W_nf, D_nf, W_nil, D_nil, chk_of]; refine hK _ ?_; clear hK K)
      | simp only [Sv, ↓reduceIte, Nat.reduceEqDiff]
    try simp only [Sv, ↓reduceIte, Nat.reduceEqDiff]
    refine vm_reg (fun K hK => ?_)
    simp (disch := (first | omega | assumption)) only [initS, initE, Sw, Sx, Sb, pure_s2b, ↓reduceIte, Nat.reduceEqDiff, Nat.reduceAdd, Nat.reduceMul, Nat.reduceDiv, AOp.sb, AOp.mut, ↓Bool.false_eq_true, beq_self_eq_true, ite_self, decide_eq_true_eq, decide_true, decide_false, Nat.reduceLeDiff, c0, c1, c2, c3, c13, Int.cast_ofNat_Int, Int.reduceEq, Int.reduceSub, Int.reduceAdd, Int.reduceNeg, Int.reduceLT, Int.reduceLE, Nat.reduceLT, W_len, D_len, Nat.div_one, Nat.mul_one, tn_nat, W_nf, D_nf, W_nil, D_nil, chk_of]
    refine clp_mk _ _ ?_ ?_ ?_ (rcmp_spec a b ha hb la lb) ?_
    · simp (disch := (first | omega | assumption)) only [initS, initE, Sw, Sx, Sb, pure_s2b, ↓reduceIte, Nat.reduceEqDiff, Nat.reduceAdd, Nat.reduceMul, Nat.reduceDiv, AOp.sb, AOp.mut, ↓Bool.false_eq_true, beq_self_eq_true, ite_self, decide_eq_true_eq, decide_true, decide_false, Nat.reduceLeDiff, c0, c1, c2, c3, c13, Int.cast_ofNat_Int, Int.reduceEq, Int.reduceSub, Int.reduceAdd, Int.reduceNeg, Int.reduceLT, Int.reduceLE, Nat.reduceLT, W_len, D_len, Nat.div_one, Nat.mul_one, tn_nat, W_nf, D_nf, W_nil, D_nil, chk_of]
    · simp (disch := (first | omega | assumption)) only [initS, initE, Sw, Sx, Sb, pure_s2b, ↓reduceIte, Nat.reduceEqDiff, Nat.reduceAdd, Nat.reduceMul, Nat.reduceDiv, AOp.sb, AOp.mut, ↓Bool.false_eq_true, beq_self_eq_true, ite_self, decide_eq_true_eq, decide_true, decide_false, Nat.reduceLeDiff, c0, c1, c2, c3, c13, Int.cast_ofNat_Int, Int.reduceEq, Int.reduceSub, Int.reduceAdd, Int.reduceNeg, Int.reduceLT, Int.reduceLE, Nat.reduceLT, W_len, D_len, Nat.div_one, Nat.mul_one, tn_nat, W_nf, D_nf, W_nil, D_nil, chk_of]
    · first | rfl | (simp (disch := (first | omega | assumption)) only [initS, initE, Sw, Sx, Sb, pure_s2b, ↓reduceIte, Nat.reduceEqDiff, Nat.reduceAdd, Nat.reduceMul, Nat.reduceDiv, AOp.sb, AOp.mut, ↓Bool.false_eq_true, beq_self_eq_true, ite_self, decide_eq_true_eq, decide_true, decide_false, Nat.reduceLeDiff, c0, c1, c2, c3, c13, Int.cast_ofNat_Int, Int.reduceEq, Int.reduceSub, Int.reduceAdd, Int.reduceNeg, Int.reduceLT, Int.reduceLE, Nat.reduceLT, W_len, D_len, Nat.div_one, Nat.mul_one, tn_nat, W_nf, D_nf, W_nil, D_nil, chk_of])
    simp (disch := (first | omega | assumption)) only [initS, initE, Sw, Sx, Sb, pure_s2b, ↓reduceIte, Nat.reduceEqDiff, Nat.reduceAdd, Nat.reduceMul, Nat.reduceDiv, AOp.sb, AOp.mut, ↓Bool.false_eq_true, beq_self_eq_true, ite_self, decide_eq_true_eq, decide_true, decide_false, Nat.reduceLeDiff, c0, c1, c2, c3, c13, Int.cast_ofNat_Int, Int.reduceEq, Int.reduceSub, Int.reduceAdd, Int.reduceNeg, Int.reduceLT, Int.reduceLE, Nat.reduceLT, W_len, D_len, Nat.div_one, Nat.mul_one, tn_nat, W_nf, D_nf, W_nil, D_nil, chk_of, sg_lt, h]
    refine hK _ ?_
    clear hK K
    repeat first
      | (refine hK _ ?_; clear hK K)
      | ((first | refine vm_reg (fun K hK => ?_) | refine vm_dreg (fun K hK => ?_)); simp (disch := (first | omega | assumption)) only [initS, initE, Sw, Sx, Sb, pure_s2b, ↓reduceIte, Nat.reduceEqDiff, Nat.reduceAdd, Nat.reduceMul, Nat.reduceDiv, AOp.sb, AOp.mut, ↓Bool.false_eq_true, beq_self_eq_true, ite_self, decide_eq_true_eq, decide_true, decide_false, Nat.reduceLeDiff, c0, c1, c2, c3, c13, Int.cast_ofNat_Int, Int.reduceEq, Int.reduceSub, Int.reduceAdd, Int.reduceNeg, Int.reduceLT, Int.reduceLE, Nat.reduceLT, W_len, D_len, Nat.div_one, Nat.mul_one, tn_nat, W_nf, D_nf, W_nil, D_nil, chk_of]; refine hK _ ?_; clear hK K)
      | simp only [Sv, ↓reduceIte, Nat.reduceEqDiff]
    obtain ⟨x, hx⟩ : ∃ x, x = dg 256 (nv B a) := ⟨_, rfl⟩
    obtain ⟨y, hy⟩ : ∃ y, y = dg 256 (nv B b) := ⟨_, rfl⟩
    have hla := dg256_len ha
    have ea := nv_dg D2 (nv B a)
    have eb := nv_dg D2 (nv B b)
    have kx : Lt 256 x := by rw [hx]; exact dg_Lt (by decide) _
    have ky : Lt 256 y := by rw [hy]; exact dg_Lt (by decide) _
    have ty : tz y = y := by rw [hy]; exact tz_dg' _
    rw [← hx] at hla ea
    rw [← hy] at eb
    have sv : nv 256 (fl 256 x.length (nv 256 x + 256 ^ x.length - nv 256 (y.take x.length))) = nv B a - nv B b := by rw [sub_val kx ky (by omega) ty, ea, eb]
    try simp only [Sv, ↓reduceIte, Nat.reduceEqDiff]
    refine vm_reg (fun K hK => ?_)
    simp (disch := (first | omega | assumption)) only [initS, initE, Sw, Sx, Sb, pure_s2b, ↓reduceIte, Nat.reduceEqDiff, Nat.reduceAdd, Nat.reduceMul, Nat.reduceDiv, AOp.sb, AOp.mut, ↓Bool.false_eq_true, beq_self_eq_true, ite_self, decide_eq_true_eq, decide_true, decide_false, Nat.reduceLeDiff, c0, c1, c2, c3, c13, Int.cast_ofNat_Int, Int.reduceEq, Int.reduceSub, Int.reduceAdd, Int.reduceNeg, Int.reduceLT, Int.reduceLE, Nat.reduceLT, W_len, D_len, Nat.div_one, Nat.mul_one, tn_nat, W_nf, D_nf, W_nil, D_nil, chk_of]
    refine clp_mk _ _ ?_ ?_ ?_ (digits_spec a ha (by omega)) ?_
    · simp (disch := (first | omega | assumption)) only [initS, initE, Sw, Sx, Sb, pure_s2b, ↓reduceIte, Nat.reduceEqDiff, Nat.reduceAdd, Nat.reduceMul, Nat.reduceDiv, AOp.sb, AOp.mut, ↓Bool.false_eq_true, beq_self_eq_true, ite_self, decide_eq_true_eq, decide_true, decide_false, Nat.reduceLeDiff, c0, c1, c2, c3, c13, Int.cast_ofNat_Int, Int.reduceEq, Int.reduceSub, Int.reduceAdd, Int.reduceNeg, Int.reduceLT, Int.reduceLE, Nat.reduceLT, W_len, D_len, Nat.div_one, Nat.mul_one, tn_nat, W_nf, D_nf, W_nil, D_nil, chk_of]
    · simp (disch := (first | omega | assumption)) only [initS, initE, Sw, Sx, Sb, pure_s2b, ↓reduceIte, Nat.reduceEqDiff, Nat.reduceAdd, Nat.reduceMul, Nat.reduceDiv, AOp.sb, AOp.mut, ↓Bool.false_eq_true, beq_self_eq_true, ite_self, decide_eq_true_eq, decide_true, decide_false, Nat.reduceLeDiff, c0, c1, c2, c3, c13, Int.cast_ofNat_Int, Int.reduceEq, Int.reduceSub, Int.reduceAdd, Int.reduceNeg, Int.reduceLT, Int.reduceLE, Nat.reduceLT, W_len, D_len, Nat.div_one, Nat.mul_one, tn_nat, W_nf, D_nf, W_nil, D_nil, chk_of]
    · first | rfl | (simp (disch := (first | omega | assumption)) only [initS, initE, Sw, Sx, Sb, pure_s2b, ↓reduceIte, Nat.reduceEqDiff, Nat.reduceAdd, Nat.reduceMul, Nat.reduceDiv, AOp.sb, AOp.mut, ↓Bool.false_eq_true, beq_self_eq_true, ite_self, decide_eq_true_eq, decide_true, decide_false, Nat.reduceLeDiff, c0, c1, c2, c3, c13, Int.cast_ofNat_Int, Int.reduceEq, Int.reduceSub, Int.reduceAdd, Int.reduceNeg, Int.reduceLT, Int.reduceLE, Nat.reduceLT, W_len, D_len, Nat.div_one, Nat.mul_one, tn_nat, W_nf, D_nf, W_nil, D_nil, chk_of])
    simp only [← hx]
    simp (disch := (first | omega | assumption)) only [initS, initE, Sw, Sx, Sb, pure_s2b, ↓reduceIte, Nat.reduceEqDiff, Nat.reduceAdd, Nat.reduceMul, Nat.reduceDiv, AOp.sb, AOp.mut, ↓Bool.false_eq_true, beq_self_eq_true, ite_self, decide_eq_true_eq, decide_true, decide_false, Nat.reduceLeDiff, c0, c1, c2, c3, c13, Int.cast_ofNat_Int, Int.reduceEq, Int.reduceSub, Int.reduceAdd, Int.reduceNeg, Int.reduceLT, Int.reduceLE, Nat.reduceLT, W_len, D_len, Nat.div_one, Nat.mul_one, tn_nat, W_nf, D_nf, W_nil, D_nil, chk_of]
    refine clp_mk _ _ ?_ ?_ ?_ (digits_spec b hb (by omega)) ?_
    · simp (disch := (first | omega | assumption)) only [initS, initE, Sw, Sx, Sb, pure_s2b, ↓reduceIte, Nat.reduceEqDiff, Nat.reduceAdd, Nat.reduceMul, Nat.reduceDiv, AOp.sb, AOp.mut, ↓Bool.false_eq_true, beq_self_eq_true, ite_self, decide_eq_true_eq, decide_true, decide_false, Nat.reduceLeDiff, c0, c1, c2, c3, c13, Int.cast_ofNat_Int, Int.reduceEq, Int.reduceSub, Int.reduceAdd, Int.reduceNeg, Int.reduceLT, Int.reduceLE, Nat.reduceLT, W_len, D_len, Nat.div_one, Nat.mul_one, tn_nat, W_nf, D_nf, W_nil, D_nil, chk_of]
    · simp (disch := (first | omega | assumption)) only [initS, initE, Sw, Sx, Sb, pure_s2b, ↓reduceIte, Nat.reduceEqDiff, Nat.reduceAdd, Nat.reduceMul, Nat.reduceDiv, AOp.sb, AOp.mut, ↓Bool.false_eq_true, beq_self_eq_true, ite_self, decide_eq_true_eq, decide_true, decide_false, Nat.reduceLeDiff, c0, c1, c2, c3, c13, Int.cast_ofNat_Int, Int.reduceEq, Int.reduceSub, Int.reduceAdd, Int.reduceNeg, Int.reduceLT, Int.reduceLE, Nat.reduceLT, W_len, D_len, Nat.div_one, Nat.mul_one, tn_nat, W_nf, D_nf, W_nil, D_nil, chk_of]
    · first | rfl | (simp (disch := (first | omega | assumption)) only [initS, initE, Sw, Sx, Sb, pure_s2b, ↓reduceIte, Nat.reduceEqDiff, Nat.reduceAdd, Nat.reduceMul, Nat.reduceDiv, AOp.sb, AOp.mut, ↓Bool.false_eq_true, beq_self_eq_true, ite_self, decide_eq_true_eq, decide_true, decide_false, Nat.reduceLeDiff, c0, c1, c2, c3, c13, Int.cast_ofNat_Int, Int.reduceEq, Int.reduceSub, Int.reduceAdd, Int.reduceNeg, Int.reduceLT, Int.reduceLE, Nat.reduceLT, W_len, D_len, Nat.div_one, Nat.mul_one, tn_nat, W_nf, D_nf, W_nil, D_nil, chk_of])
    simp only [← hy]
    simp (disch := (first | omega | assumption)) only [initS, initE, Sw, Sx, Sb, pure_s2b, ↓reduceIte, Nat.reduceEqDiff, Nat.reduceAdd, Nat.reduceMul, Nat.reduceDiv, AOp.sb, AOp.mut, ↓Bool.false_eq_true, beq_self_eq_true, ite_self, decide_eq_true_eq, decide_true, decide_false, Nat.reduceLeDiff, c0, c1, c2, c3, c13, Int.cast_ofNat_Int, Int.reduceEq, Int.reduceSub, Int.reduceAdd, Int.reduceNeg, Int.reduceLT, Int.reduceLE, Nat.reduceLT, W_len, D_len, Nat.div_one, Nat.mul_one, tn_nat, W_nf, D_nf, W_nil, D_nil, chk_of]
    refine clp_mk _ _ ?_ ?_ ?_ (dsub_spec x y kx ky (by omega)) ?_
    · simp (disch := (first | omega | assumption)) only [initS, initE, Sw, Sx, Sb, pure_s2b, ↓reduceIte, Nat.reduceEqDiff, Nat.reduceAdd, Nat.reduceMul, Nat.reduceDiv, AOp.sb, AOp.mut, ↓Bool.false_eq_true, beq_self_eq_true, ite_self, decide_eq_true_eq, decide_true, decide_false, Nat.reduceLeDiff, c0, c1, c2, c3, c13, Int.cast_ofNat_Int, Int.reduceEq, Int.reduceSub, Int.reduceAdd, Int.reduceNeg, Int.reduceLT, Int.reduceLE, Nat.reduceLT, W_len, D_len, Nat.div_one, Nat.mul_one, tn_nat, W_nf, D_nf, W_nil, D_nil, chk_of]
    · simp (disch := (first | omega | assumption)) only [initS, initE, Sw, Sx, Sb, pure_s2b, ↓reduceIte, Nat.reduceEqDiff, Nat.reduceAdd, Nat.reduceMul, Nat.reduceDiv, AOp.sb, AOp.mut, ↓Bool.false_eq_true, beq_self_eq_true, ite_self, decide_eq_true_eq, decide_true, decide_false, Nat.reduceLeDiff, c0, c1, c2, c3, c13, Int.cast_ofNat_Int, Int.reduceEq, Int.reduceSub, Int.reduceAdd, Int.reduceNeg, Int.reduceLT, Int.reduceLE, Nat.reduceLT, W_len, D_len, Nat.div_one, Nat.mul_one, tn_nat, W_nf, D_nf, W_nil, D_nil, chk_of]
    · first | rfl | (simp (disch := (first | omega | assumption)) only [initS, initE, Sw, Sx, Sb, pure_s2b, ↓reduceIte, Nat.reduceEqDiff, Nat.reduceAdd, Nat.reduceMul, Nat.reduceDiv, AOp.sb, AOp.mut, ↓Bool.false_eq_true, beq_self_eq_true, ite_self, decide_eq_true_eq, decide_true, decide_false, Nat.reduceLeDiff, c0, c1, c2, c3, c13, Int.cast_ofNat_Int, Int.reduceEq, Int.reduceSub, Int.reduceAdd, Int.reduceNeg, Int.reduceLT, Int.reduceLE, Nat.reduceLT, W_len, D_len, Nat.div_one, Nat.mul_one, tn_nat, W_nf, D_nf, W_nil, D_nil, chk_of])
    simp (disch := (first | omega | assumption)) only [initS, initE, Sw, Sx, Sb, pure_s2b, ↓reduceIte, Nat.reduceEqDiff, Nat.reduceAdd, Nat.reduceMul, Nat.reduceDiv, AOp.sb, AOp.mut, ↓Bool.false_eq_true, beq_self_eq_true, ite_self, decide_eq_true_eq, decide_true, decide_false, Nat.reduceLeDiff, c0, c1, c2, c3, c13, Int.cast_ofNat_Int, Int.reduceEq, Int.reduceSub, Int.reduceAdd, Int.reduceNeg, Int.reduceLT, Int.reduceLE, Nat.reduceLT, W_len, D_len, Nat.div_one, Nat.mul_one, tn_nat, W_nf, D_nf, W_nil, D_nil, chk_of]
    refine clp_mk _ _ ?_ ?_ ?_ (of_spec (fl 256 x.length (nv 256 x + 256 ^ x.length - nv 256 (y.take x.length))) (fl_Lt (by decide) _ _) (by rw [fl_len]; omega)) ?_
    · simp (disch := (first | omega | assumption)) only [initS, initE, Sw, Sx, Sb, pure_s2b, ↓reduceIte, Nat.reduceEqDiff, Nat.reduceAdd, Nat.reduceMul, Nat.reduceDiv, AOp.sb, AOp.mut, ↓Bool.false_eq_true, beq_self_eq_true, ite_self, decide_eq_true_eq, decide_true, decide_false, Nat.reduceLeDiff, c0, c1, c2, c3, c13, Int.cast_ofNat_Int, Int.reduceEq, Int.reduceSub, Int.reduceAdd, Int.reduceNeg, Int.reduceLT, Int.reduceLE, Nat.reduceLT, W_len, D_len, Nat.div_one, Nat.mul_one, tn_nat, W_nf, D_nf, W_nil, D_nil, chk_of]
    · simp (disch := (first | omega | assumption)) only [initS, initE, Sw, Sx, Sb, pure_s2b, ↓reduceIte, Nat.reduceEqDiff, Nat.reduceAdd, Nat.reduceMul, Nat.reduceDiv, AOp.sb, AOp.mut, ↓Bool.false_eq_true, beq_self_eq_true, ite_self, decide_eq_true_eq, decide_true, decide_false, Nat.reduceLeDiff, c0, c1, c2, c3, c13, Int.cast_ofNat_Int, Int.reduceEq, Int.reduceSub, Int.reduceAdd, Int.reduceNeg, Int.reduceLT, Int.reduceLE, Nat.reduceLT, W_len, D_len, Nat.div_one, Nat.mul_one, tn_nat, W_nf, D_nf, W_nil, D_nil, chk_of]
    · first | rfl | (simp (disch := (first | omega | assumption)) only [initS, initE, Sw, Sx, Sb, pure_s2b, ↓reduceIte, Nat.reduceEqDiff, Nat.reduceAdd, Nat.reduceMul, Nat.reduceDiv, AOp.sb, AOp.mut, ↓Bool.false_eq_true, beq_self_eq_true, ite_self, decide_eq_true_eq, decide_true, decide_false, Nat.reduceLeDiff, c0, c1, c2, c3, c13, Int.cast_ofNat_Int, Int.reduceEq, Int.reduceSub, Int.reduceAdd, Int.reduceNeg, Int.reduceLT, Int.reduceLE, Nat.reduceLT, W_len, D_len, Nat.div_one, Nat.mul_one, tn_nat, W_nf, D_nf, W_nil, D_nil, chk_of])
    simp (disch := (first | omega | assumption)) only [initS, initE, Sw, Sx, Sb, pure_s2b, ↓reduceIte, Nat.reduceEqDiff, Nat.reduceAdd, Nat.reduceMul, Nat.reduceDiv, AOp.sb, AOp.mut, ↓Bool.false_eq_true, beq_self_eq_true, ite_self, decide_eq_true_eq, decide_true, decide_false, Nat.reduceLeDiff, c0, c1, c2, c3, c13, Int.cast_ofNat_Int, Int.reduceEq, Int.reduceSub, Int.reduceAdd, Int.reduceNeg, Int.reduceLT, Int.reduceLE, Nat.reduceLT, W_len, D_len, Nat.div_one, Nat.mul_one, tn_nat, W_nf, D_nf, W_nil, D_nil, chk_of, sv]
    refine hK _ ?_
    clear hK K
    repeat first
      | (refine hK _ ?_; clear hK K)
      | ((first | refine vm_reg (fun K hK => ?_) | refine vm_dreg (fun K hK => ?_)); simp (disch := (first | omega | assumption)) only [initS, initE, Sw, Sx, Sb, pure_s2b, ↓reduceIte, Nat.reduceEqDiff, Nat.reduceAdd, Nat.reduceMul, Nat.reduceDiv, AOp.sb, AOp.mut, ↓Bool.false_eq_true, beq_self_eq_true, ite_self, decide_eq_true_eq, decide_true, decide_false, Nat.reduceLeDiff, c0, c1, c2, c3, c13, Int.cast_ofNat_Int, Int.reduceEq, Int.reduceSub, Int.reduceAdd, Int.reduceNeg, Int.reduceLT, Int.reduceLE, Nat.reduceLT, W_len, D_len, Nat.div_one, Nat.mul_one, tn_nat, W_nf, D_nf, W_nil, D_nil, chk_of]; refine hK _ ?_; clear hK K)
      | simp only [Sv, ↓reduceIte, Nat.reduceEqDiff]
    simp (disch := (first | omega | assumption)) only [retOk, retN, ret1, V.okArg, and_true, true_and, initS, initE, Sw, Sx, Sb, pure_s2b, ↓reduceIte, Nat.reduceEqDiff, Nat.reduceAdd, Nat.reduceMul, Nat.reduceDiv, AOp.sb, AOp.mut, ↓Bool.false_eq_true, beq_self_eq_true, ite_self, decide_eq_true_eq, decide_true, decide_false, Nat.reduceLeDiff, c0, c1, c2, c3, c13, Int.cast_ofNat_Int, Int.reduceEq, Int.reduceSub, Int.reduceAdd, Int.reduceNeg, Int.reduceLT, Int.reduceLE, Nat.reduceLT, W_len, D_len, Nat.div_one, Nat.mul_one, tn_nat, W_nf, D_nf, W_nil, D_nil, chk_of, h]

theorem Wd1 {x : Nat} (h : x < 18446744073709551616) : Wd [x] := fun y hy => by rw [List.mem_singleton] at hy; rw [hy]; exact h
theorem Wd2 {x y : Nat} (h : x < 18446744073709551616) (k : y < 18446744073709551616) : Wd [x, y] := fun z hz => by
  rcases List.mem_cons.1 hz with h1 | h1
  · rw [h1]; exact h
  · rw [List.mem_singleton.1 h1]; exact k
-- surd/surdlaw02.known
def a9 : AC := .seq (.reg [⟨some 0, none, .mv (.k (.b false))⟩])
  (.seq (.reg [⟨some 1, none, .bsl 35 1 1 [(.i .u64 0)] [(0, (.k (.i .u64 18446744073709551615)))]⟩, 
      ⟨some 2, none, .bsl 35 1 1 [(.i .u64 0)] [(0, (.k (.i .u64 1)))]⟩, 
      ⟨some 3, none, .call 15 [(1, (.t 1)), (1, (.t 2))]⟩, 
      ⟨some 4, none, .bsl 35 1 2 [(.i .u64 0), (.i .u64 0)] [(0, (.k (.i .u64 0))), (1, (.k (.i .u64 1)))]⟩, 
      ⟨some 5, none, .call 14 [(1, (.t 3)), (1, (.t 4))]⟩, 
      ⟨some 6, none, .mv (.t 5)⟩, 
      ⟨some 7, some (6, true), .bsl 35 1 2 [(.i .u64 0), (.i .u64 0)] [(0, (.k (.i .u64 2))), (1, (.k (.i .u64 0)))]⟩, 
      ⟨some 8, some (6, true), .bsl 35 1 1 [(.i .u64 0)] [(0, (.k (.i .u64 1)))]⟩, 
      ⟨some 9, some (6, true), .call 17 [(1, (.t 7)), (1, (.t 8))]⟩, 
      ⟨some 10, some (6, true), .bin .eql (.t 9) (.k (.i .i64 1))⟩, 
      ⟨some 11, none, .pick (.t 6) (.t 10) (.k (.b false))⟩, 
      ⟨some 0, none, .mv (.t 11)⟩])
  (.ret))
theorem known_spec : AFun Try.prog J0 9 [] (.b true) := by
  refine AFun.mk fol J0s Try.func9 rfl (ac := a9) (by kernel_rfl) rfl rfl ?_
  apply vm_start
  unfold a9
  repeat first
    | (refine hK _ ?_; clear hK K)
    | ((first | refine vm_reg (fun K hK => ?_) | refine vm_dreg (fun K hK => ?_)); simp (disch := (first | omega | assumption)) only [initS, initE, Sw, Sx, Sb, pure_s2b, ↓reduceIte, Nat.reduceEqDiff, Nat.reduceAdd, Nat.reduceMul, Nat.reduceDiv, AOp.sb, AOp.mut, ↓Bool.false_eq_true, beq_self_eq_true, ite_self, decide_eq_true_eq, decide_true, decide_false, Nat.reduceLeDiff, c0, c1, c2, c3, c13, Int.cast_ofNat_Int, Int.reduceEq, Int.reduceSub, Int.reduceAdd, Int.reduceNeg, Int.reduceLT, Int.reduceLE, Nat.reduceLT, W_len, D_len, Nat.div_one, Nat.mul_one, tn_nat, W_nf, D_nf, W_nil, D_nil, chk_of]; refine hK _ ?_; clear hK K)
    | simp only [Sv, ↓reduceIte, Nat.reduceEqDiff]
  try simp only [Sv, ↓reduceIte, Nat.reduceEqDiff]
  refine vm_reg (fun K hK => ?_)
  simp (disch := (first | omega | assumption)) only [initS, initE, Sw, Sx, Sb, pure_s2b, ↓reduceIte, Nat.reduceEqDiff, Nat.reduceAdd, Nat.reduceMul, Nat.reduceDiv, AOp.sb, AOp.mut, ↓Bool.false_eq_true, beq_self_eq_true, ite_self, decide_eq_true_eq, decide_true, decide_false, Nat.reduceLeDiff, c0, c1, c2, c3, c13, Int.cast_ofNat_Int, Int.reduceEq, Int.reduceSub, Int.reduceAdd, Int.reduceNeg, Int.reduceLT, Int.reduceLE, Nat.reduceLT, W_len, D_len, Nat.div_one, Nat.mul_one, tn_nat, W_nf, D_nf, W_nil, D_nil, chk_of]
  refine clp_mk _ _ ?_ ?_ ?_ (add_spec [18446744073709551615] [1] (Wd1 (by decide)) (Wd1 (by decide)) (by decide) (by decide)) ?_
  · simp (disch := (first | omega | assumption)) only [initS, initE, Sw, Sx, Sb, pure_s2b, ↓reduceIte, Nat.reduceEqDiff, Nat.reduceAdd, Nat.reduceMul, Nat.reduceDiv, AOp.sb, AOp.mut, ↓Bool.false_eq_true, beq_self_eq_true, ite_self, decide_eq_true_eq, decide_true, decide_false, Nat.reduceLeDiff, c0, c1, c2, c3, c13, Int.cast_ofNat_Int, Int.reduceEq, Int.reduceSub, Int.reduceAdd, Int.reduceNeg, Int.reduceLT, Int.reduceLE, Nat.reduceLT, W_len, D_len, Nat.div_one, Nat.mul_one, tn_nat, W_nf, D_nf, W_nil, D_nil, chk_of]
  · simp (disch := (first | omega | assumption)) only [initS, initE, Sw, Sx, Sb, pure_s2b, ↓reduceIte, Nat.reduceEqDiff, Nat.reduceAdd, Nat.reduceMul, Nat.reduceDiv, AOp.sb, AOp.mut, ↓Bool.false_eq_true, beq_self_eq_true, ite_self, decide_eq_true_eq, decide_true, decide_false, Nat.reduceLeDiff, c0, c1, c2, c3, c13, Int.cast_ofNat_Int, Int.reduceEq, Int.reduceSub, Int.reduceAdd, Int.reduceNeg, Int.reduceLT, Int.reduceLE, Nat.reduceLT, W_len, D_len, Nat.div_one, Nat.mul_one, tn_nat, W_nf, D_nf, W_nil, D_nil, chk_of]
  · first | rfl | (simp (disch := (first | omega | assumption)) only [initS, initE, Sw, Sx, Sb, pure_s2b, ↓reduceIte, Nat.reduceEqDiff, Nat.reduceAdd, Nat.reduceMul, Nat.reduceDiv, AOp.sb, AOp.mut, ↓Bool.false_eq_true, beq_self_eq_true, ite_self, decide_eq_true_eq, decide_true, decide_false, Nat.reduceLeDiff, c0, c1, c2, c3, c13, Int.cast_ofNat_Int, Int.reduceEq, Int.reduceSub, Int.reduceAdd, Int.reduceNeg, Int.reduceLT, Int.reduceLE, Nat.reduceLT, W_len, D_len, Nat.div_one, Nat.mul_one, tn_nat, W_nf, D_nf, W_nil, D_nil, chk_of])
  have e1 : dg B (nv B [18446744073709551615] + nv B [1]) = [0, 1] := by rw [show nv B [18446744073709551615] + nv B [1] = nv B [0, 1] from rfl, ← tz_dg B2 (Wd2 (by decide) (by decide))]; rfl
  simp (disch := (first | omega | assumption)) only [initS, initE, Sw, Sx, Sb, pure_s2b, ↓reduceIte, Nat.reduceEqDiff, Nat.reduceAdd, Nat.reduceMul, Nat.reduceDiv, AOp.sb, AOp.mut, ↓Bool.false_eq_true, beq_self_eq_true, ite_self, decide_eq_true_eq, decide_true, decide_false, Nat.reduceLeDiff, c0, c1, c2, c3, c13, Int.cast_ofNat_Int, Int.reduceEq, Int.reduceSub, Int.reduceAdd, Int.reduceNeg, Int.reduceLT, Int.reduceLE, Nat.reduceLT, W_len, D_len, Nat.div_one, Nat.mul_one, tn_nat, W_nf, D_nf, W_nil, D_nil, chk_of, e1]
  refine clp_mk _ _ ?_ ?_ ?_ (same_spec [0, 1] [0, 1] (by decide) (by decide)) ?_
  · simp (disch := (first | omega | assumption)) only [initS, initE, Sw, Sx, Sb, pure_s2b, ↓reduceIte, Nat.reduceEqDiff, Nat.reduceAdd, Nat.reduceMul, Nat.reduceDiv, AOp.sb, AOp.mut, ↓Bool.false_eq_true, beq_self_eq_true, ite_self, decide_eq_true_eq, decide_true, decide_false, Nat.reduceLeDiff, c0, c1, c2, c3, c13, Int.cast_ofNat_Int, Int.reduceEq, Int.reduceSub, Int.reduceAdd, Int.reduceNeg, Int.reduceLT, Int.reduceLE, Nat.reduceLT, W_len, D_len, Nat.div_one, Nat.mul_one, tn_nat, W_nf, D_nf, W_nil, D_nil, chk_of]
  · simp (disch := (first | omega | assumption)) only [initS, initE, Sw, Sx, Sb, pure_s2b, ↓reduceIte, Nat.reduceEqDiff, Nat.reduceAdd, Nat.reduceMul, Nat.reduceDiv, AOp.sb, AOp.mut, ↓Bool.false_eq_true, beq_self_eq_true, ite_self, decide_eq_true_eq, decide_true, decide_false, Nat.reduceLeDiff, c0, c1, c2, c3, c13, Int.cast_ofNat_Int, Int.reduceEq, Int.reduceSub, Int.reduceAdd, Int.reduceNeg, Int.reduceLT, Int.reduceLE, Nat.reduceLT, W_len, D_len, Nat.div_one, Nat.mul_one, tn_nat, W_nf, D_nf, W_nil, D_nil, chk_of]
  · first | rfl | (simp (disch := (first | omega | assumption)) only [initS, initE, Sw, Sx, Sb, pure_s2b, ↓reduceIte, Nat.reduceEqDiff, Nat.reduceAdd, Nat.reduceMul, Nat.reduceDiv, AOp.sb, AOp.mut, ↓Bool.false_eq_true, beq_self_eq_true, ite_self, decide_eq_true_eq, decide_true, decide_false, Nat.reduceLeDiff, c0, c1, c2, c3, c13, Int.cast_ofNat_Int, Int.reduceEq, Int.reduceSub, Int.reduceAdd, Int.reduceNeg, Int.reduceLT, Int.reduceLE, Nat.reduceLT, W_len, D_len, Nat.div_one, Nat.mul_one, tn_nat, W_nf, D_nf, W_nil, D_nil, chk_of])
  simp (disch := (first | omega | assumption)) only [initS, initE, Sw, Sx, Sb, pure_s2b, ↓reduceIte, Nat.reduceEqDiff, Nat.reduceAdd, Nat.reduceMul, Nat.reduceDiv, AOp.sb, AOp.mut, ↓Bool.false_eq_true, beq_self_eq_true, ite_self, decide_eq_true_eq, decide_true, decide_false, Nat.reduceLeDiff, c0, c1, c2, c3, c13, Int.cast_ofNat_Int, Int.reduceEq, Int.reduceSub, Int.reduceAdd, Int.reduceNeg, Int.reduceLT, Int.reduceLE, Nat.reduceLT, W_len, D_len, Nat.div_one, Nat.mul_one, tn_nat, W_nf, D_nf, W_nil, D_nil, chk_of]
  refine clp_mk _ _ ?_ ?_ ?_ (cmp_spec [2, 0] [1] (Wd2 (by decide) (by decide)) (Wd1 (by decide)) (by decide) (by decide)) ?_
  · simp (disch := (first | omega | assumption)) only [initS, initE, Sw, Sx, Sb, pure_s2b, ↓reduceIte, Nat.reduceEqDiff, Nat.reduceAdd, Nat.reduceMul, Nat.reduceDiv, AOp.sb, AOp.mut, ↓Bool.false_eq_true, beq_self_eq_true, ite_self, decide_eq_true_eq, decide_true, decide_false, Nat.reduceLeDiff, c0, c1, c2, c3, c13, Int.cast_ofNat_Int, Int.reduceEq, Int.reduceSub, Int.reduceAdd, Int.reduceNeg, Int.reduceLT, Int.reduceLE, Nat.reduceLT, W_len, D_len, Nat.div_one, Nat.mul_one, tn_nat, W_nf, D_nf, W_nil, D_nil, chk_of]
  · simp (disch := (first | omega | assumption)) only [initS, initE, Sw, Sx, Sb, pure_s2b, ↓reduceIte, Nat.reduceEqDiff, Nat.reduceAdd, Nat.reduceMul, Nat.reduceDiv, AOp.sb, AOp.mut, ↓Bool.false_eq_true, beq_self_eq_true, ite_self, decide_eq_true_eq, decide_true, decide_false, Nat.reduceLeDiff, c0, c1, c2, c3, c13, Int.cast_ofNat_Int, Int.reduceEq, Int.reduceSub, Int.reduceAdd, Int.reduceNeg, Int.reduceLT, Int.reduceLE, Nat.reduceLT, W_len, D_len, Nat.div_one, Nat.mul_one, tn_nat, W_nf, D_nf, W_nil, D_nil, chk_of]
  · first | rfl | (simp (disch := (first | omega | assumption)) only [initS, initE, Sw, Sx, Sb, pure_s2b, ↓reduceIte, Nat.reduceEqDiff, Nat.reduceAdd, Nat.reduceMul, Nat.reduceDiv, AOp.sb, AOp.mut, ↓Bool.false_eq_true, beq_self_eq_true, ite_self, decide_eq_true_eq, decide_true, decide_false, Nat.reduceLeDiff, c0, c1, c2, c3, c13, Int.cast_ofNat_Int, Int.reduceEq, Int.reduceSub, Int.reduceAdd, Int.reduceNeg, Int.reduceLT, Int.reduceLE, Nat.reduceLT, W_len, D_len, Nat.div_one, Nat.mul_one, tn_nat, W_nf, D_nf, W_nil, D_nil, chk_of])
  have e2 : sg (nv B [2, 0]) (nv B [1]) = 1 := by decide
  simp (disch := (first | omega | assumption)) only [initS, initE, Sw, Sx, Sb, pure_s2b, ↓reduceIte, Nat.reduceEqDiff, Nat.reduceAdd, Nat.reduceMul, Nat.reduceDiv, AOp.sb, AOp.mut, ↓Bool.false_eq_true, beq_self_eq_true, ite_self, decide_eq_true_eq, decide_true, decide_false, Nat.reduceLeDiff, c0, c1, c2, c3, c13, Int.cast_ofNat_Int, Int.reduceEq, Int.reduceSub, Int.reduceAdd, Int.reduceNeg, Int.reduceLT, Int.reduceLE, Nat.reduceLT, W_len, D_len, Nat.div_one, Nat.mul_one, tn_nat, W_nf, D_nf, W_nil, D_nil, chk_of, e2]
  refine hK _ ?_
  clear hK K
  repeat first
    | (refine hK _ ?_; clear hK K)
    | ((first | refine vm_reg (fun K hK => ?_) | refine vm_dreg (fun K hK => ?_)); simp (disch := (first | omega | assumption)) only [initS, initE, Sw, Sx, Sb, pure_s2b, ↓reduceIte, Nat.reduceEqDiff, Nat.reduceAdd, Nat.reduceMul, Nat.reduceDiv, AOp.sb, AOp.mut, ↓Bool.false_eq_true, beq_self_eq_true, ite_self, decide_eq_true_eq, decide_true, decide_false, Nat.reduceLeDiff, c0, c1, c2, c3, c13, Int.cast_ofNat_Int, Int.reduceEq, Int.reduceSub, Int.reduceAdd, Int.reduceNeg, Int.reduceLT, Int.reduceLE, Nat.reduceLT, W_len, D_len, Nat.div_one, Nat.mul_one, tn_nat, W_nf, D_nf, W_nil, D_nil, chk_of]; refine hK _ ?_; clear hK K)
    | simp only [Sv, ↓reduceIte, Nat.reduceEqDiff]
  simp (disch := (first | omega | assumption)) only [retOk, retN, ret1, V.okArg, and_true, true_and, initS, initE, Sw, Sx, Sb, pure_s2b, ↓reduceIte, Nat.reduceEqDiff, Nat.reduceAdd, Nat.reduceMul, Nat.reduceDiv, AOp.sb, AOp.mut, ↓Bool.false_eq_true, beq_self_eq_true, ite_self, decide_eq_true_eq, decide_true, decide_false, Nat.reduceLeDiff, c0, c1, c2, c3, c13, Int.cast_ofNat_Int, Int.reduceEq, Int.reduceSub, Int.reduceAdd, Int.reduceNeg, Int.reduceLT, Int.reduceLE, Nat.reduceLT, W_len, D_len, Nat.div_one, Nat.mul_one, tn_nat, W_nf, D_nf, W_nil, D_nil, chk_of]
end Go.Proofs.Ytjabgieajkgkfaa
