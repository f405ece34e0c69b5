/-
  surdref02: differences; the law's first check.
-/
import Derived.Test.YtdafakcccjjpiaaGE
namespace Go.Proofs.Ytdafakcccjjpiaa
open Go Go.RowKit Ab
set_option linter.unusedSimpArgs false
set_option linter.unusedVariables false
set_option maxHeartbeats 10000000
theorem bz_Ref5 : type_of% (And.intro @W_len (And.intro @D_len (And.intro @Nat.div_one (And.intro @Nat.mul_one (And.intro @tn_nat (And.intro @W_nf (And.intro @D_nf (And.intro @W_nil (@D_nil))))))))) := And.intro @W_len (And.intro @D_len (And.intro @Nat.div_one (And.intro @Nat.mul_one (And.intro @tn_nat (And.intro @W_nf (And.intro @D_nf (And.intro @W_nil (@D_nil))))))))
def a17 : AC := .seq (.reg [qr 4 (.mv (.k .nl)),
 qr 5 (.mv (.k (.i .i64 0)))])
 (.seq (.seq (.reg [qm 6 0,
 qm 7 1,
 qr 8 (.call 36 [(1, (.t 6)), (1, (.t 7))]),
 qr 9 (.bin .lss (.t 8) (.k (.i .i64 0)))])
 (.cond (.t 9)
 (.seq (.reg [qr 4 (.mv (.k .nl)),
 qr 5 (.mv (.k (.i .i64 2)))])
 (.ret))
 (.skip)))
 (.seq (.reg [qm 10 0,
 qr 11 (.call 39 [(1, (.t 10))]),
 qm 12 1,
 qr 13 (.call 39 [(1, (.t 12))]),
 qr 14 (.call 38 [(1, (.t 11)), (1, (.t 13))]),
 qr 15 (.call 37 [(1, (.t 14))]),
 qm 4 15,
 qr 5 (.mv (.k (.i .i64 0)))])
 (.ret)))
theorem rsub_spec (a b : List Nat) (ha : Wd a) (hb : Wd b) (la : a.length ≤ 100000000000) (lb : b.length ≤ 100000000000) :
    AFun Try.prog J0 17 [.l 1 (W a), .l 1 (W b)] (.t [.l 1 (W (if nv B a < nv B b then [] else dg B (nv B a - nv B b))), .i .i64 ((if nv B a < nv B b then 2 else 0 : Nat) : Int)]) := by
  refine mkQ fol J0s Try.func17 a17 ?_
  unfold a17
  simp only [init_eq, initE, qm, qr, qn]
  by_cases h : nv B a < nv B b
  · refine spQ @bz_Ref5 ?_
    try simp only [Sv, ↓reduceIte, Nat.reduceEqDiff]
    refine vm_reg (fun K hK => ?_)
    refine smQ @bz_Ref5 ?_
    refine clp_mk _ _ ?_ ?_ ?_ (rcmp_spec a b ha hb la lb) ?_
    · simp (disch := (first | omega | assumption)) only [S1, ↓reduceIte, Nat.reduceEqDiff, Nat.reduceAdd, Nat.reduceMul, Nat.reduceDiv, AOp.sb, AOp.mut, frzf, ↓Bool.false_eq_true, beq_self_eq_true, ite_self, Nat.reduceLeDiff, Int.reduceEq, Int.reduceSub, Int.reduceAdd, Int.reduceNeg, Int.reduceLT, Int.reduceLE, Nat.reduceLT, bz_Ref5]
    · simp (disch := (first | omega | assumption)) only [S1, ↓reduceIte, Nat.reduceEqDiff, Nat.reduceAdd, Nat.reduceMul, Nat.reduceDiv, AOp.sb, AOp.mut, frzf, ↓Bool.false_eq_true, beq_self_eq_true, ite_self, Nat.reduceLeDiff, Int.reduceEq, Int.reduceSub, Int.reduceAdd, Int.reduceNeg, Int.reduceLT, Int.reduceLE, Nat.reduceLT, bz_Ref5]
    · first | rfl | (simp (disch := (first | omega | assumption)) only [S1, ↓reduceIte, Nat.reduceEqDiff, Nat.reduceAdd, Nat.reduceMul, Nat.reduceDiv, AOp.sb, AOp.mut, frzf, ↓Bool.false_eq_true, beq_self_eq_true, ite_self, Nat.reduceLeDiff, Int.reduceEq, Int.reduceSub, Int.reduceAdd, Int.reduceNeg, Int.reduceLT, Int.reduceLE, Nat.reduceLT, bz_Ref5])
    refine smQ (ai @h (ai @sg_lt @bz_Ref5)) ?_
    refine hK _ ?_
    clear hK K
    try (refine hK _ ?_; clear hK K)
    refine spQ @bz_Ref5 ?_
    exact rtQ (ai @h @bz_Ref5)
  · try (refine hK _ ?_; clear hK K)
    refine spQ @bz_Ref5 ?_
    try simp only [Sv, ↓reduceIte, Nat.reduceEqDiff]
    refine vm_reg (fun K hK => ?_)
    refine smQ @bz_Ref5 ?_
    refine clp_mk _ _ ?_ ?_ ?_ (rcmp_spec a b ha hb la lb) ?_
    · simp (disch := (first | omega | assumption)) only [S1, ↓reduceIte, Nat.reduceEqDiff, Nat.reduceAdd, Nat.reduceMul, Nat.reduceDiv, AOp.sb, AOp.mut, frzf, ↓Bool.false_eq_true, beq_self_eq_true, ite_self, Nat.reduceLeDiff, Int.reduceEq, Int.reduceSub, Int.reduceAdd, Int.reduceNeg, Int.reduceLT, Int.reduceLE, Nat.reduceLT, bz_Ref5]
    · simp (disch := (first | omega | assumption)) only [S1, ↓reduceIte, Nat.reduceEqDiff, Nat.reduceAdd, Nat.reduceMul, Nat.reduceDiv, AOp.sb, AOp.mut, frzf, ↓Bool.false_eq_true, beq_self_eq_true, ite_self, Nat.reduceLeDiff, Int.reduceEq, Int.reduceSub, Int.reduceAdd, Int.reduceNeg, Int.reduceLT, Int.reduceLE, Nat.reduceLT, bz_Ref5]
    · first | rfl | (simp (disch := (first | omega | assumption)) only [S1, ↓reduceIte, Nat.reduceEqDiff, Nat.reduceAdd, Nat.reduceMul, Nat.reduceDiv, AOp.sb, AOp.mut, frzf, ↓Bool.false_eq_true, beq_self_eq_true, ite_self, Nat.reduceLeDiff, Int.reduceEq, Int.reduceSub, Int.reduceAdd, Int.reduceNeg, Int.reduceLT, Int.reduceLE, Nat.reduceLT, bz_Ref5])
    refine smQ (ai @h (ai @sg_lt @bz_Ref5)) ?_
    refine hK _ ?_
    clear hK K
    try (refine hK _ ?_; clear hK K)
    refine spQ @bz_Ref5 ?_
    obtain ⟨x, hx⟩ : ∃ x, x = dg 256 (nv B a) := ⟨_, rfl⟩
    obtain ⟨y, hy⟩ : ∃ y, y = dg 256 (nv B b) := ⟨_, rfl⟩
    have hla := dg256_len ha
    have ea := nv_dg D2 (nv B a)
    have eb := nv_dg D2 (nv B b)
    have kx : Lt 256 x := by rw [hx]; exact dg_Lt (by decide) _
    have ky : Lt 256 y := by rw [hy]; exact dg_Lt (by decide) _
    have ty : tz y = y := by rw [hy]; exact tz_dg' _
    rw [← hx] at hla ea
    rw [← hy] at eb
    have sv : nv 256 (fl 256 x.length (nv 256 x + 256 ^ x.length - nv 256 (y.take x.length))) = nv B a - nv B b := by rw [sub_val kx ky (by omega) ty, ea, eb]
    try simp only [Sv, ↓reduceIte, Nat.reduceEqDiff]
    refine vm_reg (fun K hK => ?_)
    refine smQ @bz_Ref5 ?_
    refine clp_mk _ _ ?_ ?_ ?_ (digits_spec a ha (by omega)) ?_
    · simp (disch := (first | omega | assumption)) only [S1, ↓reduceIte, Nat.reduceEqDiff, Nat.reduceAdd, Nat.reduceMul, Nat.reduceDiv, AOp.sb, AOp.mut, frzf, ↓Bool.false_eq_true, beq_self_eq_true, ite_self, Nat.reduceLeDiff, Int.reduceEq, Int.reduceSub, Int.reduceAdd, Int.reduceNeg, Int.reduceLT, Int.reduceLE, Nat.reduceLT, bz_Ref5]
    · simp (disch := (first | omega | assumption)) only [S1, ↓reduceIte, Nat.reduceEqDiff, Nat.reduceAdd, Nat.reduceMul, Nat.reduceDiv, AOp.sb, AOp.mut, frzf, ↓Bool.false_eq_true, beq_self_eq_true, ite_self, Nat.reduceLeDiff, Int.reduceEq, Int.reduceSub, Int.reduceAdd, Int.reduceNeg, Int.reduceLT, Int.reduceLE, Nat.reduceLT, bz_Ref5]
    · first | rfl | (simp (disch := (first | omega | assumption)) only [S1, ↓reduceIte, Nat.reduceEqDiff, Nat.reduceAdd, Nat.reduceMul, Nat.reduceDiv, AOp.sb, AOp.mut, frzf, ↓Bool.false_eq_true, beq_self_eq_true, ite_self, Nat.reduceLeDiff, Int.reduceEq, Int.reduceSub, Int.reduceAdd, Int.reduceNeg, Int.reduceLT, Int.reduceLE, Nat.reduceLT, bz_Ref5])
    simp only [← hx]
    refine smQ @bz_Ref5 ?_
    refine clp_mk _ _ ?_ ?_ ?_ (digits_spec b hb (by omega)) ?_
    · simp (disch := (first | omega | assumption)) only [S1, ↓reduceIte, Nat.reduceEqDiff, Nat.reduceAdd, Nat.reduceMul, Nat.reduceDiv, AOp.sb, AOp.mut, frzf, ↓Bool.false_eq_true, beq_self_eq_true, ite_self, Nat.reduceLeDiff, Int.reduceEq, Int.reduceSub, Int.reduceAdd, Int.reduceNeg, Int.reduceLT, Int.reduceLE, Nat.reduceLT, bz_Ref5]
    · simp (disch := (first | omega | assumption)) only [S1, ↓reduceIte, Nat.reduceEqDiff, Nat.reduceAdd, Nat.reduceMul, Nat.reduceDiv, AOp.sb, AOp.mut, frzf, ↓Bool.false_eq_true, beq_self_eq_true, ite_self, Nat.reduceLeDiff, Int.reduceEq, Int.reduceSub, Int.reduceAdd, Int.reduceNeg, Int.reduceLT, Int.reduceLE, Nat.reduceLT, bz_Ref5]
    · first | rfl | (simp (disch := (first | omega | assumption)) only [S1, ↓reduceIte, Nat.reduceEqDiff, Nat.reduceAdd, Nat.reduceMul, Nat.reduceDiv, AOp.sb, AOp.mut, frzf, ↓Bool.false_eq_true, beq_self_eq_true, ite_self, Nat.reduceLeDiff, Int.reduceEq, Int.reduceSub, Int.reduceAdd, Int.reduceNeg, Int.reduceLT, Int.reduceLE, Nat.reduceLT, bz_Ref5])
    simp only [← hy]
    refine smQ @bz_Ref5 ?_
    refine clp_mk _ _ ?_ ?_ ?_ (dsub_spec x y kx ky (by omega)) ?_
    · simp (disch := (first | omega | assumption)) only [S1, ↓reduceIte, Nat.reduceEqDiff, Nat.reduceAdd, Nat.reduceMul, Nat.reduceDiv, AOp.sb, AOp.mut, frzf, ↓Bool.false_eq_true, beq_self_eq_true, ite_self, Nat.reduceLeDiff, Int.reduceEq, Int.reduceSub, Int.reduceAdd, Int.reduceNeg, Int.reduceLT, Int.reduceLE, Nat.reduceLT, bz_Ref5]
    · simp (disch := (first | omega | assumption)) only [S1, ↓reduceIte, Nat.reduceEqDiff, Nat.reduceAdd, Nat.reduceMul, Nat.reduceDiv, AOp.sb, AOp.mut, frzf, ↓Bool.false_eq_true, beq_self_eq_true, ite_self, Nat.reduceLeDiff, Int.reduceEq, Int.reduceSub, Int.reduceAdd, Int.reduceNeg, Int.reduceLT, Int.reduceLE, Nat.reduceLT, bz_Ref5]
    · first | rfl | (simp (disch := (first | omega | assumption)) only [S1, ↓reduceIte, Nat.reduceEqDiff, Nat.reduceAdd, Nat.reduceMul, Nat.reduceDiv, AOp.sb, AOp.mut, frzf, ↓Bool.false_eq_true, beq_self_eq_true, ite_self, Nat.reduceLeDiff, Int.reduceEq, Int.reduceSub, Int.reduceAdd, Int.reduceNeg, Int.reduceLT, Int.reduceLE, Nat.reduceLT, bz_Ref5])
    refine smQ @bz_Ref5 ?_
    refine clp_mk _ _ ?_ ?_ ?_ (of_spec (fl 256 x.length (nv 256 x + 256 ^ x.length - nv 256 (y.take x.length))) (fl_Lt (by decide) _ _) (by rw [fl_len]; omega)) ?_
    · simp (disch := (first | omega | assumption)) only [S1, ↓reduceIte, Nat.reduceEqDiff, Nat.reduceAdd, Nat.reduceMul, Nat.reduceDiv, AOp.sb, AOp.mut, frzf, ↓Bool.false_eq_true, beq_self_eq_true, ite_self, Nat.reduceLeDiff, Int.reduceEq, Int.reduceSub, Int.reduceAdd, Int.reduceNeg, Int.reduceLT, Int.reduceLE, Nat.reduceLT, bz_Ref5]
    · simp (disch := (first | omega | assumption)) only [S1, ↓reduceIte, Nat.reduceEqDiff, Nat.reduceAdd, Nat.reduceMul, Nat.reduceDiv, AOp.sb, AOp.mut, frzf, ↓Bool.false_eq_true, beq_self_eq_true, ite_self, Nat.reduceLeDiff, Int.reduceEq, Int.reduceSub, Int.reduceAdd, Int.reduceNeg, Int.reduceLT, Int.reduceLE, Nat.reduceLT, bz_Ref5]
    · first | rfl | (simp (disch := (first | omega | assumption)) only [S1, ↓reduceIte, Nat.reduceEqDiff, Nat.reduceAdd, Nat.reduceMul, Nat.reduceDiv, AOp.sb, AOp.mut, frzf, ↓Bool.false_eq_true, beq_self_eq_true, ite_self, Nat.reduceLeDiff, Int.reduceEq, Int.reduceSub, Int.reduceAdd, Int.reduceNeg, Int.reduceLT, Int.reduceLE, Nat.reduceLT, bz_Ref5])
    refine smQ (ai @sv @bz_Ref5) ?_
    refine hK _ ?_
    clear hK K
    try (refine hK _ ?_; clear hK K)
    refine spQ @bz_Ref5 ?_
    exact rtQ (ai @h @bz_Ref5)
def a16 : AC := .seq (.reg [qr 4 (.mv (.k .nl)),
 qr 5 (.mv (.k (.b false)))])
 (.seq (.seq (.reg [qm 6 0,
 qm 7 1,
 qr 8 (.call 36 [(1, (.t 6)), (1, (.t 7))]),
 qr 9 (.bin .lss (.t 8) (.k (.i .i64 0)))])
 (.cond (.t 9)
 (.seq (.reg [qm 10 1,
 qr 11 (.call 39 [(1, (.t 10))]),
 qm 12 0,
 qr 13 (.call 39 [(1, (.t 12))]),
 qr 14 (.call 38 [(1, (.t 11)), (1, (.t 13))]),
 qr 15 (.call 37 [(1, (.t 14))]),
 qm 4 15,
 qr 5 (.mv (.k (.b true)))])
 (.ret))
 (.skip)))
 (.seq (.reg [qm 16 0,
 qr 17 (.call 39 [(1, (.t 16))]),
 qm 18 1,
 qr 19 (.call 39 [(1, (.t 18))]),
 qr 20 (.call 38 [(1, (.t 17)), (1, (.t 19))]),
 qr 21 (.call 37 [(1, (.t 20))]),
 qm 4 21,
 qr 5 (.mv (.k (.b false)))])
 (.ret)))
theorem rdiff_spec (a b : List Nat) (ha : Wd a) (hb : Wd b) (la : a.length ≤ 100000000000) (lb : b.length ≤ 100000000000) :
    AFun Try.prog J0 16 [.l 1 (W a), .l 1 (W b)] (.t [.l 1 (W (if nv B a < nv B b then dg B (nv B b - nv B a) else dg B (nv B a - nv B b))), .b (decide (nv B a < nv B b))]) := by
  refine mkQ fol J0s Try.func16 a16 ?_
  unfold a16
  simp only [init_eq, initE, qm, qr, qn]
  by_cases h : nv B a < nv B b
  · refine spQ @bz_Ref5 ?_
    try simp only [Sv, ↓reduceIte, Nat.reduceEqDiff]
    refine vm_reg (fun K hK => ?_)
    refine smQ @bz_Ref5 ?_
    refine clp_mk _ _ ?_ ?_ ?_ (rcmp_spec a b ha hb la lb) ?_
    · simp (disch := (first | omega | assumption)) only [S1, ↓reduceIte, Nat.reduceEqDiff, Nat.reduceAdd, Nat.reduceMul, Nat.reduceDiv, AOp.sb, AOp.mut, frzf, ↓Bool.false_eq_true, beq_self_eq_true, ite_self, Nat.reduceLeDiff, Int.reduceEq, Int.reduceSub, Int.reduceAdd, Int.reduceNeg, Int.reduceLT, Int.reduceLE, Nat.reduceLT, bz_Ref5]
    · simp (disch := (first | omega | assumption)) only [S1, ↓reduceIte, Nat.reduceEqDiff, Nat.reduceAdd, Nat.reduceMul, Nat.reduceDiv, AOp.sb, AOp.mut, frzf, ↓Bool.false_eq_true, beq_self_eq_true, ite_self, Nat.reduceLeDiff, Int.reduceEq, Int.reduceSub, Int.reduceAdd, Int.reduceNeg, Int.reduceLT, Int.reduceLE, Nat.reduceLT, bz_Ref5]
    · first | rfl | (simp (disch := (first | omega | assumption)) only [S1, ↓reduceIte, Nat.reduceEqDiff, Nat.reduceAdd, Nat.reduceMul, Nat.reduceDiv, AOp.sb, AOp.mut, frzf, ↓Bool.false_eq_true, beq_self_eq_true, ite_self, Nat.reduceLeDiff, Int.reduceEq, Int.reduceSub, Int.reduceAdd, Int.reduceNeg, Int.reduceLT, Int.reduceLE, Nat.reduceLT, bz_Ref5])
    refine smQ (ai @h (ai @sg_lt @bz_Ref5)) ?_
    refine hK _ ?_
    clear hK K
    try (refine hK _ ?_; clear hK K)
    refine spQ @bz_Ref5 ?_
    obtain ⟨x, hx⟩ : ∃ x, x = dg 256 (nv B b) := ⟨_, rfl⟩
    obtain ⟨y, hy⟩ : ∃ y, y = dg 256 (nv B a) := ⟨_, rfl⟩
    have hla := dg256_len hb
    have ea := nv_dg D2 (nv B b)
    have eb := nv_dg D2 (nv B a)
    have kx : Lt 256 x := by rw [hx]; exact dg_Lt (by decide) _
    have ky : Lt 256 y := by rw [hy]; exact dg_Lt (by decide) _
    have ty : tz y = y := by rw [hy]; exact tz_dg' _
    rw [← hx] at hla ea
    rw [← hy] at eb
    have sv : nv 256 (fl 256 x.length (nv 256 x + 256 ^ x.length - nv 256 (y.take x.length))) = nv B b - nv B a := by rw [sub_val kx ky (by omega) ty, ea, eb]
    try simp only [Sv, ↓reduceIte, Nat.reduceEqDiff]
    refine vm_reg (fun K hK => ?_)
    refine smQ @bz_Ref5 ?_
    refine clp_mk _ _ ?_ ?_ ?_ (digits_spec b hb (by omega)) ?_
    · simp (disch := (first | omega | assumption)) only [S1, ↓reduceIte, Nat.reduceEqDiff, Nat.reduceAdd, Nat.reduceMul, Nat.reduceDiv, AOp.sb, AOp.mut, frzf, ↓Bool.false_eq_true, beq_self_eq_true, ite_self, Nat.reduceLeDiff, Int.reduceEq, Int.reduceSub, Int.reduceAdd, Int.reduceNeg, Int.reduceLT, Int.reduceLE, Nat.reduceLT, bz_Ref5]
    · simp (disch := (first | omega | assumption)) only [S1, ↓reduceIte, Nat.reduceEqDiff, Nat.reduceAdd, Nat.reduceMul, Nat.reduceDiv, AOp.sb, AOp.mut, frzf, ↓Bool.false_eq_true, beq_self_eq_true, ite_self, Nat.reduceLeDiff, Int.reduceEq, Int.reduceSub, Int.reduceAdd, Int.reduceNeg, Int.reduceLT, Int.reduceLE, Nat.reduceLT, bz_Ref5]
    · first | rfl | (simp (disch := (first | omega | assumption)) only [S1, ↓reduceIte, Nat.reduceEqDiff, Nat.reduceAdd, Nat.reduceMul, Nat.reduceDiv, AOp.sb, AOp.mut, frzf, ↓Bool.false_eq_true, beq_self_eq_true, ite_self, Nat.reduceLeDiff, Int.reduceEq, Int.reduceSub, Int.reduceAdd, Int.reduceNeg, Int.reduceLT, Int.reduceLE, Nat.reduceLT, bz_Ref5])
    simp only [← hx]
    refine smQ @bz_Ref5 ?_
    refine clp_mk _ _ ?_ ?_ ?_ (digits_spec a ha (by omega)) ?_
    · simp (disch := (first | omega | assumption)) only [S1, ↓reduceIte, Nat.reduceEqDiff, Nat.reduceAdd, Nat.reduceMul, Nat.reduceDiv, AOp.sb, AOp.mut, frzf, ↓Bool.false_eq_true, beq_self_eq_true, ite_self, Nat.reduceLeDiff, Int.reduceEq, Int.reduceSub, Int.reduceAdd, Int.reduceNeg, Int.reduceLT, Int.reduceLE, Nat.reduceLT, bz_Ref5]
    · simp (disch := (first | omega | assumption)) only [S1, ↓reduceIte, Nat.reduceEqDiff, Nat.reduceAdd, Nat.reduceMul, Nat.reduceDiv, AOp.sb, AOp.mut, frzf, ↓Bool.false_eq_true, beq_self_eq_true, ite_self, Nat.reduceLeDiff, Int.reduceEq, Int.reduceSub, Int.reduceAdd, Int.reduceNeg, Int.reduceLT, Int.reduceLE, Nat.reduceLT, bz_Ref5]
    · first | rfl | (simp (disch := (first | omega | assumption)) only [S1, ↓reduceIte, Nat.reduceEqDiff, Nat.reduceAdd, Nat.reduceMul, Nat.reduceDiv, AOp.sb, AOp.mut, frzf, ↓Bool.false_eq_true, beq_self_eq_true, ite_self, Nat.reduceLeDiff, Int.reduceEq, Int.reduceSub, Int.reduceAdd, Int.reduceNeg, Int.reduceLT, Int.reduceLE, Nat.reduceLT, bz_Ref5])
    simp only [← hy]
    refine smQ @bz_Ref5 ?_
    refine clp_mk _ _ ?_ ?_ ?_ (dsub_spec x y kx ky (by omega)) ?_
    · simp (disch := (first | omega | assumption)) only [S1, ↓reduceIte, Nat.reduceEqDiff, Nat.reduceAdd, Nat.reduceMul, Nat.reduceDiv, AOp.sb, AOp.mut, frzf, ↓Bool.false_eq_true, beq_self_eq_true, ite_self, Nat.reduceLeDiff, Int.reduceEq, Int.reduceSub, Int.reduceAdd, Int.reduceNeg, Int.reduceLT, Int.reduceLE, Nat.reduceLT, bz_Ref5]
    · simp (disch := (first | omega | assumption)) only [S1, ↓reduceIte, Nat.reduceEqDiff, Nat.reduceAdd, Nat.reduceMul, Nat.reduceDiv, AOp.sb, AOp.mut, frzf, ↓Bool.false_eq_true, beq_self_eq_true, ite_self, Nat.reduceLeDiff, Int.reduceEq, Int.reduceSub, Int.reduceAdd, Int.reduceNeg, Int.reduceLT, Int.reduceLE, Nat.reduceLT, bz_Ref5]
    · first | rfl | (simp (disch := (first | omega | assumption)) only [S1, ↓reduceIte, Nat.reduceEqDiff, Nat.reduceAdd, Nat.reduceMul, Nat.reduceDiv, AOp.sb, AOp.mut, frzf, ↓Bool.false_eq_true, beq_self_eq_true, ite_self, Nat.reduceLeDiff, Int.reduceEq, Int.reduceSub, Int.reduceAdd, Int.reduceNeg, Int.reduceLT, Int.reduceLE, Nat.reduceLT, bz_Ref5])
    refine smQ @bz_Ref5 ?_
    refine clp_mk _ _ ?_ ?_ ?_ (of_spec (fl 256 x.length (nv 256 x + 256 ^ x.length - nv 256 (y.take x.length))) (fl_Lt (by decide) _ _) (by rw [fl_len]; omega)) ?_
    · simp (disch := (first | omega | assumption)) only [S1, ↓reduceIte, Nat.reduceEqDiff, Nat.reduceAdd, Nat.reduceMul, Nat.reduceDiv, AOp.sb, AOp.mut, frzf, ↓Bool.false_eq_true, beq_self_eq_true, ite_self, Nat.reduceLeDiff, Int.reduceEq, Int.reduceSub, Int.reduceAdd, Int.reduceNeg, Int.reduceLT, Int.reduceLE, Nat.reduceLT, bz_Ref5]
    · simp (disch := (first | omega | assumption)) only [S1, ↓reduceIte, Nat.reduceEqDiff, Nat.reduceAdd, Nat.reduceMul, Nat.reduceDiv, AOp.sb, AOp.mut, frzf, ↓Bool.false_eq_true, beq_self_eq_true, ite_self, Nat.reduceLeDiff, Int.reduceEq, Int.reduceSub, Int.reduceAdd, Int.reduceNeg, Int.reduceLT, Int.reduceLE, Nat.reduceLT, bz_Ref5]
    · first | rfl | (simp (disch := (first | omega | assumption)) only [S1, ↓reduceIte, Nat.reduceEqDiff, Nat.reduceAdd, Nat.reduceMul, Nat.reduceDiv, AOp.sb, AOp.mut, frzf, ↓Bool.false_eq_true, beq_self_eq_true, ite_self, Nat.reduceLeDiff, Int.reduceEq, Int.reduceSub, Int.reduceAdd, Int.reduceNeg, Int.reduceLT, Int.reduceLE, Nat.reduceLT, bz_Ref5])
    refine smQ (ai @sv @bz_Ref5) ?_
    refine hK _ ?_
    clear hK K
    try (refine hK _ ?_; clear hK K)
    refine spQ @bz_Ref5 ?_
    exact rtQ (ai @h @bz_Ref5)
  · try (refine hK _ ?_; clear hK K)
    refine spQ @bz_Ref5 ?_
    try simp only [Sv, ↓reduceIte, Nat.reduceEqDiff]
    refine vm_reg (fun K hK => ?_)
    refine smQ @bz_Ref5 ?_
    refine clp_mk _ _ ?_ ?_ ?_ (rcmp_spec a b ha hb la lb) ?_
    · simp (disch := (first | omega | assumption)) only [S1, ↓reduceIte, Nat.reduceEqDiff, Nat.reduceAdd, Nat.reduceMul, Nat.reduceDiv, AOp.sb, AOp.mut, frzf, ↓Bool.false_eq_true, beq_self_eq_true, ite_self, Nat.reduceLeDiff, Int.reduceEq, Int.reduceSub, Int.reduceAdd, Int.reduceNeg, Int.reduceLT, Int.reduceLE, Nat.reduceLT, bz_Ref5]
    · simp (disch := (first | omega | assumption)) only [S1, ↓reduceIte, Nat.reduceEqDiff, Nat.reduceAdd, Nat.reduceMul, Nat.reduceDiv, AOp.sb, AOp.mut, frzf, ↓Bool.false_eq_true, beq_self_eq_true, ite_self, Nat.reduceLeDiff, Int.reduceEq, Int.reduceSub, Int.reduceAdd, Int.reduceNeg, Int.reduceLT, Int.reduceLE, Nat.reduceLT, bz_Ref5]
    · first | rfl | (simp (disch := (first | omega | assumption)) only [S1, ↓reduceIte, Nat.reduceEqDiff, Nat.reduceAdd, Nat.reduceMul, Nat.reduceDiv, AOp.sb, AOp.mut, frzf, ↓Bool.false_eq_true, beq_self_eq_true, ite_self, Nat.reduceLeDiff, Int.reduceEq, Int.reduceSub, Int.reduceAdd, Int.reduceNeg, Int.reduceLT, Int.reduceLE, Nat.reduceLT, bz_Ref5])
    refine smQ (ai @h (ai @sg_lt @bz_Ref5)) ?_
    refine hK _ ?_
    clear hK K
    try (refine hK _ ?_; clear hK K)
    refine spQ @bz_Ref5 ?_
    obtain ⟨x, hx⟩ : ∃ x, x = dg 256 (nv B a) := ⟨_, rfl⟩
    obtain ⟨y, hy⟩ : ∃ y, y = dg 256 (nv B b) := ⟨_, rfl⟩
    have hla := dg256_len ha
    have ea := nv_dg D2 (nv B a)
    have eb := nv_dg D2 (nv B b)
    have kx : Lt 256 x := by rw [hx]; exact dg_Lt (by decide) _
    have ky : Lt 256 y := by rw [hy]; exact dg_Lt (by decide) _
    have ty : tz y = y := by rw [hy]; exact tz_dg' _
    rw [← hx] at hla ea
    rw [← hy] at eb
    have sv : nv 256 (fl 256 x.length (nv 256 x + 256 ^ x.length - nv 256 (y.take x.length))) = nv B a - nv B b := by rw [sub_val kx ky (by omega) ty, ea, eb]
    try simp only [Sv, ↓reduceIte, Nat.reduceEqDiff]
    refine vm_reg (fun K hK => ?_)
    refine smQ @bz_Ref5 ?_
    refine clp_mk _ _ ?_ ?_ ?_ (digits_spec a ha (by omega)) ?_
    · simp (disch := (first | omega | assumption)) only [S1, ↓reduceIte, Nat.reduceEqDiff, Nat.reduceAdd, Nat.reduceMul, Nat.reduceDiv, AOp.sb, AOp.mut, frzf, ↓Bool.false_eq_true, beq_self_eq_true, ite_self, Nat.reduceLeDiff, Int.reduceEq, Int.reduceSub, Int.reduceAdd, Int.reduceNeg, Int.reduceLT, Int.reduceLE, Nat.reduceLT, bz_Ref5]
    · simp (disch := (first | omega | assumption)) only [S1, ↓reduceIte, Nat.reduceEqDiff, Nat.reduceAdd, Nat.reduceMul, Nat.reduceDiv, AOp.sb, AOp.mut, frzf, ↓Bool.false_eq_true, beq_self_eq_true, ite_self, Nat.reduceLeDiff, Int.reduceEq, Int.reduceSub, Int.reduceAdd, Int.reduceNeg, Int.reduceLT, Int.reduceLE, Nat.reduceLT, bz_Ref5]
    · first | rfl | (simp (disch := (first | omega | assumption)) only [S1, ↓reduceIte, Nat.reduceEqDiff, Nat.reduceAdd, Nat.reduceMul, Nat.reduceDiv, AOp.sb, AOp.mut, frzf, ↓Bool.false_eq_true, beq_self_eq_true, ite_self, Nat.reduceLeDiff, Int.reduceEq, Int.reduceSub, Int.reduceAdd, Int.reduceNeg, Int.reduceLT, Int.reduceLE, Nat.reduceLT, bz_Ref5])
    simp only [← hx]
    refine smQ @bz_Ref5 ?_
    refine clp_mk _ _ ?_ ?_ ?_ (digits_spec b hb (by omega)) ?_
    · simp (disch := (first | omega | assumption)) only [S1, ↓reduceIte, Nat.reduceEqDiff, Nat.reduceAdd, Nat.reduceMul, Nat.reduceDiv, AOp.sb, AOp.mut, frzf, ↓Bool.false_eq_true, beq_self_eq_true, ite_self, Nat.reduceLeDiff, Int.reduceEq, Int.reduceSub, Int.reduceAdd, Int.reduceNeg, Int.reduceLT, Int.reduceLE, Nat.reduceLT, bz_Ref5]
    · simp (disch := (first | omega | assumption)) only [S1, ↓reduceIte, Nat.reduceEqDiff, Nat.reduceAdd, Nat.reduceMul, Nat.reduceDiv, AOp.sb, AOp.mut, frzf, ↓Bool.false_eq_true, beq_self_eq_true, ite_self, Nat.reduceLeDiff, Int.reduceEq, Int.reduceSub, Int.reduceAdd, Int.reduceNeg, Int.reduceLT, Int.reduceLE, Nat.reduceLT, bz_Ref5]
    · first | rfl | (simp (disch := (first | omega | assumption)) only [S1, ↓reduceIte, Nat.reduceEqDiff, Nat.reduceAdd, Nat.reduceMul, Nat.reduceDiv, AOp.sb, AOp.mut, frzf, ↓Bool.false_eq_true, beq_self_eq_true, ite_self, Nat.reduceLeDiff, Int.reduceEq, Int.reduceSub, Int.reduceAdd, Int.reduceNeg, Int.reduceLT, Int.reduceLE, Nat.reduceLT, bz_Ref5])
    simp only [← hy]
    refine smQ @bz_Ref5 ?_
    refine clp_mk _ _ ?_ ?_ ?_ (dsub_spec x y kx ky (by omega)) ?_
    · simp (disch := (first | omega | assumption)) only [S1, ↓reduceIte, Nat.reduceEqDiff, Nat.reduceAdd, Nat.reduceMul, Nat.reduceDiv, AOp.sb, AOp.mut, frzf, ↓Bool.false_eq_true, beq_self_eq_true, ite_self, Nat.reduceLeDiff, Int.reduceEq, Int.reduceSub, Int.reduceAdd, Int.reduceNeg, Int.reduceLT, Int.reduceLE, Nat.reduceLT, bz_Ref5]
    · simp (disch := (first | omega | assumption)) only [S1, ↓reduceIte, Nat.reduceEqDiff, Nat.reduceAdd, Nat.reduceMul, Nat.reduceDiv, AOp.sb, AOp.mut, frzf, ↓Bool.false_eq_true, beq_self_eq_true, ite_self, Nat.reduceLeDiff, Int.reduceEq, Int.reduceSub, Int.reduceAdd, Int.reduceNeg, Int.reduceLT, Int.reduceLE, Nat.reduceLT, bz_Ref5]
    · first | rfl | (simp (disch := (first | omega | assumption)) only [S1, ↓reduceIte, Nat.reduceEqDiff, Nat.reduceAdd, Nat.reduceMul, Nat.reduceDiv, AOp.sb, AOp.mut, frzf, ↓Bool.false_eq_true, beq_self_eq_true, ite_self, Nat.reduceLeDiff, Int.reduceEq, Int.reduceSub, Int.reduceAdd, Int.reduceNeg, Int.reduceLT, Int.reduceLE, Nat.reduceLT, bz_Ref5])
    refine smQ @bz_Ref5 ?_
    refine clp_mk _ _ ?_ ?_ ?_ (of_spec (fl 256 x.length (nv 256 x + 256 ^ x.length - nv 256 (y.take x.length))) (fl_Lt (by decide) _ _) (by rw [fl_len]; omega)) ?_
    · simp (disch := (first | omega | assumption)) only [S1, ↓reduceIte, Nat.reduceEqDiff, Nat.reduceAdd, Nat.reduceMul, Nat.reduceDiv, AOp.sb, AOp.mut, frzf, ↓Bool.false_eq_true, beq_self_eq_true, ite_self, Nat.reduceLeDiff, Int.reduceEq, Int.reduceSub, Int.reduceAdd, Int.reduceNeg, Int.reduceLT, Int.reduceLE, Nat.reduceLT, bz_Ref5]
    · simp (disch := (first | omega | assumption)) only [S1, ↓reduceIte, Nat.reduceEqDiff, Nat.reduceAdd, Nat.reduceMul, Nat.reduceDiv, AOp.sb, AOp.mut, frzf, ↓Bool.false_eq_true, beq_self_eq_true, ite_self, Nat.reduceLeDiff, Int.reduceEq, Int.reduceSub, Int.reduceAdd, Int.reduceNeg, Int.reduceLT, Int.reduceLE, Nat.reduceLT, bz_Ref5]
    · first | rfl | (simp (disch := (first | omega | assumption)) only [S1, ↓reduceIte, Nat.reduceEqDiff, Nat.reduceAdd, Nat.reduceMul, Nat.reduceDiv, AOp.sb, AOp.mut, frzf, ↓Bool.false_eq_true, beq_self_eq_true, ite_self, Nat.reduceLeDiff, Int.reduceEq, Int.reduceSub, Int.reduceAdd, Int.reduceNeg, Int.reduceLT, Int.reduceLE, Nat.reduceLT, bz_Ref5])
    refine smQ (ai @sv @bz_Ref5) ?_
    refine hK _ ?_
    clear hK K
    try (refine hK _ ?_; clear hK K)
    refine spQ @bz_Ref5 ?_
    exact rtQ (ai @h @bz_Ref5)
theorem Wd1 {x : Nat} (h : x < 18446744073709551616) : Wd [x] := fun y hy => by rw [List.mem_singleton] at hy; rw [hy]; exact h
theorem Wd2 {x y : Nat} (h : x < 18446744073709551616) (k : y < 18446744073709551616) : Wd [x, y] := fun z hz => by
  rcases List.mem_cons.1 hz with h1 | h1
  · rw [h1]; exact h
  · rw [List.mem_singleton.1 h1]; exact k
def a4 : AC := .seq (.reg [qr 0 (.mv (.k (.b false)))])
 (.seq (.reg [qr 1 (.bsl 45 1 1 [(.i .u64 0)] [(0, (.k (.i .u64 18446744073709551615)))]),
 qr 2 (.bsl 45 1 1 [(.i .u64 0)] [(0, (.k (.i .u64 1)))]),
 qr 3 (.call 6 [(1, (.t 1)), (1, (.t 2))]),
 qr 4 (.bsl 45 1 2 [(.i .u64 0), (.i .u64 0)] [(0, (.k (.i .u64 0))), (1, (.k (.i .u64 1)))]),
 qr 5 (.call 20 [(1, (.t 3)), (1, (.t 4))]),
 qm 6 5,
 ⟨some 7, some (6, true), .bsl 45 1 2 [(.i .u64 0), (.i .u64 0)] [(0, (.k (.i .u64 2))), (1, (.k (.i .u64 0)))]⟩,
 ⟨some 8, some (6, true), .bsl 45 1 1 [(.i .u64 0)] [(0, (.k (.i .u64 1)))]⟩,
 ⟨some 9, some (6, true), .call 26 [(1, (.t 7)), (1, (.t 8))]⟩,
 ⟨some 10, some (6, true), .bin .eql (.t 9) (.k (.i .i64 1))⟩,
 qr 11 (.pick (.t 6) (.t 10) (.k (.b false))),
 qm 0 11])
 (.ret))
theorem known_spec : AFun Try.prog J0 4 [] (.b true) := by
  refine mkQ fol J0s Try.func4 a4 ?_
  unfold a4
  simp only [init_eq, initE, qm, qr, qn]
  refine spQ @bz_Ref5 ?_
  try simp only [Sv, ↓reduceIte, Nat.reduceEqDiff]
  refine vm_reg (fun K hK => ?_)
  refine smQ @bz_Ref5 ?_
  refine clp_mk _ _ ?_ ?_ ?_ (add_spec [18446744073709551615] [1] (Wd1 (by decide)) (Wd1 (by decide)) (by decide) (by decide)) ?_
  · simp (disch := (first | omega | assumption)) only [S1, ↓reduceIte, Nat.reduceEqDiff, Nat.reduceAdd, Nat.reduceMul, Nat.reduceDiv, AOp.sb, AOp.mut, frzf, ↓Bool.false_eq_true, beq_self_eq_true, ite_self, Nat.reduceLeDiff, Int.reduceEq, Int.reduceSub, Int.reduceAdd, Int.reduceNeg, Int.reduceLT, Int.reduceLE, Nat.reduceLT, bz_Ref5]
  · simp (disch := (first | omega | assumption)) only [S1, ↓reduceIte, Nat.reduceEqDiff, Nat.reduceAdd, Nat.reduceMul, Nat.reduceDiv, AOp.sb, AOp.mut, frzf, ↓Bool.false_eq_true, beq_self_eq_true, ite_self, Nat.reduceLeDiff, Int.reduceEq, Int.reduceSub, Int.reduceAdd, Int.reduceNeg, Int.reduceLT, Int.reduceLE, Nat.reduceLT, bz_Ref5]
  · first | rfl | (simp (disch := (first | omega | assumption)) only [S1, ↓reduceIte, Nat.reduceEqDiff, Nat.reduceAdd, Nat.reduceMul, Nat.reduceDiv, AOp.sb, AOp.mut, frzf, ↓Bool.false_eq_true, beq_self_eq_true, ite_self, Nat.reduceLeDiff, Int.reduceEq, Int.reduceSub, Int.reduceAdd, Int.reduceNeg, Int.reduceLT, Int.reduceLE, Nat.reduceLT, bz_Ref5])
  have e1 : dg B (nv B [18446744073709551615] + nv B [1]) = [0, 1] := by rw [show nv B [18446744073709551615] + nv B [1] = nv B [0, 1] from rfl, ← tz_dg B2 (Wd2 (by decide) (by decide))]; rfl
  refine smQ (ai @e1 @bz_Ref5) ?_
  refine clp_mk _ _ ?_ ?_ ?_ (same_spec [0, 1] [0, 1] (by decide) (by decide)) ?_
  · simp (disch := (first | omega | assumption)) only [S1, ↓reduceIte, Nat.reduceEqDiff, Nat.reduceAdd, Nat.reduceMul, Nat.reduceDiv, AOp.sb, AOp.mut, frzf, ↓Bool.false_eq_true, beq_self_eq_true, ite_self, Nat.reduceLeDiff, Int.reduceEq, Int.reduceSub, Int.reduceAdd, Int.reduceNeg, Int.reduceLT, Int.reduceLE, Nat.reduceLT, bz_Ref5]
  · simp (disch := (first | omega | assumption)) only [S1, ↓reduceIte, Nat.reduceEqDiff, Nat.reduceAdd, Nat.reduceMul, Nat.reduceDiv, AOp.sb, AOp.mut, frzf, ↓Bool.false_eq_true, beq_self_eq_true, ite_self, Nat.reduceLeDiff, Int.reduceEq, Int.reduceSub, Int.reduceAdd, Int.reduceNeg, Int.reduceLT, Int.reduceLE, Nat.reduceLT, bz_Ref5]
  · first | rfl | (simp (disch := (first | omega | assumption)) only [S1, ↓reduceIte, Nat.reduceEqDiff, Nat.reduceAdd, Nat.reduceMul, Nat.reduceDiv, AOp.sb, AOp.mut, frzf, ↓Bool.false_eq_true, beq_self_eq_true, ite_self, Nat.reduceLeDiff, Int.reduceEq, Int.reduceSub, Int.reduceAdd, Int.reduceNeg, Int.reduceLT, Int.reduceLE, Nat.reduceLT, bz_Ref5])
  refine smQ @bz_Ref5 ?_
  refine clp_mk _ _ ?_ ?_ ?_ (cmp_spec [2, 0] [1] (Wd2 (by decide) (by decide)) (Wd1 (by decide)) (by decide) (by decide)) ?_
  · simp (disch := (first | omega | assumption)) only [S1, ↓reduceIte, Nat.reduceEqDiff, Nat.reduceAdd, Nat.reduceMul, Nat.reduceDiv, AOp.sb, AOp.mut, frzf, ↓Bool.false_eq_true, beq_self_eq_true, ite_self, Nat.reduceLeDiff, Int.reduceEq, Int.reduceSub, Int.reduceAdd, Int.reduceNeg, Int.reduceLT, Int.reduceLE, Nat.reduceLT, bz_Ref5]
  · simp (disch := (first | omega | assumption)) only [S1, ↓reduceIte, Nat.reduceEqDiff, Nat.reduceAdd, Nat.reduceMul, Nat.reduceDiv, AOp.sb, AOp.mut, frzf, ↓Bool.false_eq_true, beq_self_eq_true, ite_self, Nat.reduceLeDiff, Int.reduceEq, Int.reduceSub, Int.reduceAdd, Int.reduceNeg, Int.reduceLT, Int.reduceLE, Nat.reduceLT, bz_Ref5]
  · first | rfl | (simp (disch := (first | omega | assumption)) only [S1, ↓reduceIte, Nat.reduceEqDiff, Nat.reduceAdd, Nat.reduceMul, Nat.reduceDiv, AOp.sb, AOp.mut, frzf, ↓Bool.false_eq_true, beq_self_eq_true, ite_self, Nat.reduceLeDiff, Int.reduceEq, Int.reduceSub, Int.reduceAdd, Int.reduceNeg, Int.reduceLT, Int.reduceLE, Nat.reduceLT, bz_Ref5])
  have e2 : sg (nv B [2, 0]) (nv B [1]) = 1 := by decide
  refine smQ (ai @e2 @bz_Ref5) ?_
  refine hK _ ?_
  clear hK K
  try (refine hK _ ?_; clear hK K)
  refine spQ @bz_Ref5 ?_
  exact rtQ @bz_Ref5
end Go.Proofs.Ytdafakcccjjpiaa
