/-
  LexKeeps: the law's walk between the pieces and the marks.
-/
import Derived.Test.YtjfbkegdnljfjaaLK1
namespace Go.Proofs.Ytjfbkegdnljfjaa
open Go Go.RowKit Ab
set_option linter.unusedSimpArgs false
set_option linter.unusedVariables false
set_option maxHeartbeats 10000000
theorem bz_LK3 : type_of% (And.intro @wi (And.intro @tn_nat (And.intro @tn0 (And.intro @Nat.div_one (And.intro @Nat.mul_one (And.intro @T_len (And.intro @m3 (And.intro @T_row (And.intro @T_nf (And.intro @T_app1 (And.intro @Tv_nf (And.intro @PT_len (@PT_app1))))))))))))) := And.intro @wi (And.intro @tn_nat (And.intro @tn0 (And.intro @Nat.div_one (And.intro @Nat.mul_one (And.intro @T_len (And.intro @m3 (And.intro @T_row (And.intro @T_nf (And.intro @T_app1 (And.intro @Tv_nf (And.intro @PT_len (@PT_app1))))))))))))
def drp : Nat → AC → AC
  | 0, A => A
  | n + 1, A => drp n A.p2
theorem T_set : ∀ (l : List Tk) (i : Nat) (k : Int) (t : List UInt8) (a : Int), setAt (T l) (i * 3) [.i .i64 k, .s t, .i .i64 a] = T (l.set i ⟨k, t, a⟩)
  | [], i, k, t, a => by simp [T, setAt]
  | x :: r, 0, k, t, a => rfl
  | x :: r, i + 1, k, t, a => by
    have := T_set r i k t a
    rw [show (i + 1) * 3 = i * 3 + 1 + 1 + 1 from by omega]
    simp only [setAt] at this ⊢
    show (((Tv x ++ T r).set (i * 3 + 1 + 1 + 1) _).set (i * 3 + 1 + 1 + 1 + 1) _).set (i * 3 + 1 + 1 + 1 + 1 + 1) _ = Tv x ++ T (r.set i ⟨k, t, a⟩)
    rw [← this]; rfl
theorem T_set3 (l : List Tk) (i : Nat) (k : Int) (t : List UInt8) (a : Int) : (((T l).set (i * 3) (.i .i64 k)).set (i * 3 + 1) (.s t)).set (i * 3 + 1 + 1) (.i .i64 a) = T (l.set i ⟨k, t, a⟩) := T_set l i k t a
theorem room9 (l : List Tk) : (T (l ++ [r9, r8])).getD (l.length * 3 + 0) .un = .i .i64 9 := by
  rw [T_k _ _ (by simp)]
  simp [r9]
theorem room8 (l : List Tk) : (T (l ++ [r9, r8])).getD ((l.length + 1) * 3 + 0) .un = .i .i64 8 := by
  rw [T_k _ _ (by simp)]
  simp [List.getD_eq_getElem?_getD, r8]
theorem k3_walk (ts toks : List Tk) (ps : List (List Tk)) (cs15 cs17 : List V) (hl : ts.length ≤ 1100000) (hx : toks.length ≤ 1000) (ht : tot ts ≤ 1000000000) (h15 : cs15.length = ps.length) (h17 : cs17.length = ps.length) :
    avc (AFun Try.prog J0) (XFun Try.prog) (chain 5 (drp 10 a3)) (fun ex st => ex = .normal ∧ True)
      ⟨[(1, .l 3 (T ts)), (5, .l 3 (T (ts ++ [r9, r8]))), (6, .l 3 (T ts)), (9, .l 1 (PT ps)), (11, .ow 3 0 toks.length), (15, .l 1 cs15), (17, .l 1 cs17)], [(0, some ⟨27, 3, T toks, true, false⟩), (1, some ⟨27, 3, [], true, false⟩)], 2⟩ := by
  have hd1 : ts.length * 3 / 3 = ts.length := by omega
  have hd2 : (ts.length + (0 + 1 + 1)) * 3 / 3 = ts.length + (0 + 1 + 1) := by omega
  have hr9 := room9 ts
  have hr8 := room8 ts
  have hLL : (ts ++ [r9, r8]).length = ts.length + 2 := by simp
  have w1 : IntKind.i64.wrap ((ts.length : Int) + 1) = ((ts.length + 1 : Nat) : Int) := by rw [wi (by omega)]; rfl
  have z1 := join_raw ts (by omega) ht
  have z2 := nest_spec ts (by omega)
  have z3 := match_spec ts 0 (by omega)
  have z4 := from_spec ts (by omega)
  have z5 := same_spec ts ts (by omega) (by omega)
  rw [decide_eq_true rfl] at z5
  apply vm_start
  unfold a3
  simp only [init_eq, initE, chain, drp, AC.p1, AC.p2]
  have zc1 := z1
  have zc2 := z2
  have zc3 := z3
  have zc4 := z4
  have zc5 := z5
  repeat first | (refine hK _ ?_; clear hK K) | simp only [Sv, ↓reduceIte, Nat.reduceEqDiff] | ((first | refine vm_reg (fun K hK => ?_) | refine vm_dreg (fun K hK => ?_) | refine vm_dregx (fun K hK => ?_) | refine clp_q ?_ | refine clq_mk (by assumption) ?_ | refine mcq_q ?_ | (apply mcr_mk; assumption) | (apply ocr_mk; assumption)); simp (disch := (first | omega | assumption)) only [S1, ↓reduceIte, Nat.reduceEqDiff, Nat.reduceAdd, Nat.reduceMul, Nat.reduceDiv, AOp.sb, AOp.mut, frzf, ↓Bool.false_eq_true, beq_self_eq_true, ite_self, Nat.reduceLeDiff, Int.reduceEq, Int.reduceSub, Int.reduceAdd, Int.reduceNeg, Int.reduceLT, Int.reduceLE, Nat.reduceLT, bz_LK3, hd1, hLL, hr9, hr8, w1, h15, h17])
  refine vm_loopA [] (Nat × List Tk) (fun x => ⟨[(11, .ow 3 0 toks.length), (113, .i .i64 (toks.length : Int)), (114, .i .i64 (x.1 : Int))], [(0, some ⟨27, 3, T x.2, true, false⟩), (1, some ⟨27, 3, [], true, false⟩)], 2⟩)
    (fun x => x.1 ≤ toks.length ∧ x.2.length = toks.length) (fun x => toks.length - x.1) (0, toks) ⟨Nat.zero_le _, rfl⟩ (by simp (disch := (first | omega | assumption)) only [Sl, Sa, Sw, ↓reduceIte, Nat.reduceEqDiff, Nat.reduceLT, List.all_nil, List.all_cons, Nat.reduceBneDiff, Nat.reduceAdd, bne_iff_ne, ne_eq, reduceCtorEq, not_false_eq_true, not_true_eq_false, Bool.and_true, Bool.true_and, and_true, true_and, and_self]) (by
    simp (disch := (first | omega | assumption)) only [Sl, Sa, Sw, ↓reduceIte, Nat.reduceEqDiff, Nat.reduceLT, List.all_nil, List.all_cons, Nat.reduceBneDiff, Nat.reduceAdd, bne_iff_ne, ne_eq, reduceCtorEq, not_false_eq_true, not_true_eq_false, Bool.and_true, Bool.true_and, and_true, true_and, and_self, i_eq]
    repeat' first | rfl | omega | (simp only [List.length_append, List.length_cons, List.length_nil]; done) | apply And.intro) ?_
  rintro ⟨i, l⟩ ⟨hi, hll⟩ Q' hQ he hr
  simp only [] at hi hll ⊢
  by_cases hlt : (i : Int) < toks.length
  · repeat first
      | (refine hK _ ?_; clear hK K)
      | ((first | refine vm_reg (fun K hK => ?_) | refine vm_dreg (fun K hK => ?_) | refine vm_dregx (fun K hK => ?_)); simp (disch := (first | omega | assumption)) only [S1, ↓reduceIte, Nat.reduceEqDiff, Nat.reduceAdd, Nat.reduceMul, Nat.reduceDiv, AOp.sb, AOp.mut, frzf, ↓Bool.false_eq_true, beq_self_eq_true, ite_self, Nat.reduceLeDiff, Int.reduceEq, Int.reduceSub, Int.reduceAdd, Int.reduceNeg, Int.reduceLT, Int.reduceLE, Nat.reduceLT, bz_LK3, hlt, T_set3, hll]; refine hK _ ?_; clear hK K)
      | simp only [Sv, ↓reduceIte, Nat.reduceEqDiff]
    refine hQ _ (i + 1, l.set i ⟨-1, [], 0⟩) ⟨by simp only; omega, by simp only [List.length_set]; exact hll⟩ (by simp only; omega) ?_
    simp (disch := (first | omega | assumption)) only [Sl, Sa, Sw, ↓reduceIte, Nat.reduceEqDiff, Nat.reduceLT, List.all_nil, List.all_cons, Nat.reduceBneDiff, Nat.reduceAdd, bne_iff_ne, ne_eq, reduceCtorEq, not_false_eq_true, not_true_eq_false, Bool.and_true, Bool.true_and, and_true, true_and, and_self, i_eq]
    repeat' first | rfl | omega | (simp only [List.length_append, List.length_cons, List.length_nil]; done) | apply And.intro
  · obtain rfl : i = toks.length := by omega
    have h6 : (toks.length + 2) * 32 ≤ 70368744177664 := by omega
    repeat first
      | (refine hK _ ?_; clear hK K)
      | ((first | refine vm_reg (fun K hK => ?_) | refine vm_dreg (fun K hK => ?_) | refine vm_dregx (fun K hK => ?_)); simp (disch := (first | omega | assumption)) only [S1, ↓reduceIte, Nat.reduceEqDiff, Nat.reduceAdd, Nat.reduceMul, Nat.reduceDiv, AOp.sb, AOp.mut, frzf, ↓Bool.false_eq_true, beq_self_eq_true, ite_self, Nat.reduceLeDiff, Int.reduceEq, Int.reduceSub, Int.reduceAdd, Int.reduceNeg, Int.reduceLT, Int.reduceLE, Nat.reduceLT, bz_LK3, hlt]; refine hK _ ?_; clear hK K)
      | simp only [Sv, ↓reduceIte, Nat.reduceEqDiff]
    refine he _ _ ?_
    repeat first
      | (refine hK _ ?_; clear hK K)
      | ((first | refine vm_reg (fun K hK => ?_) | refine vm_dreg (fun K hK => ?_) | refine vm_dregx (fun K hK => ?_)); simp (disch := (first | omega | assumption)) only [S1, ↓reduceIte, Nat.reduceEqDiff, Nat.reduceAdd, Nat.reduceMul, Nat.reduceDiv, AOp.sb, AOp.mut, frzf, ↓Bool.false_eq_true, beq_self_eq_true, ite_self, Nat.reduceLeDiff, Int.reduceEq, Int.reduceSub, Int.reduceAdd, Int.reduceNeg, Int.reduceLT, Int.reduceLE, Nat.reduceLT, bz_LK3, hll]; refine hK _ ?_; clear hK K)
      | simp only [Sv, ↓reduceIte, Nat.reduceEqDiff]
    exact ⟨trivial, trivial⟩
end Go.Proofs.Ytjfbkegdnljfjaa
