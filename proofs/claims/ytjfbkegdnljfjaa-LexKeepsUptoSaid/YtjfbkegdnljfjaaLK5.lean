/-
  LexKeeps: the law's walk behind the marks.
-/
import Derived.Test.YtjfbkegdnljfjaaLK3
namespace Go.Proofs.Ytjfbkegdnljfjaa
open Go Go.RowKit Ab
set_option linter.unusedSimpArgs false
set_option linter.unusedVariables false
set_option maxHeartbeats 10000000
theorem bz_LK5 : type_of% (And.intro @wi (And.intro @tn_nat (And.intro @tn0 (And.intro @Nat.div_one (And.intro @Nat.mul_one (And.intro @T_len (And.intro @m3 (And.intro @T_row (And.intro @T_nf (And.intro @T_app1 (And.intro @Tv_nf (And.intro @PT_len (@PT_app1))))))))))))) := And.intro @wi (And.intro @tn_nat (And.intro @tn0 (And.intro @Nat.div_one (And.intro @Nat.mul_one (And.intro @T_len (And.intro @m3 (And.intro @T_row (And.intro @T_nf (And.intro @T_app1 (And.intro @Tv_nf (And.intro @PT_len (@PT_app1))))))))))))
def mkd (k n : Nat) : List Tk := List.replicate n ⟨-4 - (k : Int), [], 0⟩
theorem PT_cellA (ps : List (List Tk)) : (PT ps).all V.cell = true := by rw [List.all_eq_true]; intro x hx; simp only [PT, List.mem_map] at hx; obtain ⟨p, _, rfl⟩ := hx; rfl
theorem k5_walk (ts toks : List Tk) (ps qs : List (List Tk)) (hl : ts.length ≤ 1100000) (hx : toks.length ≤ 1000) (hm : ps.length ≤ 1100001) (hq : qs.length = ps.length) (hqk : ∀ k, k < ps.length → qs.getD k [] = mkd k (ps.getD k []).length) (hpl : ∀ k, k < ps.length → (ps.getD k []).length ≤ 1100000) :
    avc (AFun Try.prog J0) (XFun Try.prog) (drp 17 a3) (fun ex st => ex = .ret ∧ st.get 4 = .b true)
      ⟨[(1, .l 3 (T ts)), (5, .ow 3 0 (ts.length + 2)), (6, .sl 3 0 0 ts.length), (7, .l 3 (T toks)), (9, .l 1 (PT ps)), (13, .l 3 (T toks)), (15, .ow 1 1 ps.length), (17, .l 1 (PT ps))], [(0, some ⟨27, 3, T (ts ++ [r9, r8]), true, false⟩), (1, some ⟨24, 1, PT qs, true, false⟩)], 2⟩ := by
  have hd1 : ts.length * 3 / 3 = ts.length := by omega
  have hLL : (ts ++ [r9, r8]).length = ts.length + 2 := by simp
  have htk : (T (ts ++ [r9, r8])).take (ts.length * 3) = T ts := by rw [T_take, List.take_left]
  apply vm_start
  unfold a3
  simp only [init_eq, initE, chain, drp, AC.p1, AC.p2]
  repeat first
    | (refine hK _ ?_; clear hK K)
    | ((first | refine vm_reg (fun K hK => ?_) | refine vm_dreg (fun K hK => ?_) | refine vm_dregx (fun K hK => ?_)); simp (disch := (first | omega | assumption)) only [S1, ↓reduceIte, Nat.reduceEqDiff, Nat.reduceAdd, Nat.reduceMul, Nat.reduceDiv, AOp.sb, AOp.mut, frzf, ↓Bool.false_eq_true, beq_self_eq_true, ite_self, Nat.reduceLeDiff, Int.reduceEq, Int.reduceSub, Int.reduceAdd, Int.reduceNeg, Int.reduceLT, Int.reduceLE, Nat.reduceLT, bz_LK5, hd1]; refine hK _ ?_; clear hK K)
    | simp only [Sv, ↓reduceIte, Nat.reduceEqDiff]
  refine vm_loopA [] Nat (fun k => ⟨[(1, .l 3 (T ts)), (5, .ow 3 0 (ts.length + 2)), (6, .sl 3 0 0 ts.length), (7, .l 3 (T toks)), (9, .l 1 (PT ps)), (13, .l 3 (T toks)), (15, .ow 1 1 ps.length), (17, .l 1 (PT ps)), (159, .i .i64 (ps.length : Int)), (160, .i .i64 (k : Int))], [(0, some ⟨27, 3, T (ts ++ [r9, r8]), true, false⟩), (1, some ⟨24, 1, PT qs, true, false⟩)], 2⟩)
    (fun k => k ≤ ps.length) (fun k => ps.length - k) 0 (Nat.zero_le _) (by simp (disch := (first | omega | assumption)) only [Sl, Sa, Sw, ↓reduceIte, Nat.reduceEqDiff, Nat.reduceLT, List.all_nil, List.all_cons, Nat.reduceBneDiff, Nat.reduceAdd, bne_iff_ne, ne_eq, reduceCtorEq, not_false_eq_true, not_true_eq_false, Bool.and_true, Bool.true_and, and_true, true_and, and_self]) (by
    simp (disch := (first | omega | assumption)) only [Sl, Sa, Sw, ↓reduceIte, Nat.reduceEqDiff, Nat.reduceLT, List.all_nil, List.all_cons, Nat.reduceBneDiff, Nat.reduceAdd, bne_iff_ne, ne_eq, reduceCtorEq, not_false_eq_true, not_true_eq_false, Bool.and_true, Bool.true_and, and_true, true_and, and_self, i_eq]
    repeat' first | rfl | omega | (simp only [List.length_append, List.length_cons, List.length_nil]; done) | apply And.intro) ?_
  intro k hk Q' hQ he hr
  by_cases hlt : (k : Int) < ps.length
  · have hg := PT_get qs k (by omega)
    rw [hqk k (by omega)] at hg
    have hml : (mkd k (ps.getD k []).length).length = (ps.getD k []).length := by simp [mkd]
    have hpk := hpl k (by omega)
    generalize (ps.getD k []).length = n at *
    have hdn : (mkd k n).length * 3 / 3 = n := by rw [hml]; omega
    have hdn2 : n * 3 / 3 = n := by omega
    repeat first
      | (refine hK _ ?_; clear hK K)
      | ((first | refine vm_reg (fun K hK => ?_) | refine vm_dreg (fun K hK => ?_) | refine vm_dregx (fun K hK => ?_)); simp (disch := (first | omega | assumption)) only [S1, ↓reduceIte, Nat.reduceEqDiff, Nat.reduceAdd, Nat.reduceMul, Nat.reduceDiv, AOp.sb, AOp.mut, frzf, ↓Bool.false_eq_true, beq_self_eq_true, ite_self, Nat.reduceLeDiff, Int.reduceEq, Int.reduceSub, Int.reduceAdd, Int.reduceNeg, Int.reduceLT, Int.reduceLE, Nat.reduceLT, bz_LK5, hlt, hg, hml, hdn2]; refine hK _ ?_; clear hK K)
      | simp only [Sv, ↓reduceIte, Nat.reduceEqDiff]
    refine vm_loopA [] Nat (fun i => ⟨[(1, .l 3 (T ts)), (5, .ow 3 0 (ts.length + 2)), (6, .sl 3 0 0 ts.length), (7, .l 3 (T toks)), (9, .l 1 (PT ps)), (13, .l 3 (T toks)), (15, .ow 1 1 ps.length), (17, .l 1 (PT ps)), (159, .i .i64 (ps.length : Int)), (160, .i .i64 (k : Int)), (22, .i .i64 (k : Int)), (167, .i .i64 (n : Int)), (168, .i .i64 (i : Int))], [(0, some ⟨27, 3, T (ts ++ [r9, r8]), true, false⟩), (1, some ⟨24, 1, PT qs, true, false⟩)], 2⟩)
      (fun i => i ≤ n) (fun i => n - i) 0 (Nat.zero_le _) (by simp (disch := (first | omega | assumption)) only [Sl, Sa, Sw, ↓reduceIte, Nat.reduceEqDiff, Nat.reduceLT, List.all_nil, List.all_cons, Nat.reduceBneDiff, Nat.reduceAdd, bne_iff_ne, ne_eq, reduceCtorEq, not_false_eq_true, not_true_eq_false, Bool.and_true, Bool.true_and, and_true, true_and, and_self]) (by
      simp (disch := (first | omega | assumption)) only [Sl, Sa, Sw, ↓reduceIte, Nat.reduceEqDiff, Nat.reduceLT, List.all_nil, List.all_cons, Nat.reduceBneDiff, Nat.reduceAdd, bne_iff_ne, ne_eq, reduceCtorEq, not_false_eq_true, not_true_eq_false, Bool.and_true, Bool.true_and, and_true, true_and, and_self, i_eq]
      repeat' first | rfl | omega | (simp only [List.length_append, List.length_cons, List.length_nil]; done) | apply And.intro) ?_
    intro i hi Q2 hQ2 he2 hr2
    by_cases hlt2 : (i : Int) < n
    · have hcell : (T (mkd k n)).getD (i * 3 + 0) .un = .i .i64 (-4 - (k : Int)) := by
        rw [T_k _ _ (by rw [hml]; omega)]
        simp [mkd, List.getD_eq_getElem?_getD, show i < n by omega]
      have hw : IntKind.i64.wrap (-4 - (k : Int)) = -4 - (k : Int) := wi (by omega)
      have hes : (-4 - (k : Int) = -4 - (k : Int)) = True := eq_self _
      repeat first
        | (refine hK _ ?_; clear hK K)
        | ((first | refine vm_reg (fun K hK => ?_) | refine vm_dreg (fun K hK => ?_) | refine vm_dregx (fun K hK => ?_)); simp (disch := (first | omega | assumption)) only [S1, ↓reduceIte, Nat.reduceEqDiff, Nat.reduceAdd, Nat.reduceMul, Nat.reduceDiv, AOp.sb, AOp.mut, frzf, ↓Bool.false_eq_true, beq_self_eq_true, ite_self, Nat.reduceLeDiff, Int.reduceEq, Int.reduceSub, Int.reduceAdd, Int.reduceNeg, Int.reduceLT, Int.reduceLE, Nat.reduceLT, bz_LK5, hlt, hlt2, hg, hml, hdn2, hcell, hw, hes]; refine hK _ ?_; clear hK K)
        | simp only [Sv, ↓reduceIte, Nat.reduceEqDiff]
      refine hQ2 _ (i + 1) (by omega) (by omega) ?_
      simp (disch := (first | omega | assumption)) only [Sl, Sa, Sw, ↓reduceIte, Nat.reduceEqDiff, Nat.reduceLT, List.all_nil, List.all_cons, Nat.reduceBneDiff, Nat.reduceAdd, bne_iff_ne, ne_eq, reduceCtorEq, not_false_eq_true, not_true_eq_false, Bool.and_true, Bool.true_and, and_true, true_and, and_self, i_eq]
      repeat' first | rfl | omega | (simp only [List.length_append, List.length_cons, List.length_nil]; done) | apply And.intro
    · obtain rfl : i = n := by omega
      repeat first
        | (refine hK _ ?_; clear hK K)
        | ((first | refine vm_reg (fun K hK => ?_) | refine vm_dreg (fun K hK => ?_) | refine vm_dregx (fun K hK => ?_)); simp (disch := (first | omega | assumption)) only [S1, ↓reduceIte, Nat.reduceEqDiff, Nat.reduceAdd, Nat.reduceMul, Nat.reduceDiv, AOp.sb, AOp.mut, frzf, ↓Bool.false_eq_true, beq_self_eq_true, ite_self, Nat.reduceLeDiff, Int.reduceEq, Int.reduceSub, Int.reduceAdd, Int.reduceNeg, Int.reduceLT, Int.reduceLE, Nat.reduceLT, bz_LK5, hlt2]; refine hK _ ?_; clear hK K)
        | simp only [Sv, ↓reduceIte, Nat.reduceEqDiff]
      refine he2 _ _ ?_
      repeat first
        | (refine hK _ ?_; clear hK K)
        | ((first | refine vm_reg (fun K hK => ?_) | refine vm_dreg (fun K hK => ?_) | refine vm_dregx (fun K hK => ?_)); simp (disch := (first | omega | assumption)) only [S1, ↓reduceIte, Nat.reduceEqDiff, Nat.reduceAdd, Nat.reduceMul, Nat.reduceDiv, AOp.sb, AOp.mut, frzf, ↓Bool.false_eq_true, beq_self_eq_true, ite_self, Nat.reduceLeDiff, Int.reduceEq, Int.reduceSub, Int.reduceAdd, Int.reduceNeg, Int.reduceLT, Int.reduceLE, Nat.reduceLT, bz_LK5]; refine hK _ ?_; clear hK K)
        | simp only [Sv, ↓reduceIte, Nat.reduceEqDiff]
      refine hQ _ (k + 1) (by omega) (by omega) ?_
      simp (disch := (first | omega | assumption)) only [Sl, Sa, Sw, ↓reduceIte, Nat.reduceEqDiff, Nat.reduceLT, List.all_nil, List.all_cons, Nat.reduceBneDiff, Nat.reduceAdd, bne_iff_ne, ne_eq, reduceCtorEq, not_false_eq_true, not_true_eq_false, Bool.and_true, Bool.true_and, and_true, true_and, and_self, i_eq]
      repeat' first | rfl | omega | (simp only [List.length_append, List.length_cons, List.length_nil]; done) | apply And.intro
  · obtain rfl : k = ps.length := by omega
    have htk0 : ((T (ts ++ [r9, r8])).drop 0).take (ts.length * 3) = T ts := htk
    have z4 := from_spec ts (by omega)
    have z5 := same_spec ts ts (by omega) (by omega)
    rw [decide_eq_true rfl] at z5
    repeat first
      | (refine hK _ ?_; clear hK K)
      | ((first | refine vm_reg (fun K hK => ?_) | refine vm_dreg (fun K hK => ?_) | refine vm_dregx (fun K hK => ?_)); simp (disch := (first | omega | assumption)) only [S1, ↓reduceIte, Nat.reduceEqDiff, Nat.reduceAdd, Nat.reduceMul, Nat.reduceDiv, AOp.sb, AOp.mut, frzf, ↓Bool.false_eq_true, beq_self_eq_true, ite_self, Nat.reduceLeDiff, Int.reduceEq, Int.reduceSub, Int.reduceAdd, Int.reduceNeg, Int.reduceLT, Int.reduceLE, Nat.reduceLT, bz_LK5, hlt]; refine hK _ ?_; clear hK K)
      | simp only [Sv, ↓reduceIte, Nat.reduceEqDiff]
    refine he _ _ ?_
    have zc1 := z4
    have zc2 := z5
    repeat first | (refine hK _ ?_; clear hK K) | simp only [Sv, ↓reduceIte, Nat.reduceEqDiff] | ((first | refine vm_reg (fun K hK => ?_) | refine vm_dreg (fun K hK => ?_) | refine vm_dregx (fun K hK => ?_) | refine clp_q ?_ | refine clq_mk (by assumption) ?_ | refine mcq_q ?_ | (apply mcr_mk; assumption) | (apply ocr_mk; assumption)); simp (disch := (first | omega | assumption)) only [S1, ↓reduceIte, Nat.reduceEqDiff, Nat.reduceAdd, Nat.reduceMul, Nat.reduceDiv, AOp.sb, AOp.mut, frzf, ↓Bool.false_eq_true, beq_self_eq_true, ite_self, Nat.reduceLeDiff, Int.reduceEq, Int.reduceSub, Int.reduceAdd, Int.reduceNeg, Int.reduceLT, Int.reduceLE, Nat.reduceLT, bz_LK5, htk, htk0, hd1])
    refine vm_loopA [] (Nat × List Tk) (fun x => ⟨[(1, .l 3 (T ts)), (5, .ow 3 0 (ts.length + 2)), (6, .sl 3 0 0 ts.length), (7, .l 3 (T toks)), (9, .l 1 (PT ps)), (13, .l 3 (T toks)), (15, .ow 1 1 ps.length), (17, .l 1 (PT ps)), (190, .i .i64 (ts.length : Int)), (191, .i .i64 (x.1 : Int))], [(0, some ⟨27, 3, T (x.2 ++ [r9, r8]), true, false⟩), (1, some ⟨24, 1, PT qs, true, false⟩)], 2⟩)
      (fun x => x.1 ≤ ts.length ∧ x.2.length = ts.length) (fun x => ts.length - x.1) (0, ts) ⟨Nat.zero_le _, rfl⟩ (by simp (disch := (first | omega | assumption)) only [Sl, Sa, Sw, ↓reduceIte, Nat.reduceEqDiff, Nat.reduceLT, List.all_nil, List.all_cons, Nat.reduceBneDiff, Nat.reduceAdd, bne_iff_ne, ne_eq, reduceCtorEq, not_false_eq_true, not_true_eq_false, Bool.and_true, Bool.true_and, and_true, true_and, and_self]) (by
      simp (disch := (first | omega | assumption)) only [Sl, Sa, Sw, ↓reduceIte, Nat.reduceEqDiff, Nat.reduceLT, List.all_nil, List.all_cons, Nat.reduceBneDiff, Nat.reduceAdd, bne_iff_ne, ne_eq, reduceCtorEq, not_false_eq_true, not_true_eq_false, Bool.and_true, Bool.true_and, and_true, true_and, and_self, i_eq]
      repeat' first | rfl | omega | (simp only [List.length_append, List.length_cons, List.length_nil]; done) | apply And.intro) ?_
    rintro ⟨i, l⟩ ⟨hi, hll⟩ Q2 hQ2 he2 hr2
    simp only [] at hi hll ⊢
    by_cases hlt2 : (i : Int) < ts.length
    · have hls : (l ++ [r9, r8]).length = ts.length + 2 := by simp [hll]
      have hset : (l ++ [r9, r8]).set i ⟨-5, [], 0⟩ = l.set i ⟨-5, [], 0⟩ ++ [r9, r8] := by rw [List.set_append, if_pos (by omega)]
      have hs4 : (((T (l ++ [r9, r8])).set (0 + i * 3) (.i .i64 (-5))).set (0 + i * 3 + 1) (.s [])).set (0 + i * 3 + 1 + 1) (.i .i64 0) = T (l.set i ⟨-5, [], 0⟩ ++ [r9, r8]) := by rw [Nat.zero_add, T_set3, hset]
      repeat first
        | (refine hK _ ?_; clear hK K)
        | ((first | refine vm_reg (fun K hK => ?_) | refine vm_dreg (fun K hK => ?_) | refine vm_dregx (fun K hK => ?_)); simp (disch := (first | omega | assumption)) only [S1, ↓reduceIte, Nat.reduceEqDiff, Nat.reduceAdd, Nat.reduceMul, Nat.reduceDiv, AOp.sb, AOp.mut, frzf, ↓Bool.false_eq_true, beq_self_eq_true, ite_self, Nat.reduceLeDiff, Int.reduceEq, Int.reduceSub, Int.reduceAdd, Int.reduceNeg, Int.reduceLT, Int.reduceLE, Nat.reduceLT, bz_LK5, hlt2, hs4, hls]; refine hK _ ?_; clear hK K)
        | simp only [Sv, ↓reduceIte, Nat.reduceEqDiff]
      refine hQ2 _ (i + 1, l.set i ⟨-5, [], 0⟩) ⟨by simp only; omega, by simp only [List.length_set]; exact hll⟩ (by simp only; omega) ?_
      simp (disch := (first | omega | assumption)) only [Sl, Sa, Sw, ↓reduceIte, Nat.reduceEqDiff, Nat.reduceLT, List.all_nil, List.all_cons, Nat.reduceBneDiff, Nat.reduceAdd, bne_iff_ne, ne_eq, reduceCtorEq, not_false_eq_true, not_true_eq_false, Bool.and_true, Bool.true_and, and_true, true_and, and_self, i_eq]
      repeat' first | rfl | omega | (simp only [List.length_append, List.length_cons, List.length_nil]; done) | apply And.intro
    · obtain rfl : i = ts.length := by omega
      repeat first
        | (refine hK _ ?_; clear hK K)
        | ((first | refine vm_reg (fun K hK => ?_) | refine vm_dreg (fun K hK => ?_) | refine vm_dregx (fun K hK => ?_)); simp (disch := (first | omega | assumption)) only [S1, ↓reduceIte, Nat.reduceEqDiff, Nat.reduceAdd, Nat.reduceMul, Nat.reduceDiv, AOp.sb, AOp.mut, frzf, ↓Bool.false_eq_true, beq_self_eq_true, ite_self, Nat.reduceLeDiff, Int.reduceEq, Int.reduceSub, Int.reduceAdd, Int.reduceNeg, Int.reduceLT, Int.reduceLE, Nat.reduceLT, bz_LK5, hlt2]; refine hK _ ?_; clear hK K)
        | simp only [Sv, ↓reduceIte, Nat.reduceEqDiff]
      refine he2 _ _ ?_
      have hpt := PT_len ps
      have hqt := PT_len qs
      repeat first
        | (refine hK _ ?_; clear hK K)
        | ((first | refine vm_reg (fun K hK => ?_) | refine vm_dreg (fun K hK => ?_) | refine vm_dregx (fun K hK => ?_)); simp (disch := (first | omega | assumption)) only [S1, ↓reduceIte, Nat.reduceEqDiff, Nat.reduceAdd, Nat.reduceMul, Nat.reduceDiv, AOp.sb, AOp.mut, frzf, ↓Bool.false_eq_true, beq_self_eq_true, ite_self, Nat.reduceLeDiff, Int.reduceEq, Int.reduceSub, Int.reduceAdd, Int.reduceNeg, Int.reduceLT, Int.reduceLE, Nat.reduceLT, bz_LK5]; refine hK _ ?_; clear hK K)
        | simp only [Sv, ↓reduceIte, Nat.reduceEqDiff]
      refine vm_loopA [] (Nat × List V) (fun x => ⟨[(1, .l 3 (T ts)), (5, .ow 3 0 (ts.length + 2)), (7, .l 3 (T toks)), (9, .l 1 (PT ps)), (13, .l 3 (T toks)), (15, .ow 1 1 ps.length), (17, .l 1 (PT ps)), (200, .i .i64 (ps.length : Int)), (201, .i .i64 (x.1 : Int))], [(0, some ⟨27, 3, T (l ++ [r9, r8]), true, false⟩), (1, some ⟨24, 1, x.2, true, false⟩)], 2⟩)
        (fun x => x.1 ≤ ps.length ∧ x.2.length = ps.length) (fun x => ps.length - x.1) (0, PT qs) ⟨Nat.zero_le _, by rw [hqt]; exact hq⟩ (by simp (disch := (first | omega | assumption)) only [Sl, Sa, Sw, ↓reduceIte, Nat.reduceEqDiff, Nat.reduceLT, List.all_nil, List.all_cons, Nat.reduceBneDiff, Nat.reduceAdd, bne_iff_ne, ne_eq, reduceCtorEq, not_false_eq_true, not_true_eq_false, Bool.and_true, Bool.true_and, and_true, true_and, and_self]) (by
        simp (disch := (first | omega | assumption)) only [Sl, Sa, Sw, ↓reduceIte, Nat.reduceEqDiff, Nat.reduceLT, List.all_nil, List.all_cons, Nat.reduceBneDiff, Nat.reduceAdd, bne_iff_ne, ne_eq, reduceCtorEq, not_false_eq_true, not_true_eq_false, Bool.and_true, Bool.true_and, and_true, true_and, and_self, i_eq]
        repeat' first | rfl | omega | (simp only [List.length_append, List.length_cons, List.length_nil]; done) | apply And.intro) ?_
      rintro ⟨k, cs⟩ ⟨hk3, hcl⟩ Q3 hQ3 he3 hr3
      simp only [] at hk3 hcl ⊢
      by_cases hlt3 : (k : Int) < ps.length
      · have hg := PT_get ps k (by omega)
        have hpk := hpl k (by omega)
        generalize ps.getD k [] = p at *
        have y4 := from_spec p (by omega)
        have y5 := same_spec p p (by omega) (by omega)
        rw [decide_eq_true rfl] at y5
        have hdp : p.length * 3 / 3 = p.length := by omega
        have zc3 := y4
        have zc4 := y5
        repeat first | (refine hK _ ?_; clear hK K) | simp only [Sv, ↓reduceIte, Nat.reduceEqDiff] | ((first | refine vm_reg (fun K hK => ?_) | refine vm_dreg (fun K hK => ?_) | refine vm_dregx (fun K hK => ?_) | refine clp_q ?_ | refine clq_mk (by assumption) ?_ | refine mcq_q ?_ | (apply mcr_mk; assumption) | (apply ocr_mk; assumption)); simp (disch := (first | omega | assumption)) only [S1, ↓reduceIte, Nat.reduceEqDiff, Nat.reduceAdd, Nat.reduceMul, Nat.reduceDiv, AOp.sb, AOp.mut, frzf, ↓Bool.false_eq_true, beq_self_eq_true, ite_self, Nat.reduceLeDiff, Int.reduceEq, Int.reduceSub, Int.reduceAdd, Int.reduceNeg, Int.reduceLT, Int.reduceLE, Nat.reduceLT, bz_LK5, hlt3, hg, hpt, hdp, hcl])
        refine hQ3 _ (k + 1, cs.set k (.l 1 [])) ⟨by simp only; omega, by simp only [List.length_set]; exact hcl⟩ (by simp only; omega) ?_
        simp (disch := (first | omega | assumption)) only [Sl, Sa, Sw, ↓reduceIte, Nat.reduceEqDiff, Nat.reduceLT, List.all_nil, List.all_cons, Nat.reduceBneDiff, Nat.reduceAdd, bne_iff_ne, ne_eq, reduceCtorEq, not_false_eq_true, not_true_eq_false, Bool.and_true, Bool.true_and, and_true, true_and, and_self, i_eq]
        repeat' first | rfl | omega | (simp only [List.length_append, List.length_cons, List.length_nil]; done) | apply And.intro
      · obtain rfl : k = ps.length := by omega
        have hr9 := room9 l
        rw [hll] at hr9
        have hls : (l ++ [r9, r8]).length = ts.length + 2 := by simp [hll]
        have hdt : toks.length * 3 / 3 = toks.length := by omega
        have y4 := from_spec toks (by omega)
        have y5 := same_spec toks toks (by omega) (by omega)
        rw [decide_eq_true rfl] at y5
        repeat first
          | (refine hK _ ?_; clear hK K)
          | ((first | refine vm_reg (fun K hK => ?_) | refine vm_dreg (fun K hK => ?_) | refine vm_dregx (fun K hK => ?_)); simp (disch := (first | omega | assumption)) only [S1, ↓reduceIte, Nat.reduceEqDiff, Nat.reduceAdd, Nat.reduceMul, Nat.reduceDiv, AOp.sb, AOp.mut, frzf, ↓Bool.false_eq_true, beq_self_eq_true, ite_self, Nat.reduceLeDiff, Int.reduceEq, Int.reduceSub, Int.reduceAdd, Int.reduceNeg, Int.reduceLT, Int.reduceLE, Nat.reduceLT, bz_LK5, hlt3]; refine hK _ ?_; clear hK K)
          | simp only [Sv, ↓reduceIte, Nat.reduceEqDiff]
        refine he3 _ _ ?_
        have zc5 := y4
        have zc6 := y5
        repeat first | (refine hK _ ?_; clear hK K) | simp only [Sv, ↓reduceIte, Nat.reduceEqDiff] | ((first | refine vm_reg (fun K hK => ?_) | refine vm_dreg (fun K hK => ?_) | refine vm_dregx (fun K hK => ?_) | refine clp_q ?_ | refine clq_mk (by assumption) ?_ | refine mcq_q ?_ | (apply mcr_mk; assumption) | (apply ocr_mk; assumption)); simp (disch := (first | omega | assumption)) only [S1, ↓reduceIte, Nat.reduceEqDiff, Nat.reduceAdd, Nat.reduceMul, Nat.reduceDiv, AOp.sb, AOp.mut, frzf, ↓Bool.false_eq_true, beq_self_eq_true, ite_self, Nat.reduceLeDiff, Int.reduceEq, Int.reduceSub, Int.reduceAdd, Int.reduceNeg, Int.reduceLT, Int.reduceLE, Nat.reduceLT, bz_LK5, hdt, hd1, hls, hr9])
        exact ⟨trivial, trivial⟩
end Go.Proofs.Ytjfbkegdnljfjaa
