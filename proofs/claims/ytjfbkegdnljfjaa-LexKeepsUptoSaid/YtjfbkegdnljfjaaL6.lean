/-
  lex: the line's tokens, by both roads; LexScans, the law's walk.
-/
import Derived.Test.YtjfbkegdnljfjaaL5
namespace Go.Proofs.Ytjfbkegdnljfjaa
open Go Go.RowKit Ab
set_option linter.unusedSimpArgs false
set_option linter.unusedVariables false
set_option maxHeartbeats 10000000
theorem bz_L6 : type_of% (And.intro @wi (And.intro @tn_nat (And.intro @tn0 (And.intro @Nat.div_one (And.intro @Nat.mul_one (And.intro @T_len (And.intro @m3 (And.intro @T_row (And.intro @T_nf (And.intro @T_app1 (@Tv_nf))))))))))) := And.intro @wi (And.intro @tn_nat (And.intro @tn0 (And.intro @Nat.div_one (And.intro @Nat.mul_one (And.intro @T_len (And.intro @m3 (And.intro @T_row (And.intro @T_nf (And.intro @T_app1 (@Tv_nf))))))))))
def scanR (s : List UInt8) : List Tk × Int :=
  if 1000 < s.length then ([], 11) else match scan s 0 with | some ts => (ts, 0) | none => ([], 5)
theorem scanR_long {s : List UInt8} (h : 1000 < s.length) : scanR s = ([], 11) := by unfold scanR; rw [if_pos h]
theorem scanR_some {s : List UInt8} (h : ¬ 1000 < s.length) {ts : List Tk} (hs : scan s 0 = some ts) : scanR s = (ts, 0) := by unfold scanR; rw [if_neg h, hs]
theorem scanR_none {s : List UInt8} (h : ¬ 1000 < s.length) (hs : scan s 0 = none) : scanR s = ([], 5) := by unfold scanR; rw [if_neg h, hs]
theorem scanR_len (s : List UInt8) : (scanR s).1.length ≤ 1000 := by
  by_cases h : 1000 < s.length
  · rw [scanR_long h]; simp
  · cases hs : scan s 0 with
    | none => rw [scanR_none h hs]; simp
    | some ts =>
      rw [scanR_some h hs]
      have := scan_bound _ _ _ _ hs
      simp only; omega
theorem take_drop_range (s : List UInt8) (i n : Nat) : (s.take (i + n)).drop i = (s.drop i).take n := by rw [List.drop_take, Nat.add_sub_cancel_left]
theorem tn_add (a b : Nat) : ((a : Int) + (b : Int)).toNat = a + b := by omega
theorem map_app (o : Option (List Tk)) (pre : List Tk) (t : Tk) : (o.map (t :: ·)).map (pre ++ ·) = o.map ((pre ++ [t]) ++ ·) := by
  cases o <;> simp
def a8 : AC := .seq (.reg [⟨some 2, none, .mv (.k .nl)⟩,
 ⟨some 3, none, .mv (.k (.i .i64 0))⟩])
 (.seq (.seq (.reg [⟨some 8, none, .mv (.t 0)⟩,
 ⟨some 9, none, .slen (.t 8)⟩,
 ⟨some 10, none, .bin .gtr (.t 9) (.k (.i .i64 1000))⟩])
 (.cond (.t 10)
 (.seq (.reg [⟨some 2, none, .mv (.k .nl)⟩,
 ⟨some 3, none, .mv (.k (.i .i64 11))⟩])
 (.ret))
 (.skip)))
 (.seq (.reg [⟨some 4, none, .mv (.k .nl)⟩])
 (.seq (.seq (.reg [⟨some 5, none, .mv (.k (.i .i64 0))⟩])
 (.blk 0
 (.loop
 (.seq (.seq (.reg [⟨some 11, none, .mv (.t 5)⟩,
 ⟨some 12, none, .mv (.t 0)⟩,
 ⟨some 13, none, .slen (.t 12)⟩,
 ⟨some 14, none, .bin .lss (.t 11) (.t 13)⟩])
 (.cond (.t 14)
 (.skip)
 (.exit 0)))
 (.blk 1
 (.seq (.seq (.reg [⟨some 15, none, .mv (.t 0)⟩,
 ⟨some 16, none, .mv (.t 5)⟩,
 ⟨some 17, none, .six (.t 15) (.t 16)⟩,
 ⟨some 18, none, .call 20 [(1, (.t 17))]⟩])
 (.cond (.t 18)
 (.seq (.reg [⟨some 19, none, .mv (.t 5)⟩,
 ⟨some 20, none, .bin .add (.t 19) (.k (.i .i64 1))⟩,
 ⟨some 5, none, .mv (.t 20)⟩])
 (.exit 1))
 (.skip)))
 (.seq (.reg [⟨some 21, none, .mv (.t 0)⟩,
 ⟨some 22, none, .mv (.t 5)⟩,
 ⟨some 23, none, .ssub (.t 21) (some (.t 22)) none⟩,
 ⟨some 24, none, .call 21 [(1, (.t 23))]⟩,
 ⟨some 6, none, .mv (.t 24)⟩])
 (.seq (.dreg [⟨some 25, none, .mv (.t 0)⟩,
 ⟨some 26, none, .mv (.t 5)⟩,
 ⟨some 27, none, .mv (.t 5)⟩,
 ⟨some 28, none, .mv (.t 6)⟩,
 ⟨some 29, none, .bin .add (.t 27) (.t 28)⟩,
 ⟨some 30, none, .ssub (.t 25) (some (.t 26)) (some (.t 29))⟩,
 ⟨some 31, none, .call 22 [(1, (.t 30))]⟩,
 ⟨some 32, none, .mv (.t 0)⟩,
 ⟨some 33, none, .mv (.t 5)⟩,
 ⟨some 34, none, .mv (.t 5)⟩,
 ⟨some 35, none, .mv (.t 6)⟩,
 ⟨some 36, none, .bin .add (.t 34) (.t 35)⟩,
 ⟨some 37, none, .ssub (.t 32) (some (.t 33)) (some (.t 36))⟩,
 ⟨some 38, none, .mv (.t 5)⟩,
 ⟨some 39, none, .bld [(.i .i64 0), (.s []), (.i .i64 0)] [(0, 1, (.t 31)), (1, 1, (.t 37)), (2, 1, (.t 38))]⟩,
 ⟨some 7, none, .al 27 [(.i .i64 0), (.s []), (.i .i64 0)]⟩,
 ⟨none, none, .st 3 (.t 7) (.t 39)⟩])
 (.seq (.seq (.reg [⟨some 40, none, .fad 0 (.t 7)⟩,
 ⟨some 41, none, .ld false 1 (.t 40)⟩,
 ⟨some 42, none, .bin .eql (.t 41) (.k (.i .i64 0))⟩])
 (.cond (.t 42)
 (.seq (.reg [⟨some 2, none, .mv (.k .nl)⟩,
 ⟨some 3, none, .mv (.k (.i .i64 5))⟩])
 (.ret))
 (.skip)))
 (.seq (.reg [⟨some 43, none, .mv (.t 4)⟩,
 ⟨some 44, none, .ld true 3 (.t 7)⟩,
 ⟨some 45, none, .bsl 27 3 1 [(.i .i64 0), (.s []), (.i .i64 0)] [(0, (.t 44))]⟩,
 ⟨some 46, none, .app 27 3 32 (.t 43) (.t 45)⟩,
 ⟨some 4, none, .mv (.t 46)⟩])
 (.reg [⟨some 47, none, .mv (.t 5)⟩,
 ⟨some 48, none, .mv (.t 6)⟩,
 ⟨some 49, none, .bin .add (.t 47) (.t 48)⟩,
 ⟨some 5, none, .mv (.t 49)⟩])))))))))))
 (.seq (.reg [⟨some 50, none, .mv (.t 4)⟩,
 ⟨some 2, none, .mv (.t 50)⟩,
 ⟨some 3, none, .mv (.k (.i .i64 0))⟩])
 (.ret)))))
theorem scan_spec (s : List UInt8) : AFun Try.prog J0 8 [.s s] (.t [.l 3 (T (scanR s).1), .i .i64 (scanR s).2]) := by
  refine AFun.mk fol J0s Try.func8 rfl (ac := a8) (by kernel_rfl) rfl rfl rfl ?_
  apply vm_start
  unfold a8
  simp only [init_eq, initE]
  by_cases hL : 1000 < (s.length : Int)
  · repeat first
      | (refine hK _ ?_; clear hK K)
      | ((first | refine vm_reg (fun K hK => ?_) | refine vm_dreg (fun K hK => ?_) | refine vm_dregx (fun K hK => ?_)); simp (disch := (first | omega | assumption)) only [S1, ↓reduceIte, Nat.reduceEqDiff, Nat.reduceAdd, Nat.reduceMul, Nat.reduceDiv, AOp.sb, AOp.mut, frzf, ↓Bool.false_eq_true, beq_self_eq_true, ite_self, Nat.reduceLeDiff, Int.reduceEq, Int.reduceSub, Int.reduceAdd, Int.reduceNeg, Int.reduceLT, Int.reduceLE, Nat.reduceLT, bz_L6, hL]; refine hK _ ?_; clear hK K)
      | simp only [Sv, ↓reduceIte, Nat.reduceEqDiff]
    rw [scanR_long (by omega)]
    simp (disch := (first | omega | assumption)) only [retOk, retN, ret1, retF, ret1F, V.okArg, and_true, true_and, S1, ↓reduceIte, Nat.reduceEqDiff, Nat.reduceAdd, Nat.reduceMul, Nat.reduceDiv, AOp.sb, AOp.mut, frzf, ↓Bool.false_eq_true, beq_self_eq_true, ite_self, Nat.reduceLeDiff, Int.reduceEq, Int.reduceSub, Int.reduceAdd, Int.reduceNeg, Int.reduceLT, Int.reduceLE, Nat.reduceLT, bz_L6, T_nil]
  · have hL' : ¬ 1000 < s.length := by omega
    repeat first
      | (refine hK _ ?_; clear hK K)
      | ((first | refine vm_reg (fun K hK => ?_) | refine vm_dreg (fun K hK => ?_) | refine vm_dregx (fun K hK => ?_)); simp (disch := (first | omega | assumption)) only [S1, ↓reduceIte, Nat.reduceEqDiff, Nat.reduceAdd, Nat.reduceMul, Nat.reduceDiv, AOp.sb, AOp.mut, frzf, ↓Bool.false_eq_true, beq_self_eq_true, ite_self, Nat.reduceLeDiff, Int.reduceEq, Int.reduceSub, Int.reduceAdd, Int.reduceNeg, Int.reduceLT, Int.reduceLE, Nat.reduceLT, bz_L6, hL]; refine hK _ ?_; clear hK K)
      | simp only [Sv, ↓reduceIte, Nat.reduceEqDiff]
    refine vm_loopA [(4, 27, 3)] (Nat × List Tk) (fun x => ⟨[(0, .s s), (4, .ow 3 0 x.2.length), (5, .i .i64 (x.1 : Int))], [(0, some ⟨27, 3, T x.2, true, false⟩)], 1⟩)
      (fun x => x.1 ≤ s.length ∧ x.2.length ≤ x.1 ∧ scan s 0 = (scan s x.1).map (x.2 ++ ·)) (fun x => s.length - x.1) (0, []) ⟨Nat.zero_le _, Nat.le_refl _, by cases scan s 0 <;> simp⟩ (by simp (disch := (first | omega | assumption)) only [Sl, Sa, Sw, ↓reduceIte, Nat.reduceEqDiff, Nat.reduceLT, List.all_nil, List.all_cons, Nat.reduceBneDiff, Nat.reduceAdd, bne_iff_ne, ne_eq, reduceCtorEq, not_false_eq_true, not_true_eq_false, Bool.and_true, Bool.true_and, and_true, true_and, and_self]) (by
      simp (disch := (first | omega | assumption)) only [Sl, Sa, Sw, ↓reduceIte, Nat.reduceEqDiff, Nat.reduceLT, List.all_nil, List.all_cons, Nat.reduceBneDiff, Nat.reduceAdd, bne_iff_ne, ne_eq, reduceCtorEq, not_false_eq_true, not_true_eq_false, Bool.and_true, Bool.true_and, and_true, true_and, and_self, i_eq]
      repeat' first | rfl | omega | (simp only [List.length_append, List.length_cons, List.length_nil]; done) | apply And.intro) ?_
    rintro ⟨i, pre⟩ ⟨hi, hp, hsc⟩ Q' hQ he hr
    simp only [] at hi hp hsc ⊢
    by_cases hlt : (i : Int) < s.length
    · have hlt' : i < s.length := by omega
      cases hb : isBl (s.getD i 0)
      · have hrl := rowLen_le (s.drop i)
        rw [List.length_drop] at hrl
        generalize hn : rowLen (s.drop i) = n at hrl
        have zc1 := isBlank_spec (s.getD i 0)
        have zc2 := length_spec (s.drop i) (by rw [List.length_drop]; omega) (by rw [List.length_drop]; omega)
        repeat first | (refine hK _ ?_; clear hK K) | simp only [Sv, ↓reduceIte, Nat.reduceEqDiff] | ((first | refine vm_reg (fun K hK => ?_) | refine vm_dreg (fun K hK => ?_) | refine vm_dregx (fun K hK => ?_) | refine clp_q ?_ | refine clq_mk (by assumption) ?_ | refine mcq_q ?_ | (apply mcr_mk; assumption) | (apply ocr_mk; assumption)); simp (disch := (first | omega | assumption)) only [S1, ↓reduceIte, Nat.reduceEqDiff, Nat.reduceAdd, Nat.reduceMul, Nat.reduceDiv, AOp.sb, AOp.mut, frzf, ↓Bool.false_eq_true, beq_self_eq_true, ite_self, Nat.reduceLeDiff, Int.reduceEq, Int.reduceSub, Int.reduceAdd, Int.reduceNeg, Int.reduceLT, Int.reduceLE, Nat.reduceLT, bz_L6, hlt, hb, hn, tn_add, take_drop_range])
        by_cases hk : ((kind ((s.drop i).take n) : Nat) : Int) = 0
        · have hno := scan_err hlt' hb (by rw [hn]; omega)
          have zc3 := kind_spec ((s.drop i).take n) (by rw [List.length_take, List.length_drop]; omega)
          repeat first | (refine hK _ ?_; clear hK K) | simp only [Sv, ↓reduceIte, Nat.reduceEqDiff] | ((first | refine vm_reg (fun K hK => ?_) | refine vm_dreg (fun K hK => ?_) | refine vm_dregx (fun K hK => ?_) | refine clp_q ?_ | refine clq_mk (by assumption) ?_ | refine mcq_q ?_ | (apply mcr_mk; assumption) | (apply ocr_mk; assumption)); simp (disch := (first | omega | assumption)) only [S1, ↓reduceIte, Nat.reduceEqDiff, Nat.reduceAdd, Nat.reduceMul, Nat.reduceDiv, AOp.sb, AOp.mut, frzf, ↓Bool.false_eq_true, beq_self_eq_true, ite_self, Nat.reduceLeDiff, Int.reduceEq, Int.reduceSub, Int.reduceAdd, Int.reduceNeg, Int.reduceLT, Int.reduceLE, Nat.reduceLT, bz_L6, tn_add, take_drop_range, hk])
          refine hr _ ?_
          rw [scanR_none hL' (by rw [hsc, hno]; rfl)]
          simp (disch := (first | omega | assumption)) only [retOk, retN, ret1, retF, ret1F, V.okArg, and_true, true_and, S1, ↓reduceIte, Nat.reduceEqDiff, Nat.reduceAdd, Nat.reduceMul, Nat.reduceDiv, AOp.sb, AOp.mut, frzf, ↓Bool.false_eq_true, beq_self_eq_true, ite_self, Nat.reduceLeDiff, Int.reduceEq, Int.reduceSub, Int.reduceAdd, Int.reduceNeg, Int.reduceLT, Int.reduceLE, Nat.reduceLT, bz_L6, T_nil]
        · have hto := scan_tok hlt' hb (by rw [hn]; omega)
          have hpos := rowLen_pos (l := s.drop i) (by rw [hn]; omega)
          rw [hn] at hto hpos
          rw [hto, map_app] at hsc
          have zc4 := kind_spec ((s.drop i).take n) (by rw [List.length_take, List.length_drop]; omega)
          repeat first | (refine hK _ ?_; clear hK K) | simp only [Sv, ↓reduceIte, Nat.reduceEqDiff] | ((first | refine vm_reg (fun K hK => ?_) | refine vm_dreg (fun K hK => ?_) | refine vm_dregx (fun K hK => ?_) | refine clp_q ?_ | refine clq_mk (by assumption) ?_ | refine mcq_q ?_ | (apply mcr_mk; assumption) | (apply ocr_mk; assumption)); simp (disch := (first | omega | assumption)) only [S1, ↓reduceIte, Nat.reduceEqDiff, Nat.reduceAdd, Nat.reduceMul, Nat.reduceDiv, AOp.sb, AOp.mut, frzf, ↓Bool.false_eq_true, beq_self_eq_true, ite_self, Nat.reduceLeDiff, Int.reduceEq, Int.reduceSub, Int.reduceAdd, Int.reduceNeg, Int.reduceLT, Int.reduceLE, Nat.reduceLT, bz_L6, tn_add, take_drop_range, hk])
          refine hQ _ (i + n, pre ++ [⟨kind ((s.drop i).take n), (s.drop i).take n, i⟩]) ⟨by simp only; omega, by simp only [List.length_append, List.length_singleton]; omega, hsc⟩ (by simp only; omega) ?_
          simp (disch := (first | omega | assumption)) only [Sl, Sa, Sw, ↓reduceIte, Nat.reduceEqDiff, Nat.reduceLT, List.all_nil, List.all_cons, Nat.reduceBneDiff, Nat.reduceAdd, bne_iff_ne, ne_eq, reduceCtorEq, not_false_eq_true, not_true_eq_false, Bool.and_true, Bool.true_and, and_true, true_and, and_self, i_eq]
          repeat' first | rfl | omega | (simp only [List.length_append, List.length_cons, List.length_nil]; done) | apply And.intro
      · have zc5 := isBlank_spec (s.getD i 0)
        repeat first | (refine hK _ ?_; clear hK K) | simp only [Sv, ↓reduceIte, Nat.reduceEqDiff] | ((first | refine vm_reg (fun K hK => ?_) | refine vm_dreg (fun K hK => ?_) | refine vm_dregx (fun K hK => ?_) | refine clp_q ?_ | refine clq_mk (by assumption) ?_ | refine mcq_q ?_ | (apply mcr_mk; assumption) | (apply ocr_mk; assumption)); simp (disch := (first | omega | assumption)) only [S1, ↓reduceIte, Nat.reduceEqDiff, Nat.reduceAdd, Nat.reduceMul, Nat.reduceDiv, AOp.sb, AOp.mut, frzf, ↓Bool.false_eq_true, beq_self_eq_true, ite_self, Nat.reduceLeDiff, Int.reduceEq, Int.reduceSub, Int.reduceAdd, Int.reduceNeg, Int.reduceLT, Int.reduceLE, Nat.reduceLT, bz_L6, hlt, hb])
        rw [scan_bl hlt' hb] at hsc
        refine hQ _ (i + 1, pre) ⟨by simp only; omega, by simp only; omega, hsc⟩ (by simp only; omega) ?_
        simp (disch := (first | omega | assumption)) only [Sl, Sa, Sw, ↓reduceIte, Nat.reduceEqDiff, Nat.reduceLT, List.all_nil, List.all_cons, Nat.reduceBneDiff, Nat.reduceAdd, bne_iff_ne, ne_eq, reduceCtorEq, not_false_eq_true, not_true_eq_false, Bool.and_true, Bool.true_and, and_true, true_and, and_self, i_eq]
        repeat' first | rfl | omega | (simp only [List.length_append, List.length_cons, List.length_nil]; done) | apply And.intro
    · have hend := scan_end (s := s) (i := i) (by omega)
      rw [hend] at hsc
      repeat first
        | (refine hK _ ?_; clear hK K)
        | ((first | refine vm_reg (fun K hK => ?_) | refine vm_dreg (fun K hK => ?_) | refine vm_dregx (fun K hK => ?_)); simp (disch := (first | omega | assumption)) only [S1, ↓reduceIte, Nat.reduceEqDiff, Nat.reduceAdd, Nat.reduceMul, Nat.reduceDiv, AOp.sb, AOp.mut, frzf, ↓Bool.false_eq_true, beq_self_eq_true, ite_self, Nat.reduceLeDiff, Int.reduceEq, Int.reduceSub, Int.reduceAdd, Int.reduceNeg, Int.reduceLT, Int.reduceLE, Nat.reduceLT, bz_L6, hlt]; refine hK _ ?_; clear hK K)
        | simp only [Sv, ↓reduceIte, Nat.reduceEqDiff]
      refine he _ _ ?_
      repeat first
        | (refine hK _ ?_; clear hK K)
        | ((first | refine vm_reg (fun K hK => ?_) | refine vm_dreg (fun K hK => ?_) | refine vm_dregx (fun K hK => ?_)); simp (disch := (first | omega | assumption)) only [S1, ↓reduceIte, Nat.reduceEqDiff, Nat.reduceAdd, Nat.reduceMul, Nat.reduceDiv, AOp.sb, AOp.mut, frzf, ↓Bool.false_eq_true, beq_self_eq_true, ite_self, Nat.reduceLeDiff, Int.reduceEq, Int.reduceSub, Int.reduceAdd, Int.reduceNeg, Int.reduceLT, Int.reduceLE, Nat.reduceLT, bz_L6]; refine hK _ ?_; clear hK K)
        | simp only [Sv, ↓reduceIte, Nat.reduceEqDiff]
      rw [scanR_some hL' (by rw [hsc]; simp : scan s 0 = some pre)]
      simp (disch := (first | omega | assumption)) only [retOk, retN, ret1, retF, ret1F, V.okArg, and_true, true_and, S1, ↓reduceIte, Nat.reduceEqDiff, Nat.reduceAdd, Nat.reduceMul, Nat.reduceDiv, AOp.sb, AOp.mut, frzf, ↓Bool.false_eq_true, beq_self_eq_true, ite_self, Nat.reduceLeDiff, Int.reduceEq, Int.reduceSub, Int.reduceAdd, Int.reduceNeg, Int.reduceLT, Int.reduceLE, Nat.reduceLT, bz_L6]
theorem tn_sub (a b : Nat) : (((a + b : Nat) : Int)).toNat = a + b := rfl
def a6 : AC := .seq (.reg [⟨some 2, none, .mv (.k .nl)⟩,
 ⟨some 3, none, .mv (.k (.i .i64 0))⟩])
 (.seq (.seq (.reg [⟨some 8, none, .mv (.t 0)⟩,
 ⟨some 9, none, .slen (.t 8)⟩,
 ⟨some 10, none, .bin .gtr (.t 9) (.k (.i .i64 1000))⟩])
 (.cond (.t 10)
 (.seq (.reg [⟨some 2, none, .mv (.k .nl)⟩,
 ⟨some 3, none, .mv (.k (.i .i64 11))⟩])
 (.ret))
 (.skip)))
 (.seq (.reg [⟨some 4, none, .mv (.k .nl)⟩])
 (.seq (.reg [⟨some 5, none, .mv (.k (.i .i64 0))⟩])
 (.seq (.blk 0
 (.loop
 (.seq (.seq (.reg [⟨some 11, none, .mv (.t 5)⟩,
 ⟨some 12, none, .mv (.t 0)⟩,
 ⟨some 13, none, .slen (.t 12)⟩,
 ⟨some 14, none, .bin .lss (.t 11) (.t 13)⟩])
 (.cond (.t 14)
 (.skip)
 (.exit 0)))
 (.blk 1
 (.seq (.seq (.reg [⟨some 15, none, .mv (.t 0)⟩,
 ⟨some 16, none, .mv (.t 5)⟩,
 ⟨some 17, none, .six (.t 15) (.t 16)⟩,
 ⟨some 18, none, .call 15 [(1, (.t 17))]⟩])
 (.cond (.t 18)
 (.seq (.reg [⟨some 19, none, .mv (.t 5)⟩,
 ⟨some 20, none, .bin .add (.t 19) (.k (.i .i64 1))⟩,
 ⟨some 5, none, .mv (.t 20)⟩])
 (.exit 1))
 (.skip)))
 (.seq (.reg [⟨some 21, none, .mv (.t 0)⟩,
 ⟨some 22, none, .mv (.t 5)⟩,
 ⟨some 23, none, .call 16 [(1, (.t 21)), (1, (.t 22))]⟩,
 ⟨some 6, none, .mv (.t 23)⟩])
 (.seq (.reg [⟨some 24, none, .mv (.t 0)⟩,
 ⟨some 25, none, .mv (.t 5)⟩,
 ⟨some 26, none, .mv (.t 6)⟩,
 ⟨some 27, none, .ssub (.t 24) (some (.t 25)) (some (.t 26))⟩,
 ⟨some 28, none, .call 17 [(1, (.t 27))]⟩,
 ⟨some 7, none, .mv (.t 28)⟩])
 (.seq (.seq (.reg [⟨some 29, none, .mv (.t 7)⟩,
 ⟨some 30, none, .bin .eql (.t 29) (.k (.i .i64 0))⟩])
 (.cond (.t 30)
 (.seq (.reg [⟨some 2, none, .mv (.k .nl)⟩,
 ⟨some 3, none, .mv (.k (.i .i64 5))⟩])
 (.ret))
 (.skip)))
 (.seq (.reg [⟨some 31, none, .mv (.t 4)⟩,
 ⟨some 32, none, .mv (.t 7)⟩,
 ⟨some 33, none, .mv (.t 0)⟩,
 ⟨some 34, none, .mv (.t 5)⟩,
 ⟨some 35, none, .mv (.t 6)⟩,
 ⟨some 36, none, .ssub (.t 33) (some (.t 34)) (some (.t 35))⟩,
 ⟨some 37, none, .mv (.t 5)⟩,
 ⟨some 38, none, .bld [(.i .i64 0), (.s []), (.i .i64 0)] [(0, 1, (.t 32)), (1, 1, (.t 36)), (2, 1, (.t 37))]⟩,
 ⟨some 39, none, .bsl 47 3 1 [(.i .i64 0), (.s []), (.i .i64 0)] [(0, (.t 38))]⟩,
 ⟨some 40, none, .app 47 3 32 (.t 31) (.t 39)⟩,
 ⟨some 4, none, .mv (.t 40)⟩])
 (.reg [⟨some 41, none, .mv (.t 6)⟩,
 ⟨some 5, none, .mv (.t 41)⟩]))))))))))
 (.seq (.reg [⟨some 42, none, .mv (.t 4)⟩,
 ⟨some 2, none, .mv (.t 42)⟩,
 ⟨some 3, none, .mv (.k (.i .i64 0))⟩])
 (.ret))))))
theorem rscan_spec (s : List UInt8) : AFun Try.prog J0 6 [.s s] (.t [.l 3 (T (scanR s).1), .i .i64 (scanR s).2]) := by
  refine AFun.mk fol J0s Try.func6 rfl (ac := a6) (by kernel_rfl) rfl rfl rfl ?_
  apply vm_start
  unfold a6
  simp only [init_eq, initE]
  by_cases hL : 1000 < (s.length : Int)
  · repeat first
      | (refine hK _ ?_; clear hK K)
      | ((first | refine vm_reg (fun K hK => ?_) | refine vm_dreg (fun K hK => ?_) | refine vm_dregx (fun K hK => ?_)); simp (disch := (first | omega | assumption)) only [S1, ↓reduceIte, Nat.reduceEqDiff, Nat.reduceAdd, Nat.reduceMul, Nat.reduceDiv, AOp.sb, AOp.mut, frzf, ↓Bool.false_eq_true, beq_self_eq_true, ite_self, Nat.reduceLeDiff, Int.reduceEq, Int.reduceSub, Int.reduceAdd, Int.reduceNeg, Int.reduceLT, Int.reduceLE, Nat.reduceLT, bz_L6, hL]; refine hK _ ?_; clear hK K)
      | simp only [Sv, ↓reduceIte, Nat.reduceEqDiff]
    rw [scanR_long (by omega)]
    simp (disch := (first | omega | assumption)) only [retOk, retN, ret1, retF, ret1F, V.okArg, and_true, true_and, S1, ↓reduceIte, Nat.reduceEqDiff, Nat.reduceAdd, Nat.reduceMul, Nat.reduceDiv, AOp.sb, AOp.mut, frzf, ↓Bool.false_eq_true, beq_self_eq_true, ite_self, Nat.reduceLeDiff, Int.reduceEq, Int.reduceSub, Int.reduceAdd, Int.reduceNeg, Int.reduceLT, Int.reduceLE, Nat.reduceLT, bz_L6, T_nil]
  · have hL' : ¬ 1000 < s.length := by omega
    repeat first
      | (refine hK _ ?_; clear hK K)
      | ((first | refine vm_reg (fun K hK => ?_) | refine vm_dreg (fun K hK => ?_) | refine vm_dregx (fun K hK => ?_)); simp (disch := (first | omega | assumption)) only [S1, ↓reduceIte, Nat.reduceEqDiff, Nat.reduceAdd, Nat.reduceMul, Nat.reduceDiv, AOp.sb, AOp.mut, frzf, ↓Bool.false_eq_true, beq_self_eq_true, ite_self, Nat.reduceLeDiff, Int.reduceEq, Int.reduceSub, Int.reduceAdd, Int.reduceNeg, Int.reduceLT, Int.reduceLE, Nat.reduceLT, bz_L6, hL]; refine hK _ ?_; clear hK K)
      | simp only [Sv, ↓reduceIte, Nat.reduceEqDiff]
    refine vm_loopA [(4, 47, 3)] (Nat × List Tk) (fun x => ⟨[(0, .s s), (4, .ow 3 0 x.2.length), (5, .i .i64 (x.1 : Int))], [(0, some ⟨47, 3, T x.2, true, false⟩)], 1⟩)
      (fun x => x.1 ≤ s.length ∧ x.2.length ≤ x.1 ∧ scan s 0 = (scan s x.1).map (x.2 ++ ·)) (fun x => s.length - x.1) (0, []) ⟨Nat.zero_le _, Nat.le_refl _, by cases scan s 0 <;> simp⟩ (by simp (disch := (first | omega | assumption)) only [Sl, Sa, Sw, ↓reduceIte, Nat.reduceEqDiff, Nat.reduceLT, List.all_nil, List.all_cons, Nat.reduceBneDiff, Nat.reduceAdd, bne_iff_ne, ne_eq, reduceCtorEq, not_false_eq_true, not_true_eq_false, Bool.and_true, Bool.true_and, and_true, true_and, and_self]) (by
      simp (disch := (first | omega | assumption)) only [Sl, Sa, Sw, ↓reduceIte, Nat.reduceEqDiff, Nat.reduceLT, List.all_nil, List.all_cons, Nat.reduceBneDiff, Nat.reduceAdd, bne_iff_ne, ne_eq, reduceCtorEq, not_false_eq_true, not_true_eq_false, Bool.and_true, Bool.true_and, and_true, true_and, and_self, i_eq]
      repeat' first | rfl | omega | (simp only [List.length_append, List.length_cons, List.length_nil]; done) | apply And.intro) ?_
    rintro ⟨i, pre⟩ ⟨hi, hp, hsc⟩ Q' hQ he hr
    simp only [] at hi hp hsc ⊢
    by_cases hlt : (i : Int) < s.length
    · have hlt' : i < s.length := by omega
      cases hb : isBl (s.getD i 0)
      · have hrl := rowLen1_le (s.drop i)
        rw [List.length_drop] at hrl
        obtain ⟨rk1, rk2⟩ := row_kind (s.drop i)
        have hrow := row_spec s i hlt' (by omega)
        generalize hn : rowLen1 (s.drop i) = n at hrl rk1 rk2 hrow
        have hkl : ((s.drop i).take n).length ≤ 9223372036854775807 := by rw [List.length_take, List.length_drop]; omega
        have zc6 := rblank_spec (s.getD i 0)
        have zc7 := hrow
        repeat first | (refine hK _ ?_; clear hK K) | simp only [Sv, ↓reduceIte, Nat.reduceEqDiff] | ((first | refine vm_reg (fun K hK => ?_) | refine vm_dreg (fun K hK => ?_) | refine vm_dregx (fun K hK => ?_) | refine clp_q ?_ | refine clq_mk (by assumption) ?_ | refine mcq_q ?_ | (apply mcr_mk; assumption) | (apply ocr_mk; assumption)); simp (disch := (first | omega | assumption)) only [S1, ↓reduceIte, Nat.reduceEqDiff, Nat.reduceAdd, Nat.reduceMul, Nat.reduceDiv, AOp.sb, AOp.mut, frzf, ↓Bool.false_eq_true, beq_self_eq_true, ite_self, Nat.reduceLeDiff, Int.reduceEq, Int.reduceSub, Int.reduceAdd, Int.reduceNeg, Int.reduceLT, Int.reduceLE, Nat.reduceLT, bz_L6, hlt, hb, tn_sub, take_drop_range])
        by_cases hk : ((kind ((s.drop i).take n) : Nat) : Int) = 0
        · have hno := scan_err hlt' hb (by omega)
          have zc8 := rKind_spec ((s.drop i).take n) hkl
          repeat first | (refine hK _ ?_; clear hK K) | simp only [Sv, ↓reduceIte, Nat.reduceEqDiff] | ((first | refine vm_reg (fun K hK => ?_) | refine vm_dreg (fun K hK => ?_) | refine vm_dregx (fun K hK => ?_) | refine clp_q ?_ | refine clq_mk (by assumption) ?_ | refine mcq_q ?_ | (apply mcr_mk; assumption) | (apply ocr_mk; assumption)); simp (disch := (first | omega | assumption)) only [S1, ↓reduceIte, Nat.reduceEqDiff, Nat.reduceAdd, Nat.reduceMul, Nat.reduceDiv, AOp.sb, AOp.mut, frzf, ↓Bool.false_eq_true, beq_self_eq_true, ite_self, Nat.reduceLeDiff, Int.reduceEq, Int.reduceSub, Int.reduceAdd, Int.reduceNeg, Int.reduceLT, Int.reduceLE, Nat.reduceLT, bz_L6, tn_sub, take_drop_range, hk])
          refine hr _ ?_
          rw [scanR_none hL' (by rw [hsc, hno]; rfl)]
          simp (disch := (first | omega | assumption)) only [retOk, retN, ret1, retF, ret1F, V.okArg, and_true, true_and, S1, ↓reduceIte, Nat.reduceEqDiff, Nat.reduceAdd, Nat.reduceMul, Nat.reduceDiv, AOp.sb, AOp.mut, frzf, ↓Bool.false_eq_true, beq_self_eq_true, ite_self, Nat.reduceLeDiff, Int.reduceEq, Int.reduceSub, Int.reduceAdd, Int.reduceNeg, Int.reduceLT, Int.reduceLE, Nat.reduceLT, bz_L6, T_nil]
        · have e := rk2 (by omega)
          have hto := scan_tok hlt' hb (by omega)
          have hpos := rowLen_pos (l := s.drop i) (by omega)
          rw [← e] at hto hpos
          rw [hto, map_app] at hsc
          have zc9 := rKind_spec ((s.drop i).take n) hkl
          repeat first | (refine hK _ ?_; clear hK K) | simp only [Sv, ↓reduceIte, Nat.reduceEqDiff] | ((first | refine vm_reg (fun K hK => ?_) | refine vm_dreg (fun K hK => ?_) | refine vm_dregx (fun K hK => ?_) | refine clp_q ?_ | refine clq_mk (by assumption) ?_ | refine mcq_q ?_ | (apply mcr_mk; assumption) | (apply ocr_mk; assumption)); simp (disch := (first | omega | assumption)) only [S1, ↓reduceIte, Nat.reduceEqDiff, Nat.reduceAdd, Nat.reduceMul, Nat.reduceDiv, AOp.sb, AOp.mut, frzf, ↓Bool.false_eq_true, beq_self_eq_true, ite_self, Nat.reduceLeDiff, Int.reduceEq, Int.reduceSub, Int.reduceAdd, Int.reduceNeg, Int.reduceLT, Int.reduceLE, Nat.reduceLT, bz_L6, tn_sub, take_drop_range, hk])
          refine hQ _ (i + n, pre ++ [⟨kind ((s.drop i).take n), (s.drop i).take n, i⟩]) ⟨by simp only; omega, by simp only [List.length_append, List.length_singleton]; omega, hsc⟩ (by simp only; omega) ?_
          simp (disch := (first | omega | assumption)) only [Sl, Sa, Sw, ↓reduceIte, Nat.reduceEqDiff, Nat.reduceLT, List.all_nil, List.all_cons, Nat.reduceBneDiff, Nat.reduceAdd, bne_iff_ne, ne_eq, reduceCtorEq, not_false_eq_true, not_true_eq_false, Bool.and_true, Bool.true_and, and_true, true_and, and_self, i_eq]
          repeat' first | rfl | omega | (simp only [List.length_append, List.length_cons, List.length_nil]; done) | apply And.intro
      · have zc10 := rblank_spec (s.getD i 0)
        repeat first | (refine hK _ ?_; clear hK K) | simp only [Sv, ↓reduceIte, Nat.reduceEqDiff] | ((first | refine vm_reg (fun K hK => ?_) | refine vm_dreg (fun K hK => ?_) | refine vm_dregx (fun K hK => ?_) | refine clp_q ?_ | refine clq_mk (by assumption) ?_ | refine mcq_q ?_ | (apply mcr_mk; assumption) | (apply ocr_mk; assumption)); simp (disch := (first | omega | assumption)) only [S1, ↓reduceIte, Nat.reduceEqDiff, Nat.reduceAdd, Nat.reduceMul, Nat.reduceDiv, AOp.sb, AOp.mut, frzf, ↓Bool.false_eq_true, beq_self_eq_true, ite_self, Nat.reduceLeDiff, Int.reduceEq, Int.reduceSub, Int.reduceAdd, Int.reduceNeg, Int.reduceLT, Int.reduceLE, Nat.reduceLT, bz_L6, hlt, hb])
        rw [scan_bl hlt' hb] at hsc
        refine hQ _ (i + 1, pre) ⟨by simp only; omega, by simp only; omega, hsc⟩ (by simp only; omega) ?_
        simp (disch := (first | omega | assumption)) only [Sl, Sa, Sw, ↓reduceIte, Nat.reduceEqDiff, Nat.reduceLT, List.all_nil, List.all_cons, Nat.reduceBneDiff, Nat.reduceAdd, bne_iff_ne, ne_eq, reduceCtorEq, not_false_eq_true, not_true_eq_false, Bool.and_true, Bool.true_and, and_true, true_and, and_self, i_eq]
        repeat' first | rfl | omega | (simp only [List.length_append, List.length_cons, List.length_nil]; done) | apply And.intro
    · have hend := scan_end (s := s) (i := i) (by omega)
      rw [hend] at hsc
      repeat first
        | (refine hK _ ?_; clear hK K)
        | ((first | refine vm_reg (fun K hK => ?_) | refine vm_dreg (fun K hK => ?_) | refine vm_dregx (fun K hK => ?_)); simp (disch := (first | omega | assumption)) only [S1, ↓reduceIte, Nat.reduceEqDiff, Nat.reduceAdd, Nat.reduceMul, Nat.reduceDiv, AOp.sb, AOp.mut, frzf, ↓Bool.false_eq_true, beq_self_eq_true, ite_self, Nat.reduceLeDiff, Int.reduceEq, Int.reduceSub, Int.reduceAdd, Int.reduceNeg, Int.reduceLT, Int.reduceLE, Nat.reduceLT, bz_L6, hlt]; refine hK _ ?_; clear hK K)
        | simp only [Sv, ↓reduceIte, Nat.reduceEqDiff]
      refine he _ _ ?_
      repeat first
        | (refine hK _ ?_; clear hK K)
        | ((first | refine vm_reg (fun K hK => ?_) | refine vm_dreg (fun K hK => ?_) | refine vm_dregx (fun K hK => ?_)); simp (disch := (first | omega | assumption)) only [S1, ↓reduceIte, Nat.reduceEqDiff, Nat.reduceAdd, Nat.reduceMul, Nat.reduceDiv, AOp.sb, AOp.mut, frzf, ↓Bool.false_eq_true, beq_self_eq_true, ite_self, Nat.reduceLeDiff, Int.reduceEq, Int.reduceSub, Int.reduceAdd, Int.reduceNeg, Int.reduceLT, Int.reduceLE, Nat.reduceLT, bz_L6]; refine hK _ ?_; clear hK K)
        | simp only [Sv, ↓reduceIte, Nat.reduceEqDiff]
      rw [scanR_some hL' (by rw [hsc]; simp : scan s 0 = some pre)]
      simp (disch := (first | omega | assumption)) only [retOk, retN, ret1, retF, ret1F, V.okArg, and_true, true_and, S1, ↓reduceIte, Nat.reduceEqDiff, Nat.reduceAdd, Nat.reduceMul, Nat.reduceDiv, AOp.sb, AOp.mut, frzf, ↓Bool.false_eq_true, beq_self_eq_true, ite_self, Nat.reduceLeDiff, Int.reduceEq, Int.reduceSub, Int.reduceAdd, Int.reduceNeg, Int.reduceLT, Int.reduceLE, Nat.reduceLT, bz_L6]
def a4 : AC := .seq (.reg [⟨some 0, none, .mv (.k (.b false))⟩])
 (.seq (.reg [⟨some 4, none, .call 8 [(1, (.k (.s [50, 120])))]⟩,
 ⟨some 3, none, .mv (.t 4)⟩,
 ⟨some 5, none, .ext (.t 3) 0⟩,
 ⟨some 6, none, .ext (.t 3) 1⟩,
 ⟨some 1, none, .mv (.t 5)⟩,
 ⟨some 2, none, .mv (.t 6)⟩])
 (.seq (.reg [⟨some 7, none, .mv (.t 2)⟩,
 ⟨some 8, none, .bin .eql (.t 7) (.k (.i .i64 0))⟩,
 ⟨some 9, none, .mv (.t 8)⟩,
 ⟨some 10, some (9, true), .mv (.t 1)⟩,
 ⟨some 11, some (9, true), .call 14 [(3, (.t 10))]⟩,
 ⟨some 12, some (9, true), .bld [(.i .i64 0), (.s []), (.i .i64 0)] [(0, 1, (.k (.i .i64 1))), (1, 1, (.k (.s [50])))]⟩,
 ⟨some 13, some (9, true), .bld [(.i .i64 0), (.s []), (.i .i64 0)] [(0, 1, (.k (.i .i64 2))), (1, 1, (.k (.s [120]))), (2, 1, (.k (.i .i64 1)))]⟩,
 ⟨some 14, some (9, true), .bsl 47 3 2 [(.i .i64 0), (.s []), (.i .i64 0), (.i .i64 0), (.s []), (.i .i64 0)] [(0, (.t 12)), (1, (.t 13))]⟩,
 ⟨some 15, some (9, true), .call 13 [(3, (.t 11)), (3, (.t 14))]⟩,
 ⟨some 16, none, .pick (.t 9) (.t 15) (.k (.b false))⟩,
 ⟨some 0, none, .mv (.t 16)⟩])
 (.ret)))
theorem awake_spec : AFun Try.prog J0 4 [] (.b true) := by
  have e : scanR [50, 120] = ([⟨1, [50], 0⟩, ⟨2, [120], 1⟩], 0) := by decide
  have h1 := scan_spec [50, 120]
  rw [e] at h1
  refine AFun.mk fol J0s Try.func4 rfl (ac := a4) (by kernel_rfl) rfl rfl rfl ?_
  apply vm_start
  unfold a4
  simp only [init_eq, initE]
  have zc11 := h1
  have zc12 := from_spec [⟨1, [50], 0⟩, ⟨2, [120], 1⟩] (by decide)
  have zc13 := same_spec [⟨1, [50], 0⟩, ⟨2, [120], 1⟩] [⟨1, [50], 0⟩, ⟨2, [120], 1⟩] (by decide) (by decide)
  repeat first | (refine hK _ ?_; clear hK K) | simp only [Sv, ↓reduceIte, Nat.reduceEqDiff] | ((first | refine vm_reg (fun K hK => ?_) | refine vm_dreg (fun K hK => ?_) | refine vm_dregx (fun K hK => ?_) | refine clp_q ?_ | refine clq_mk (by assumption) ?_ | refine mcq_q ?_ | (apply mcr_mk; assumption) | (apply ocr_mk; assumption)); simp (disch := (first | omega | assumption)) only [S1, ↓reduceIte, Nat.reduceEqDiff, Nat.reduceAdd, Nat.reduceMul, Nat.reduceDiv, AOp.sb, AOp.mut, frzf, ↓Bool.false_eq_true, beq_self_eq_true, ite_self, Nat.reduceLeDiff, Int.reduceEq, Int.reduceSub, Int.reduceAdd, Int.reduceNeg, Int.reduceLT, Int.reduceLE, Nat.reduceLT, bz_L6])
  simp (disch := (first | omega | assumption)) only [retOk, retN, ret1, retF, ret1F, V.okArg, and_true, true_and, S1, ↓reduceIte, Nat.reduceEqDiff, Nat.reduceAdd, Nat.reduceMul, Nat.reduceDiv, AOp.sb, AOp.mut, frzf, ↓Bool.false_eq_true, beq_self_eq_true, ite_self, Nat.reduceLeDiff, Int.reduceEq, Int.reduceSub, Int.reduceAdd, Int.reduceNeg, Int.reduceLT, Int.reduceLE, Nat.reduceLT, bz_L6]
end Go.Proofs.Ytjfbkegdnljfjaa
