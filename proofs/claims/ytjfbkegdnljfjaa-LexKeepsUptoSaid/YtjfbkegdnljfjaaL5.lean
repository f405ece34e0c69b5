/-
  lex: lists of tokens; the line's tokens.
-/
import Derived.Test.YtjfbkegdnljfjaaL4
namespace Go.Proofs.Ytjfbkegdnljfjaa
open Go Go.RowKit Ab
set_option linter.unusedSimpArgs false
set_option linter.unusedVariables false
set_option maxHeartbeats 10000000
theorem bz_L5 : type_of% (And.intro @wi (And.intro @tn_nat (And.intro @tn0 (And.intro @Nat.div_one (@Nat.mul_one))))) := And.intro @wi (And.intro @tn_nat (And.intro @tn0 (And.intro @Nat.div_one (@Nat.mul_one))))
def Tv (x : Tk) : List V := [.i .i64 x.k, .s x.t, .i .i64 x.a]
def T (ts : List Tk) : List V := ts.flatMap Tv
theorem T_len (ts : List Tk) : (T ts).length = ts.length * 3 := by
  induction ts with
  | nil => rfl
  | cons x r ih => simp only [T, List.flatMap_cons, List.length_append, List.length_cons] at ih ⊢; rw [ih]; simp [Tv]; omega
theorem m3 (n : Nat) : n * 3 / 3 = n := by omega
theorem T_app (a b : List Tk) : T a ++ T b = T (a ++ b) := by simp [T]
theorem T_one (k : Int) (t : List UInt8) (a : Int) : [V.i .i64 k, .s t, .i .i64 a] = T [⟨k, t, a⟩] := rfl
theorem T_app1 (ts : List Tk) (k : Int) (t : List UInt8) (a : Int) : T ts ++ [V.i .i64 k, .s t, .i .i64 a] = T (ts ++ [⟨k, t, a⟩]) := by rw [T_one, T_app]
theorem T_drop : ∀ (ts : List Tk) (i : Nat), (T ts).drop (i * 3) = T (ts.drop i)
  | [], i => by simp [T]
  | x :: r, 0 => by simp
  | x :: r, i + 1 => by
    show (Tv x ++ T r).drop _ = _
    rw [show (i + 1) * 3 = i * 3 + 3 from by omega, ← List.drop_drop, List.drop_drop, Nat.add_comm (i * 3) 3, ← List.drop_drop, show (Tv x ++ T r).drop 3 = T r from rfl, T_drop r i]; rfl
theorem T_take : ∀ (ts : List Tk) (i : Nat), (T ts).take (i * 3) = T (ts.take i)
  | [], i => by simp [T]
  | x :: r, 0 => by simp [T]
  | x :: r, i + 1 => by
    show (Tv x ++ T r).take _ = _
    rw [show (i + 1) * 3 = 3 + i * 3 from by omega, show (Tv x ++ T r).take (3 + i * 3) = Tv x ++ (T r).take (i * 3) from by rw [List.take_append, show (Tv x).length = 3 from rfl, List.take_of_length_le (by simp [Tv])]; simp, T_take r i]
    rfl
theorem T_row (ts : List Tk) (i : Nat) (h : i < ts.length) : ((T ts).drop (i * 3)).take 3 = [V.i .i64 (ts.getD i default).k, .s (ts.getD i default).t, .i .i64 (ts.getD i default).a] := by
  rw [T_drop, List.drop_eq_getElem_cons h, List.getD_eq_getElem?_getD, List.getElem?_eq_getElem h]; rfl
theorem T_get (ts : List Tk) (i j : Nat) (h : i < ts.length) (hj : j < 3) : (T ts).getD (i * 3 + j) .un = (Tv (ts.getD i default)).getD j .un := by
  have h1 := T_row ts i h
  have h2 := congrArg (·.getD j .un) h1
  simp only [List.getD_eq_getElem?_getD, List.getElem?_take, hj, if_true, List.getElem?_drop] at h2 ⊢
  exact h2
theorem T_k (ts : List Tk) (i : Nat) (h : i < ts.length) : (T ts).getD (i * 3 + 0) .un = .i .i64 (ts.getD i default).k := T_get ts i 0 h (by omega)
theorem T_t (ts : List Tk) (i : Nat) (h : i < ts.length) : (T ts).getD (i * 3 + 1) .un = .s (ts.getD i default).t := T_get ts i 1 h (by omega)
theorem T_a (ts : List Tk) (i : Nat) (h : i < ts.length) : (T ts).getD (i * 3 + 2) .un = .i .i64 (ts.getD i default).a := T_get ts i 2 h (by omega)
theorem T_nf (ts : List Tk) : anyNF (T ts) = false := by
  induction ts with
  | nil => rfl
  | cons x r ih => simpa [T, Tv, anyNF, V.nf] using ih
theorem Tv_nf (x : Tk) : anyNF (Tv x) = false := by simp [Tv, anyNF, V.nf]
theorem T_cell (ts : List Tk) : (T ts).all V.cell = true := by
  induction ts with
  | nil => rfl
  | cons x r ih => simp [T, Tv, V.cell]
theorem T_nil : T [] = [] := rfl
theorem tk_dec (x y : Tk) : (decide (x.k = y.k) && (x.t == y.t && decide (x.a = y.a))) = decide (x = y) := by
  cases x; cases y
  simp only [Tk.mk.injEq, Bool.decide_and]
  congr 2
  rename_i t _ _ t' _
  cases h : t == t'
  · exact (decide_eq_false (by simpa using h)).symm
  · exact (decide_eq_true (by simpa using h)).symm
def a14 : AC := .seq (.reg [⟨some 2, none, .mv (.k .nl)⟩])
 (.seq (.reg [⟨some 3, none, .mv (.k .nl)⟩])
 (.seq (.seq (.reg [⟨some 5, none, .mv (.t 0)⟩,
 ⟨some 6, none, .len (.t 5)⟩,
 ⟨some 7, none, .mv (.k (.i .i64 0))⟩])
 (.blk 0
 (.loop
 (.seq (.reg [⟨some 8, none, .bin .lss (.t 7) (.t 6)⟩])
 (.seq (.cond (.t 8)
 (.skip)
 (.exit 0))
 (.seq (.blk 1
 (.seq (.reg [⟨some 9, none, .mv (.t 7)⟩,
 ⟨some 4, none, .mv (.t 9)⟩])
 (.dreg [⟨some 10, none, .mv (.t 3)⟩,
 ⟨some 11, none, .mv (.t 0)⟩,
 ⟨some 12, none, .mv (.t 4)⟩,
 ⟨some 13, none, .idx 3 (.t 11) (.t 12)⟩,
 ⟨some 14, none, .fad 0 (.t 13)⟩,
 ⟨some 15, none, .ld false 1 (.t 14)⟩,
 ⟨some 16, none, .mv (.t 0)⟩,
 ⟨some 17, none, .mv (.t 4)⟩,
 ⟨some 18, none, .idx 3 (.t 16) (.t 17)⟩,
 ⟨some 19, none, .fad 1 (.t 18)⟩,
 ⟨some 20, none, .ld false 1 (.t 19)⟩,
 ⟨some 21, none, .mv (.t 0)⟩,
 ⟨some 22, none, .mv (.t 4)⟩,
 ⟨some 23, none, .idx 3 (.t 21) (.t 22)⟩,
 ⟨some 24, none, .fad 2 (.t 23)⟩,
 ⟨some 25, none, .ld false 1 (.t 24)⟩,
 ⟨some 26, none, .bld [(.i .i64 0), (.s []), (.i .i64 0)] [(0, 1, (.t 15)), (1, 1, (.t 20)), (2, 1, (.t 25))]⟩,
 ⟨some 27, none, .bsl 47 3 1 [(.i .i64 0), (.s []), (.i .i64 0)] [(0, (.t 26))]⟩,
 ⟨some 28, none, .app 47 3 32 (.t 10) (.t 27)⟩,
 ⟨some 3, none, .mv (.t 28)⟩])))
 (.reg [⟨some 29, none, .bin .add (.t 7) (.k (.i .i64 1))⟩,
 ⟨some 7, none, .mv (.t 29)⟩])))))))
 (.seq (.reg [⟨some 30, none, .mv (.t 3)⟩,
 ⟨some 2, none, .mv (.t 30)⟩])
 (.ret))))
theorem from_spec (ts : List Tk) (hl : ts.length ≤ 1000000000) : AFun Try.prog J0 14 [.l 3 (T ts)] (.o 47 3 (T ts)) := by
  refine AFun.mk fol J0s Try.func14 rfl (ac := a14) (by kernel_rfl) rfl rfl rfl ?_
  apply vm_start
  unfold a14
  simp only [init_eq, initE]
  repeat first
    | (refine hK _ ?_; clear hK K)
    | ((first | refine vm_reg (fun K hK => ?_) | refine vm_dreg (fun K hK => ?_) | refine vm_dregx (fun K hK => ?_)); simp (disch := (first | omega | assumption)) only [S1, ↓reduceIte, Nat.reduceEqDiff, Nat.reduceAdd, Nat.reduceMul, Nat.reduceDiv, AOp.sb, AOp.mut, frzf, ↓Bool.false_eq_true, beq_self_eq_true, ite_self, Nat.reduceLeDiff, Int.reduceEq, Int.reduceSub, Int.reduceAdd, Int.reduceNeg, Int.reduceLT, Int.reduceLE, Nat.reduceLT, bz_L5, T_len, m3, T_row, T_nf, T_app1, Tv_nf]; refine hK _ ?_; clear hK K)
    | simp only [Sv, ↓reduceIte, Nat.reduceEqDiff]
  refine vm_loopA [(3, 47, 3)] Nat (fun i => ⟨[(0, .l 3 (T ts)), (3, .ow 3 0 i), (6, .i .i64 (ts.length : Int)), (7, .i .i64 (i : Int))], [(0, some ⟨47, 3, T (ts.take i), true, false⟩)], 1⟩)
    (fun i => i ≤ ts.length) (fun i => ts.length - i) 0 (Nat.zero_le _) (by simp (disch := (first | omega | assumption)) only [Sl, Sa, Sw, ↓reduceIte, Nat.reduceEqDiff, Nat.reduceLT, List.all_nil, List.all_cons, Nat.reduceBneDiff, Nat.reduceAdd, bne_iff_ne, ne_eq, reduceCtorEq, not_false_eq_true, not_true_eq_false, Bool.and_true, Bool.true_and, and_true, true_and, and_self]) (by
    simp (disch := (first | omega | assumption)) only [Sl, Sa, Sw, ↓reduceIte, Nat.reduceEqDiff, Nat.reduceLT, List.all_nil, List.all_cons, Nat.reduceBneDiff, Nat.reduceAdd, bne_iff_ne, ne_eq, reduceCtorEq, not_false_eq_true, not_true_eq_false, Bool.and_true, Bool.true_and, and_true, true_and, and_self, i_eq]
    repeat' first | rfl | omega | (simp only [List.length_append, List.length_cons, List.length_nil]; done) | apply And.intro) ?_
  intro i hi Q' hQ he hr
  by_cases hlt : (i : Int) < ts.length
  · have hlt' : i < ts.length := by omega
    have ht : ts.take i ++ [⟨(ts.getD i default).k, (ts.getD i default).t, (ts.getD i default).a⟩] = ts.take (i + 1) := by
      rw [List.take_succ_eq_append_getElem hlt', List.getD_eq_getElem?_getD, List.getElem?_eq_getElem hlt']; rfl
    repeat first
      | (refine hK _ ?_; clear hK K)
      | ((first | refine vm_reg (fun K hK => ?_) | refine vm_dreg (fun K hK => ?_) | refine vm_dregx (fun K hK => ?_)); simp (disch := (first | omega | assumption)) only [S1, ↓reduceIte, Nat.reduceEqDiff, Nat.reduceAdd, Nat.reduceMul, Nat.reduceDiv, AOp.sb, AOp.mut, frzf, ↓Bool.false_eq_true, beq_self_eq_true, ite_self, Nat.reduceLeDiff, Int.reduceEq, Int.reduceSub, Int.reduceAdd, Int.reduceNeg, Int.reduceLT, Int.reduceLE, Nat.reduceLT, bz_L5, T_len, m3, T_row, T_nf, T_app1, Tv_nf, hlt, T_k, T_t, T_a, ht]; refine hK _ ?_; clear hK K)
      | simp only [Sv, ↓reduceIte, Nat.reduceEqDiff]
    refine hQ _ (i + 1) (by omega) (by omega) ?_
    simp (disch := (first | omega | assumption)) only [Sl, Sa, Sw, ↓reduceIte, Nat.reduceEqDiff, Nat.reduceLT, List.all_nil, List.all_cons, Nat.reduceBneDiff, Nat.reduceAdd, bne_iff_ne, ne_eq, reduceCtorEq, not_false_eq_true, not_true_eq_false, Bool.and_true, Bool.true_and, and_true, true_and, and_self, i_eq]
    repeat' first | rfl | omega | (simp only [List.length_append, List.length_cons, List.length_nil]; done) | apply And.intro
  · obtain rfl : i = ts.length := by omega
    repeat first
      | (refine hK _ ?_; clear hK K)
      | ((first | refine vm_reg (fun K hK => ?_) | refine vm_dreg (fun K hK => ?_) | refine vm_dregx (fun K hK => ?_)); simp (disch := (first | omega | assumption)) only [S1, ↓reduceIte, Nat.reduceEqDiff, Nat.reduceAdd, Nat.reduceMul, Nat.reduceDiv, AOp.sb, AOp.mut, frzf, ↓Bool.false_eq_true, beq_self_eq_true, ite_self, Nat.reduceLeDiff, Int.reduceEq, Int.reduceSub, Int.reduceAdd, Int.reduceNeg, Int.reduceLT, Int.reduceLE, Nat.reduceLT, bz_L5, T_len, m3, T_row, T_nf, T_app1, Tv_nf, hlt]; refine hK _ ?_; clear hK K)
      | simp only [Sv, ↓reduceIte, Nat.reduceEqDiff]
    refine he _ _ ?_
    repeat first
      | (refine hK _ ?_; clear hK K)
      | ((first | refine vm_reg (fun K hK => ?_) | refine vm_dreg (fun K hK => ?_) | refine vm_dregx (fun K hK => ?_)); simp (disch := (first | omega | assumption)) only [S1, ↓reduceIte, Nat.reduceEqDiff, Nat.reduceAdd, Nat.reduceMul, Nat.reduceDiv, AOp.sb, AOp.mut, frzf, ↓Bool.false_eq_true, beq_self_eq_true, ite_self, Nat.reduceLeDiff, Int.reduceEq, Int.reduceSub, Int.reduceAdd, Int.reduceNeg, Int.reduceLT, Int.reduceLE, Nat.reduceLT, bz_L5, T_len, m3, T_row, T_nf, T_app1, Tv_nf]; refine hK _ ?_; clear hK K)
      | simp only [Sv, ↓reduceIte, Nat.reduceEqDiff]
    rw [List.take_length]
    simp (disch := (first | omega | assumption)) only [retOk, retN, ret1, retF, ret1F, V.okArg, and_true, true_and, S1, ↓reduceIte, Nat.reduceEqDiff, Nat.reduceAdd, Nat.reduceMul, Nat.reduceDiv, AOp.sb, AOp.mut, frzf, ↓Bool.false_eq_true, beq_self_eq_true, ite_self, Nat.reduceLeDiff, Int.reduceEq, Int.reduceSub, Int.reduceAdd, Int.reduceNeg, Int.reduceLT, Int.reduceLE, Nat.reduceLT, bz_L5, T_len, m3, T_row, T_nf, T_app1, Tv_nf]
def a5 : AC := .seq (.reg [⟨some 2, none, .mv (.k .nl)⟩])
 (.seq (.reg [⟨some 3, none, .mv (.k .nl)⟩])
 (.seq (.seq (.reg [⟨some 5, none, .mv (.t 0)⟩,
 ⟨some 6, none, .len (.t 5)⟩,
 ⟨some 7, none, .mv (.k (.i .i64 0))⟩])
 (.blk 0
 (.loop
 (.seq (.reg [⟨some 8, none, .bin .lss (.t 7) (.t 6)⟩])
 (.seq (.cond (.t 8)
 (.skip)
 (.exit 0))
 (.seq (.blk 1
 (.seq (.reg [⟨some 9, none, .mv (.t 7)⟩,
 ⟨some 4, none, .mv (.t 9)⟩])
 (.dreg [⟨some 10, none, .mv (.t 3)⟩,
 ⟨some 11, none, .mv (.t 0)⟩,
 ⟨some 12, none, .mv (.t 4)⟩,
 ⟨some 13, none, .idx 3 (.t 11) (.t 12)⟩,
 ⟨some 14, none, .fad 0 (.t 13)⟩,
 ⟨some 15, none, .ld false 1 (.t 14)⟩,
 ⟨some 16, none, .mv (.t 0)⟩,
 ⟨some 17, none, .mv (.t 4)⟩,
 ⟨some 18, none, .idx 3 (.t 16) (.t 17)⟩,
 ⟨some 19, none, .fad 1 (.t 18)⟩,
 ⟨some 20, none, .ld false 1 (.t 19)⟩,
 ⟨some 21, none, .mv (.t 0)⟩,
 ⟨some 22, none, .mv (.t 4)⟩,
 ⟨some 23, none, .idx 3 (.t 21) (.t 22)⟩,
 ⟨some 24, none, .fad 2 (.t 23)⟩,
 ⟨some 25, none, .ld false 1 (.t 24)⟩,
 ⟨some 26, none, .bld [(.i .i64 0), (.s []), (.i .i64 0)] [(0, 1, (.t 15)), (1, 1, (.t 20)), (2, 1, (.t 25))]⟩,
 ⟨some 27, none, .bsl 27 3 1 [(.i .i64 0), (.s []), (.i .i64 0)] [(0, (.t 26))]⟩,
 ⟨some 28, none, .app 27 3 32 (.t 10) (.t 27)⟩,
 ⟨some 3, none, .mv (.t 28)⟩])))
 (.reg [⟨some 29, none, .bin .add (.t 7) (.k (.i .i64 1))⟩,
 ⟨some 7, none, .mv (.t 29)⟩])))))))
 (.seq (.reg [⟨some 30, none, .mv (.t 3)⟩,
 ⟨some 2, none, .mv (.t 30)⟩])
 (.ret))))
theorem to_spec (ts : List Tk) (hl : ts.length ≤ 1000000000) : AFun Try.prog J0 5 [.l 3 (T ts)] (.o 27 3 (T ts)) := by
  refine AFun.mk fol J0s Try.func5 rfl (ac := a5) (by kernel_rfl) rfl rfl rfl ?_
  apply vm_start
  unfold a5
  simp only [init_eq, initE]
  repeat first
    | (refine hK _ ?_; clear hK K)
    | ((first | refine vm_reg (fun K hK => ?_) | refine vm_dreg (fun K hK => ?_) | refine vm_dregx (fun K hK => ?_)); simp (disch := (first | omega | assumption)) only [S1, ↓reduceIte, Nat.reduceEqDiff, Nat.reduceAdd, Nat.reduceMul, Nat.reduceDiv, AOp.sb, AOp.mut, frzf, ↓Bool.false_eq_true, beq_self_eq_true, ite_self, Nat.reduceLeDiff, Int.reduceEq, Int.reduceSub, Int.reduceAdd, Int.reduceNeg, Int.reduceLT, Int.reduceLE, Nat.reduceLT, bz_L5, T_len, m3, T_row, T_nf, T_app1, Tv_nf]; refine hK _ ?_; clear hK K)
    | simp only [Sv, ↓reduceIte, Nat.reduceEqDiff]
  refine vm_loopA [(3, 27, 3)] Nat (fun i => ⟨[(0, .l 3 (T ts)), (3, .ow 3 0 i), (6, .i .i64 (ts.length : Int)), (7, .i .i64 (i : Int))], [(0, some ⟨27, 3, T (ts.take i), true, false⟩)], 1⟩)
    (fun i => i ≤ ts.length) (fun i => ts.length - i) 0 (Nat.zero_le _) (by simp (disch := (first | omega | assumption)) only [Sl, Sa, Sw, ↓reduceIte, Nat.reduceEqDiff, Nat.reduceLT, List.all_nil, List.all_cons, Nat.reduceBneDiff, Nat.reduceAdd, bne_iff_ne, ne_eq, reduceCtorEq, not_false_eq_true, not_true_eq_false, Bool.and_true, Bool.true_and, and_true, true_and, and_self]) (by
    simp (disch := (first | omega | assumption)) only [Sl, Sa, Sw, ↓reduceIte, Nat.reduceEqDiff, Nat.reduceLT, List.all_nil, List.all_cons, Nat.reduceBneDiff, Nat.reduceAdd, bne_iff_ne, ne_eq, reduceCtorEq, not_false_eq_true, not_true_eq_false, Bool.and_true, Bool.true_and, and_true, true_and, and_self, i_eq]
    repeat' first | rfl | omega | (simp only [List.length_append, List.length_cons, List.length_nil]; done) | apply And.intro) ?_
  intro i hi Q' hQ he hr
  by_cases hlt : (i : Int) < ts.length
  · have hlt' : i < ts.length := by omega
    have ht : ts.take i ++ [⟨(ts.getD i default).k, (ts.getD i default).t, (ts.getD i default).a⟩] = ts.take (i + 1) := by
      rw [List.take_succ_eq_append_getElem hlt', List.getD_eq_getElem?_getD, List.getElem?_eq_getElem hlt']; rfl
    repeat first
      | (refine hK _ ?_; clear hK K)
      | ((first | refine vm_reg (fun K hK => ?_) | refine vm_dreg (fun K hK => ?_) | refine vm_dregx (fun K hK => ?_)); simp (disch := (first | omega | assumption)) only [S1, ↓reduceIte, Nat.reduceEqDiff, Nat.reduceAdd, Nat.reduceMul, Nat.reduceDiv, AOp.sb, AOp.mut, frzf, ↓Bool.false_eq_true, beq_self_eq_true, ite_self, Nat.reduceLeDiff, Int.reduceEq, Int.reduceSub, Int.reduceAdd, Int.reduceNeg, Int.reduceLT, Int.reduceLE, Nat.reduceLT, bz_L5, T_len, m3, T_row, T_nf, T_app1, Tv_nf, hlt, T_k, T_t, T_a, ht]; refine hK _ ?_; clear hK K)
      | simp only [Sv, ↓reduceIte, Nat.reduceEqDiff]
    refine hQ _ (i + 1) (by omega) (by omega) ?_
    simp (disch := (first | omega | assumption)) only [Sl, Sa, Sw, ↓reduceIte, Nat.reduceEqDiff, Nat.reduceLT, List.all_nil, List.all_cons, Nat.reduceBneDiff, Nat.reduceAdd, bne_iff_ne, ne_eq, reduceCtorEq, not_false_eq_true, not_true_eq_false, Bool.and_true, Bool.true_and, and_true, true_and, and_self, i_eq]
    repeat' first | rfl | omega | (simp only [List.length_append, List.length_cons, List.length_nil]; done) | apply And.intro
  · obtain rfl : i = ts.length := by omega
    repeat first
      | (refine hK _ ?_; clear hK K)
      | ((first | refine vm_reg (fun K hK => ?_) | refine vm_dreg (fun K hK => ?_) | refine vm_dregx (fun K hK => ?_)); simp (disch := (first | omega | assumption)) only [S1, ↓reduceIte, Nat.reduceEqDiff, Nat.reduceAdd, Nat.reduceMul, Nat.reduceDiv, AOp.sb, AOp.mut, frzf, ↓Bool.false_eq_true, beq_self_eq_true, ite_self, Nat.reduceLeDiff, Int.reduceEq, Int.reduceSub, Int.reduceAdd, Int.reduceNeg, Int.reduceLT, Int.reduceLE, Nat.reduceLT, bz_L5, T_len, m3, T_row, T_nf, T_app1, Tv_nf, hlt]; refine hK _ ?_; clear hK K)
      | simp only [Sv, ↓reduceIte, Nat.reduceEqDiff]
    refine he _ _ ?_
    repeat first
      | (refine hK _ ?_; clear hK K)
      | ((first | refine vm_reg (fun K hK => ?_) | refine vm_dreg (fun K hK => ?_) | refine vm_dregx (fun K hK => ?_)); simp (disch := (first | omega | assumption)) only [S1, ↓reduceIte, Nat.reduceEqDiff, Nat.reduceAdd, Nat.reduceMul, Nat.reduceDiv, AOp.sb, AOp.mut, frzf, ↓Bool.false_eq_true, beq_self_eq_true, ite_self, Nat.reduceLeDiff, Int.reduceEq, Int.reduceSub, Int.reduceAdd, Int.reduceNeg, Int.reduceLT, Int.reduceLE, Nat.reduceLT, bz_L5, T_len, m3, T_row, T_nf, T_app1, Tv_nf]; refine hK _ ?_; clear hK K)
      | simp only [Sv, ↓reduceIte, Nat.reduceEqDiff]
    rw [List.take_length]
    simp (disch := (first | omega | assumption)) only [retOk, retN, ret1, retF, ret1F, V.okArg, and_true, true_and, S1, ↓reduceIte, Nat.reduceEqDiff, Nat.reduceAdd, Nat.reduceMul, Nat.reduceDiv, AOp.sb, AOp.mut, frzf, ↓Bool.false_eq_true, beq_self_eq_true, ite_self, Nat.reduceLeDiff, Int.reduceEq, Int.reduceSub, Int.reduceAdd, Int.reduceNeg, Int.reduceLT, Int.reduceLE, Nat.reduceLT, bz_L5, T_len, m3, T_row, T_nf, T_app1, Tv_nf]
def a13 : AC := .seq (.reg [⟨some 4, none, .mv (.k (.b false))⟩])
 (.seq (.seq (.reg [⟨some 6, none, .mv (.t 0)⟩,
 ⟨some 7, none, .len (.t 6)⟩,
 ⟨some 8, none, .mv (.t 1)⟩,
 ⟨some 9, none, .len (.t 8)⟩,
 ⟨some 10, none, .bin .neq (.t 7) (.t 9)⟩])
 (.cond (.t 10)
 (.seq (.reg [⟨some 4, none, .mv (.k (.b false))⟩])
 (.ret))
 (.skip)))
 (.seq (.seq (.reg [⟨some 5, none, .mv (.k (.i .i64 0))⟩])
 (.blk 0
 (.loop
 (.seq (.seq (.reg [⟨some 11, none, .mv (.t 5)⟩,
 ⟨some 12, none, .mv (.t 0)⟩,
 ⟨some 13, none, .len (.t 12)⟩,
 ⟨some 14, none, .bin .lss (.t 11) (.t 13)⟩])
 (.cond (.t 14)
 (.skip)
 (.exit 0)))
 (.seq (.blk 1
 (.seq (.dreg [⟨some 17, none, .mv (.t 0)⟩,
 ⟨some 18, none, .mv (.t 5)⟩,
 ⟨some 19, none, .idx 3 (.t 17) (.t 18)⟩,
 ⟨some 20, none, .ld true 3 (.t 19)⟩,
 ⟨some 21, none, .mv (.t 1)⟩,
 ⟨some 22, none, .mv (.t 5)⟩,
 ⟨some 23, none, .idx 3 (.t 21) (.t 22)⟩,
 ⟨some 24, none, .ld true 3 (.t 23)⟩,
 ⟨some 25, none, .pur (.eqs true [1, 2, 1]) [(.t 20), (.t 24)]⟩])
 (.cond (.t 25)
 (.seq (.reg [⟨some 4, none, .mv (.k (.b false))⟩])
 (.ret))
 (.skip))))
 (.reg [⟨some 15, none, .mv (.t 5)⟩,
 ⟨some 16, none, .bin .add (.t 15) (.k (.i .i64 1))⟩,
 ⟨some 5, none, .mv (.t 16)⟩]))))))
 (.seq (.reg [⟨some 4, none, .mv (.k (.b true))⟩])
 (.ret))))
theorem same_spec (a b : List Tk) (la : a.length ≤ 1000000000000) (lb : b.length ≤ 1000000000000) : AFun Try.prog J0 13 [.l 3 (T a), .l 3 (T b)] (.b (decide (a = b))) := by
  refine AFun.mk fol J0s Try.func13 rfl (ac := a13) (by kernel_rfl) rfl rfl rfl ?_
  apply vm_start
  unfold a13
  simp only [init_eq, initE]
  by_cases h : (a.length : Int) = (b.length : Int)
  · repeat first
      | (refine hK _ ?_; clear hK K)
      | ((first | refine vm_reg (fun K hK => ?_) | refine vm_dreg (fun K hK => ?_) | refine vm_dregx (fun K hK => ?_)); simp (disch := (first | omega | assumption)) only [S1, ↓reduceIte, Nat.reduceEqDiff, Nat.reduceAdd, Nat.reduceMul, Nat.reduceDiv, AOp.sb, AOp.mut, frzf, ↓Bool.false_eq_true, beq_self_eq_true, ite_self, Nat.reduceLeDiff, Int.reduceEq, Int.reduceSub, Int.reduceAdd, Int.reduceNeg, Int.reduceLT, Int.reduceLE, Nat.reduceLT, bz_L5, T_len, m3, T_row, T_nf, T_app1, Tv_nf, h]; refine hK _ ?_; clear hK K)
      | simp only [Sv, ↓reduceIte, Nat.reduceEqDiff]
    refine vm_loopA [] Nat (fun i => ⟨[(0, .l 3 (T a)), (1, .l 3 (T b)), (5, .i .i64 (i : Int))], [], 0⟩) (fun i => i ≤ a.length ∧ a.take i = b.take i) (fun i => a.length - i) 0 ⟨by omega, rfl⟩ (by simp (disch := (first | omega | assumption)) only [Sl, Sa, Sw, ↓reduceIte, Nat.reduceEqDiff, Nat.reduceLT, List.all_nil, List.all_cons, Nat.reduceBneDiff, Nat.reduceAdd, bne_iff_ne, ne_eq, reduceCtorEq, not_false_eq_true, not_true_eq_false, Bool.and_true, Bool.true_and, and_true, true_and, and_self]) (by
      simp (disch := (first | omega | assumption)) only [Sl, Sa, Sw, ↓reduceIte, Nat.reduceEqDiff, Nat.reduceLT, List.all_nil, List.all_cons, Nat.reduceBneDiff, Nat.reduceAdd, bne_iff_ne, ne_eq, reduceCtorEq, not_false_eq_true, not_true_eq_false, Bool.and_true, Bool.true_and, and_true, true_and, and_self, i_eq]
      rfl) ?_
    intro i ⟨hi, hj⟩ Q' hQ he hr
    by_cases h1 : (i : Int) < a.length
    · have h1' : i < a.length := by omega
      have h1'' : i < b.length := by omega
      have ea : a.take (i + 1) = a.take i ++ [a.getD i default] := by rw [List.take_succ_eq_append_getElem h1', List.getD_eq_getElem?_getD, List.getElem?_eq_getElem h1']; rfl
      have eb : b.take (i + 1) = b.take i ++ [b.getD i default] := by rw [List.take_succ_eq_append_getElem h1'', List.getD_eq_getElem?_getD, List.getElem?_eq_getElem h1'']; rfl
      by_cases h2 : a.getD i default = b.getD i default
      · repeat first
          | (refine hK _ ?_; clear hK K)
          | ((first | refine vm_reg (fun K hK => ?_) | refine vm_dreg (fun K hK => ?_) | refine vm_dregx (fun K hK => ?_)); simp (disch := (first | omega | assumption)) only [S1, ↓reduceIte, Nat.reduceEqDiff, Nat.reduceAdd, Nat.reduceMul, Nat.reduceDiv, AOp.sb, AOp.mut, frzf, ↓Bool.false_eq_true, beq_self_eq_true, ite_self, Nat.reduceLeDiff, Int.reduceEq, Int.reduceSub, Int.reduceAdd, Int.reduceNeg, Int.reduceLT, Int.reduceLE, Nat.reduceLT, bz_L5, T_len, m3, T_row, T_nf, T_app1, Tv_nf, h1, tk_dec, h2]; refine hK _ ?_; clear hK K)
          | simp only [Sv, ↓reduceIte, Nat.reduceEqDiff]
        refine hQ _ (i + 1) ⟨by omega, by rw [ea, eb, hj, h2]⟩ (by omega) ?_
        simp (disch := (first | omega | assumption)) only [Sl, Sa, Sw, ↓reduceIte, Nat.reduceEqDiff, Nat.reduceLT, List.all_nil, List.all_cons, Nat.reduceBneDiff, Nat.reduceAdd, bne_iff_ne, ne_eq, reduceCtorEq, not_false_eq_true, not_true_eq_false, Bool.and_true, Bool.true_and, and_true, true_and, and_self, i_eq]
        omega
      · repeat first
          | (refine hK _ ?_; clear hK K)
          | ((first | refine vm_reg (fun K hK => ?_) | refine vm_dreg (fun K hK => ?_) | refine vm_dregx (fun K hK => ?_)); simp (disch := (first | omega | assumption)) only [S1, ↓reduceIte, Nat.reduceEqDiff, Nat.reduceAdd, Nat.reduceMul, Nat.reduceDiv, AOp.sb, AOp.mut, frzf, ↓Bool.false_eq_true, beq_self_eq_true, ite_self, Nat.reduceLeDiff, Int.reduceEq, Int.reduceSub, Int.reduceAdd, Int.reduceNeg, Int.reduceLT, Int.reduceLE, Nat.reduceLT, bz_L5, T_len, m3, T_row, T_nf, T_app1, Tv_nf, h1, tk_dec, h2]; refine hK _ ?_; clear hK K)
          | simp only [Sv, ↓reduceIte, Nat.reduceEqDiff]
        refine hr _ ?_
        have e : ¬ a = b := fun h => h2 (by rw [h])
        simp (disch := (first | omega | assumption)) only [retOk, retN, ret1, retF, ret1F, V.okArg, and_true, true_and, S1, ↓reduceIte, Nat.reduceEqDiff, Nat.reduceAdd, Nat.reduceMul, Nat.reduceDiv, AOp.sb, AOp.mut, frzf, ↓Bool.false_eq_true, beq_self_eq_true, ite_self, Nat.reduceLeDiff, Int.reduceEq, Int.reduceSub, Int.reduceAdd, Int.reduceNeg, Int.reduceLT, Int.reduceLE, Nat.reduceLT, bz_L5, T_len, m3, T_row, T_nf, T_app1, Tv_nf, e]
    · repeat first
        | (refine hK _ ?_; clear hK K)
        | ((first | refine vm_reg (fun K hK => ?_) | refine vm_dreg (fun K hK => ?_) | refine vm_dregx (fun K hK => ?_)); simp (disch := (first | omega | assumption)) only [S1, ↓reduceIte, Nat.reduceEqDiff, Nat.reduceAdd, Nat.reduceMul, Nat.reduceDiv, AOp.sb, AOp.mut, frzf, ↓Bool.false_eq_true, beq_self_eq_true, ite_self, Nat.reduceLeDiff, Int.reduceEq, Int.reduceSub, Int.reduceAdd, Int.reduceNeg, Int.reduceLT, Int.reduceLE, Nat.reduceLT, bz_L5, T_len, m3, T_row, T_nf, T_app1, Tv_nf, h1]; refine hK _ ?_; clear hK K)
        | simp only [Sv, ↓reduceIte, Nat.reduceEqDiff]
      refine he _ _ ?_
      repeat first
        | (refine hK _ ?_; clear hK K)
        | ((first | refine vm_reg (fun K hK => ?_) | refine vm_dreg (fun K hK => ?_) | refine vm_dregx (fun K hK => ?_)); simp (disch := (first | omega | assumption)) only [S1, ↓reduceIte, Nat.reduceEqDiff, Nat.reduceAdd, Nat.reduceMul, Nat.reduceDiv, AOp.sb, AOp.mut, frzf, ↓Bool.false_eq_true, beq_self_eq_true, ite_self, Nat.reduceLeDiff, Int.reduceEq, Int.reduceSub, Int.reduceAdd, Int.reduceNeg, Int.reduceLT, Int.reduceLE, Nat.reduceLT, bz_L5, T_len, m3, T_row, T_nf, T_app1, Tv_nf]; refine hK _ ?_; clear hK K)
        | simp only [Sv, ↓reduceIte, Nat.reduceEqDiff]
      have e : a = b := by
        have : i = a.length := by omega
        rw [this, List.take_length, List.take_of_length_le (by omega)] at hj
        exact hj
      simp (disch := (first | omega | assumption)) only [retOk, retN, ret1, retF, ret1F, V.okArg, and_true, true_and, S1, ↓reduceIte, Nat.reduceEqDiff, Nat.reduceAdd, Nat.reduceMul, Nat.reduceDiv, AOp.sb, AOp.mut, frzf, ↓Bool.false_eq_true, beq_self_eq_true, ite_self, Nat.reduceLeDiff, Int.reduceEq, Int.reduceSub, Int.reduceAdd, Int.reduceNeg, Int.reduceLT, Int.reduceLE, Nat.reduceLT, bz_L5, T_len, m3, T_row, T_nf, T_app1, Tv_nf, e]
  · repeat first
      | (refine hK _ ?_; clear hK K)
      | ((first | refine vm_reg (fun K hK => ?_) | refine vm_dreg (fun K hK => ?_) | refine vm_dregx (fun K hK => ?_)); simp (disch := (first | omega | assumption)) only [S1, ↓reduceIte, Nat.reduceEqDiff, Nat.reduceAdd, Nat.reduceMul, Nat.reduceDiv, AOp.sb, AOp.mut, frzf, ↓Bool.false_eq_true, beq_self_eq_true, ite_self, Nat.reduceLeDiff, Int.reduceEq, Int.reduceSub, Int.reduceAdd, Int.reduceNeg, Int.reduceLT, Int.reduceLE, Nat.reduceLT, bz_L5, T_len, m3, T_row, T_nf, T_app1, Tv_nf, h]; refine hK _ ?_; clear hK K)
      | simp only [Sv, ↓reduceIte, Nat.reduceEqDiff]
    have e : ¬ a = b := fun h' => h (by rw [h'])
    simp (disch := (first | omega | assumption)) only [retOk, retN, ret1, retF, ret1F, V.okArg, and_true, true_and, S1, ↓reduceIte, Nat.reduceEqDiff, Nat.reduceAdd, Nat.reduceMul, Nat.reduceDiv, AOp.sb, AOp.mut, frzf, ↓Bool.false_eq_true, beq_self_eq_true, ite_self, Nat.reduceLeDiff, Int.reduceEq, Int.reduceSub, Int.reduceAdd, Int.reduceNeg, Int.reduceLT, Int.reduceLE, Nat.reduceLT, bz_L5, T_len, m3, T_row, T_nf, T_app1, Tv_nf, e]
def quiet : List UInt8 → Bool
  | [] => true
  | c :: r => if isBl c then quiet r else decide (c.toNat = 35)
end Go.Proofs.Ytjfbkegdnljfjaa
