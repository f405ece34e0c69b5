/-
  The texts Ref1, Ref2, Ref3, Ref4, Ref6, Shift, Shift2.
-/
import Derived.Test.YtkmjbgpkndpkdaaGD
namespace Go.Proofs.Ytkmjbgpkndpkdaa
open Go Go.RowKit Ab
set_option linter.unusedSimpArgs false
set_option linter.unusedVariables false
set_option maxHeartbeats 10000000
theorem bz_Ref1 : type_of% (And.intro @W_len (And.intro @D_len (And.intro @Nat.div_one (And.intro @Nat.mul_one (And.intro @tn_nat (And.intro @W_nf (And.intro @D_nf (And.intro @W_nil (@D_nil))))))))) := And.intro @W_len (And.intro @D_len (And.intro @Nat.div_one (And.intro @Nat.mul_one (And.intro @tn_nat (And.intro @W_nf (And.intro @D_nf (And.intro @W_nil (@D_nil))))))))
def a26 : AC := .seq (.reg [qr 2 (.mv (.k .nl))])
 (.seq (.reg [qm 4 0,
 qr 5 (.len (.t 4)),
 qm 3 5])
 (.seq (.blk 0
 (.loop
 (.seq (.seq (.reg [qm 6 3,
 qr 7 (.bin .gtr (.t 6) (.k (.i .i64 0))),
 qm 8 7,
 ⟨some 9, some (8, true), .mv (.t 0)⟩,
 ⟨some 10, some (8, true), .mv (.t 3)⟩,
 ⟨some 11, some (8, true), .bin .sub (.t 10) (.k (.i .i64 1))⟩,
 ⟨some 12, some (8, true), .idx 1 (.t 9) (.t 11)⟩,
 ⟨some 13, some (8, true), .ld false 1 (.t 12)⟩,
 ⟨some 14, some (8, true), .bin .eql (.t 13) (.k (.i .i64 0))⟩,
 qr 15 (.pick (.t 8) (.t 14) (.k (.b false)))])
 (.cond (.t 15)
 (.skip)
 (.exit 0)))
 (.blk 1
 (.reg [qm 16 3,
 qr 17 (.bin .sub (.t 16) (.k (.i .i64 1))),
 qm 3 17])))))
 (.seq (.reg [qm 18 0,
 qm 19 3,
 qr 20 (.sub 1 (.t 18) none (some (.t 19))),
 qm 2 20])
 (.ret))))
theorem cut0_spec (a : List Nat) (ha : a.length ≤ 9223372036854775807) : AFun Try.prog J0 26 [.l 1 (D a)] (.l 1 (D (tz a))) := by
  refine mkQ fol J0s Try.func26 a26 ?_
  unfold a26
  simp only [init_eq, initE, qm, qr, qn]
  refine spQ @bz_Ref1 ?_
  refine vm_loop Nat (fun n => ⟨[(0, .l 1 (D a)), (3, .i .i64 (n : Int))], [], 0⟩) (fun n => n ≤ a.length ∧ tz a = tz (a.take n)) (fun n => n) a.length [] ⟨by omega, by rw [List.take_length]⟩ (by exact leQ) ?_
  intro n ⟨hn, ht⟩ Q' hQ he hr
  by_cases h0 : 0 < (n : Int)
  · obtain ⟨m, rfl⟩ : ∃ m, n = m + 1 := ⟨n - 1, by omega⟩
    by_cases h1 : ((a.getD m 0 : Nat) : Int) = 0
    · refine spQ (ai @Nat.add_sub_cancel (ai @tn_sub1 (ai @wi (ai @D_get (ai @h1 (ai @h0 @bz_Ref1)))))) ?_
      refine hQ _ m [] ⟨by omega, ?_⟩ (by omega) ?_
      · rw [ht]; exact tz_zero a m (by omega) (by omega)
      · simp (disch := (first | omega | assumption)) only [Sl, Sa, Sw, ↓reduceIte, Nat.reduceEqDiff, Nat.reduceLT, List.all_nil, List.all_cons, Nat.reduceBneDiff, Nat.reduceAdd, bne_iff_ne, ne_eq, reduceCtorEq, not_false_eq_true, not_true_eq_false, Bool.and_true, Bool.true_and, and_true, true_and, and_self, i_eq]
        omega
    · refine spQ (ai @Nat.add_sub_cancel (ai @tn_sub1 (ai @wi (ai @D_get (ai @h1 (ai @h0 @bz_Ref1)))))) ?_
      refine he _ _ ?_
      refine spQ (ai @D_take @bz_Ref1) ?_
      have e := tz_take a
      rw [ht, tz_top a m (by omega) (by omega)] at e
      refine rtO @bz_Ref1 ?_
      rw [e, ht]
  · refine spQ (ai @h0 @bz_Ref1) ?_
    refine he _ _ ?_
    obtain rfl : n = 0 := by omega
    refine spQ (ai @D_take @bz_Ref1) ?_
    refine rtO (ai @ht @bz_Ref1) ?_
    rfl
theorem D_cat1 (a : List Nat) (x : Nat) : D a ++ [V.i .i64 (x : Int)] = D (a ++ [x]) := by simp [D]
theorem tmod_nat (a b : Nat) : (a : Int).tmod (b : Int) = ((a % b : Nat) : Int) := rfl
theorem tdiv_nat (a b : Nat) : (a : Int).tdiv (b : Int) = ((a / b : Nat) : Int) := rfl
theorem tmod_256 (a : Nat) : (a : Int).tmod 256 = ((a % 256 : Nat) : Int) := rfl
theorem tdiv_256 (a : Nat) : (a : Int).tdiv 256 = ((a / 256 : Nat) : Int) := rfl
theorem B_256 (i : Nat) : B ^ i = 256 ^ (8 * i) := by rw [Nat.pow_mul]; rfl
def a16 : AC := .seq (.reg [qr 2 (.mv (.k .nl))])
 (.seq (.reg [qr 3 (.mv (.k .nl))])
 (.seq (.seq (.reg [qr 4 (.mv (.k (.i .i64 0)))])
 (.blk 0
 (.loop
 (.seq (.seq (.reg [qm 7 4,
 qm 8 0,
 qr 9 (.len (.t 8)),
 qr 10 (.bin .lss (.t 7) (.t 9))])
 (.cond (.t 10)
 (.skip)
 (.exit 0)))
 (.seq (.blk 1
 (.seq (.reg [qm 13 0,
 qm 14 4,
 qr 15 (.idx 1 (.t 13) (.t 14)),
 qr 16 (.ld false 1 (.t 15)),
 qm 5 16])
 (.seq (.reg [qr 6 (.mv (.k (.i .i64 0)))])
 (.blk 2
 (.loop
 (.seq (.seq (.reg [qm 17 6,
 qr 18 (.bin .lss (.t 17) (.k (.i .i64 8)))])
 (.cond (.t 18)
 (.skip)
 (.exit 2)))
 (.seq (.blk 3
 (.seq (.reg [qm 21 3,
 qm 22 5,
 qr 23 (.bin .rem (.t 22) (.k (.i .u64 256))),
 qr 24 (.cvt .i64 (.t 23)),
 qr 25 (.bsl 3 1 1 [(.i .i64 0)] [(0, (.t 24))]),
 qr 26 (.app 3 1 8 (.t 21) (.t 25)),
 qm 3 26])
 (.reg [qm 27 5,
 qr 28 (.bin .quo (.t 27) (.k (.i .u64 256))),
 qm 5 28])))
 (.reg [qm 19 6,
 qr 20 (.bin .add (.t 19) (.k (.i .i64 1))),
 qm 6 20]))))))))
 (.reg [qm 11 4,
 qr 12 (.bin .add (.t 11) (.k (.i .i64 1))),
 qm 4 12]))))))
 (.seq (.reg [qm 29 3,
 qr 30 (.call 26 [(1, (.t 29))]),
 qm 2 30])
 (.ret))))
theorem digits_spec (a : List Nat) (ha : Wd a) (la : a.length ≤ 100000000000) : AFun Try.prog J0 16 [.l 1 (W a)] (.l 1 (D (dg 256 (nv B a)))) := by
  refine mkQ fol J0s Try.func16 a16 ?_
  unfold a16
  simp only [init_eq, initE, qm, qr, qn]
  refine spQ @bz_Ref1 ?_
  refine vm_loopM [(3, 3, 1)] Nat (fun i => ⟨[(0, .l 1 (W a)), (3, .ow 1 0 (8 * i)), (4, .i .i64 (i : Int))], [(0, some ⟨3, 1, D (fl 256 (8 * i) (nv B (a.take i))), true, false⟩)], 1⟩)
    (fun i => i ≤ a.length) (fun i => a.length - i) 0 [(0, 3)] (Nat.zero_le _) (by exact leQ) (by
    simp (disch := (first | omega | assumption)) only [Sl, Sa, Sw, ↓reduceIte, Nat.reduceEqDiff, Nat.reduceLT, List.all_nil, List.all_cons, Nat.reduceBneDiff, Nat.reduceAdd, bne_iff_ne, ne_eq, reduceCtorEq, not_false_eq_true, not_true_eq_false, Bool.and_true, Bool.true_and, and_true, true_and, and_self, i_eq]
    exact ⟨rfl, rfl⟩) ?_
  intro i hi Q' hQ he hr
  by_cases h : (i : Int) < a.length
  · refine spQ (ai @W_get (ai @h @bz_Ref1)) ?_
    refine vm_loop Nat (fun k => ⟨[(0, .l 1 (W a)), (3, .ow 1 0 (8 * i + k)), (4, .i .i64 (i : Int)), (5, .i .u64 ((a.getD i 0 / 256 ^ k : Nat) : Int)), (6, .i .i64 (k : Int))], [(0, some ⟨3, 1, D (fl 256 (8 * i) (nv B (a.take i)) ++ fl 256 k (a.getD i 0)), true, false⟩)], 1⟩)
      (fun k => k ≤ 8) (fun k => 8 - k) 0 [] (Nat.zero_le _) (by
      simp (disch := (first | omega | assumption)) only [Sl, Sa, Sw, ↓reduceIte, Nat.reduceEqDiff, Nat.reduceLT, List.all_nil, List.all_cons, Nat.reduceBneDiff, Nat.reduceAdd, bne_iff_ne, ne_eq, reduceCtorEq, not_false_eq_true, not_true_eq_false, Bool.and_true, Bool.true_and, and_true, true_and, and_self, i_eq]
      exact ⟨⟨rfl, by simp, rfl⟩, by simp [fl]⟩) ?_
    intro k hk Q'' hQ' he' hr'
    by_cases h1 : (k : Int) < 8
    · have hq : a.getD i 0 / 256 ^ k < 18446744073709551616 := Nat.lt_of_le_of_lt (Nat.div_le_self _ _) (Wd_get ha i)
      have hw : IntKind.u64.wrap ((a.getD i 0 / 256 ^ k / 256 : Nat) : Int) = ((a.getD i 0 / 256 ^ k / 256 : Nat) : Int) := by
        generalize a.getD i 0 / 256 ^ k = q at hq ⊢
        exact wu (by omega)
      refine spQ (ai @D_cat1 (ai @hw (ai @wi (ai @tdiv_256 (ai @tmod_256 (ai @h1 @bz_Ref1)))))) ?_
      refine hQ' _ (k + 1) [(0, 8)] (by omega) (by omega) ?_
      simp (disch := (first | omega | assumption)) only [Sl, Sa, Sw, ↓reduceIte, Nat.reduceEqDiff, Nat.reduceLT, List.all_nil, List.all_cons, Nat.reduceBneDiff, Nat.reduceAdd, bne_iff_ne, ne_eq, reduceCtorEq, not_false_eq_true, not_true_eq_false, Bool.and_true, Bool.true_and, and_true, true_and, and_self, i_eq]
      exact ⟨⟨by omega, by rw [Nat.div_div_eq_div_mul, ← Nat.pow_succ], rfl⟩, by rw [fl_succ, List.append_assoc]⟩
    · obtain rfl : k = 8 := by omega
      refine spQ (ai @h1 @bz_Ref1) ?_
      refine he' _ _ ?_
      refine spQ (ai @wi @bz_Ref1) ?_
      refine hQ _ (i + 1) [] (by omega) (by omega) ?_
      simp (disch := (first | omega | assumption)) only [Sl, Sa, Sw, ↓reduceIte, Nat.reduceEqDiff, Nat.reduceLT, List.all_nil, List.all_cons, Nat.reduceBneDiff, Nat.reduceAdd, bne_iff_ne, ne_eq, reduceCtorEq, not_false_eq_true, not_true_eq_false, Bool.and_true, Bool.true_and, and_true, true_and, and_self, i_eq]
      refine ⟨⟨by omega, rfl⟩, ?_⟩
      rw [show 8 * (i + 1) = 8 * i + 8 from by omega, fl_add, nv_take_succ', B_256]
      have hlt := nv_take_lt (b := B) (by decide) ha i
      rw [B_256] at hlt
      rw [Nat.add_mul_div_left _ _ (Nat.pow_pos (by decide)), Nat.div_eq_of_lt hlt, Nat.zero_add, fl_congr (b := 256) (by decide) (n := 8 * i) (v := nv B (a.take i) + 256 ^ (8 * i) * a.getD i 0) (u := nv B (a.take i)) (by rw [Nat.add_mul_mod_self_left])]
  · obtain rfl : i = a.length := by omega
    refine spQ (ai @h @bz_Ref1) ?_
    refine he _ _ ?_
    refine spQ @bz_Ref1 ?_
    try simp only [Sv, ↓reduceIte, Nat.reduceEqDiff]
    refine vm_reg (fun K hK => ?_)
    refine smQ @bz_Ref1 ?_
    refine clp_mk _ _ ?_ ?_ ?_ (cut0_spec (fl 256 (8 * a.length) (nv B (a.take a.length))) (by rw [fl_len]; omega)) ?_
    · simp (disch := (first | omega | assumption)) only [S1, ↓reduceIte, Nat.reduceEqDiff, Nat.reduceAdd, Nat.reduceMul, Nat.reduceDiv, AOp.sb, AOp.mut, frzf, ↓Bool.false_eq_true, beq_self_eq_true, ite_self, Nat.reduceLeDiff, Int.reduceEq, Int.reduceSub, Int.reduceAdd, Int.reduceNeg, Int.reduceLT, Int.reduceLE, Nat.reduceLT, bz_Ref1]
    · simp (disch := (first | omega | assumption)) only [S1, ↓reduceIte, Nat.reduceEqDiff, Nat.reduceAdd, Nat.reduceMul, Nat.reduceDiv, AOp.sb, AOp.mut, frzf, ↓Bool.false_eq_true, beq_self_eq_true, ite_self, Nat.reduceLeDiff, Int.reduceEq, Int.reduceSub, Int.reduceAdd, Int.reduceNeg, Int.reduceLT, Int.reduceLE, Nat.reduceLT, bz_Ref1]
    · first | rfl | (simp (disch := (first | omega | assumption)) only [S1, ↓reduceIte, Nat.reduceEqDiff, Nat.reduceAdd, Nat.reduceMul, Nat.reduceDiv, AOp.sb, AOp.mut, frzf, ↓Bool.false_eq_true, beq_self_eq_true, ite_self, Nat.reduceLeDiff, Int.reduceEq, Int.reduceSub, Int.reduceAdd, Int.reduceNeg, Int.reduceLT, Int.reduceLE, Nat.reduceLT, bz_Ref1])
    refine smQ @bz_Ref1 ?_
    refine hK _ ?_
    clear hK K
    try (refine hK _ ?_; clear hK K)
    refine spQ @bz_Ref1 ?_
    have e : tz (fl 256 (8 * a.length) (nv B (a.take a.length))) = dg 256 (nv B a) := by
      rw [List.take_length]
      exact dg_fl (by decide) (by rw [← B_256]; exact nv_lt ha)
    exact rtQ (ai @e @bz_Ref1)
def a25 : AC := .seq (.reg [qr 4 (.mv (.k (.i .i64 0)))])
 (.seq (.seq (.reg [qm 5 1,
 qm 6 0,
 qr 7 (.len (.t 6)),
 qr 8 (.bin .lss (.t 5) (.t 7))])
 (.cond (.t 8)
 (.seq (.reg [qm 9 0,
 qm 10 1,
 qr 11 (.idx 1 (.t 9) (.t 10)),
 qr 12 (.ld false 1 (.t 11)),
 qm 4 12])
 (.ret))
 (.skip)))
 (.seq (.reg [qr 4 (.mv (.k (.i .i64 0)))])
 (.ret)))
theorem dat_spec (a : List Nat) (i : Nat) : AFun Try.prog J0 25 [.l 1 (D a), .i .i64 i] (.i .i64 ((a.getD i 0 : Nat) : Int)) := by
  refine mkQ fol J0s Try.func25 a25 ?_
  unfold a25
  simp only [init_eq, initE, qm, qr, qn]
  by_cases h : (i : Int) < a.length
  · refine spQ (ai @D_get (ai @h @bz_Ref1)) ?_
    exact rtQ @bz_Ref1
  · refine spQ (ai @h @bz_Ref1) ?_
    refine rtO (ai @i_eq @bz_Ref1) ?_
    rw [List.getD_eq_getElem?_getD, List.getElem?_eq_none (by omega)]; rfl
def a27 : AC := .seq (.reg [qr 4 (.mv (.k (.i .i64 0)))])
 (.seq (.seq (.reg [qm 6 0,
 qr 7 (.len (.t 6)),
 qm 8 1,
 qr 9 (.len (.t 8)),
 qr 10 (.mm true (.t 7) (.t 9)),
 qr 11 (.bin .sub (.t 10) (.k (.i .i64 1))),
 qm 5 11])
 (.blk 0
 (.loop
 (.seq (.seq (.reg [qm 12 5,
 qr 13 (.bin .geq (.t 12) (.k (.i .i64 0)))])
 (.cond (.t 13)
 (.skip)
 (.exit 0)))
 (.seq (.blk 1
 (.seq (.reg [qm 16 0,
 qm 17 5,
 qr 18 (.call 25 [(1, (.t 16)), (1, (.t 17))]),
 qm 19 1,
 qm 20 5,
 qr 21 (.call 25 [(1, (.t 19)), (1, (.t 20))]),
 qr 22 (.bin .neq (.t 18) (.t 21))])
 (.cond (.t 22)
 (.seq (.seq (.reg [qm 23 0,
 qm 24 5,
 qr 25 (.call 25 [(1, (.t 23)), (1, (.t 24))]),
 qm 26 1,
 qm 27 5,
 qr 28 (.call 25 [(1, (.t 26)), (1, (.t 27))]),
 qr 29 (.bin .lss (.t 25) (.t 28))])
 (.cond (.t 29)
 (.seq (.reg [qr 4 (.mv (.k (.i .i64 (-1))))])
 (.ret))
 (.skip)))
 (.seq (.reg [qr 4 (.mv (.k (.i .i64 1)))])
 (.ret)))
 (.skip))))
 (.reg [qm 14 5,
 qr 15 (.bin .sub (.t 14) (.k (.i .i64 1))),
 qm 5 15]))))))
 (.seq (.reg [qr 4 (.mv (.k (.i .i64 0)))])
 (.ret)))
theorem dcmp_spec (a b : List Nat) (ha : Lt 256 a) (hb : Lt 256 b) (la : a.length ≤ 1099511627776) (lb : b.length ≤ 1099511627776) :
    AFun Try.prog J0 27 [.l 1 (D a), .l 1 (D b)] (.i .i64 (sg (nv 256 a) (nv 256 b))) := by
  refine mkQ fol J0s Try.func27 a27 ?_
  unfold a27
  simp only [init_eq, initE, qm, qr, qn]
  generalize hm : max a.length b.length = m
  refine spQ (ai @wi (ai @hm (ai @mx @bz_Ref1))) ?_
  refine vm_loop Nat (fun i => ⟨[(0, .l 1 (D a)), (1, .l 1 (D b)), (5, .i .i64 ((i : Int) - 1))], [], 0⟩)
    (fun i => i ≤ m ∧ ∀ j, i ≤ j → a.getD j 0 = b.getD j 0) (fun i => i) m [] ⟨Nat.le_refl _, fun j hj => by rw [List.getD_eq_getElem?_getD, List.getD_eq_getElem?_getD, List.getElem?_eq_none (by omega), List.getElem?_eq_none (by omega)]⟩ (by exact leQ) ?_
  intro i ⟨hi, hj⟩ Q' hQ he hr
  by_cases h : (0 : Int) ≤ (i : Int) - 1
  · obtain ⟨n, rfl⟩ : ∃ n, i = n + 1 := ⟨i - 1, by omega⟩
    have e : ((n + 1 : Nat) : Int) - 1 = (n : Int) := by omega
    have h : (0 : Int) ≤ (n : Int) := by omega
    simp only [e]
    refine spQ (ai @h @bz_Ref1) ?_
    try simp only [Sv, ↓reduceIte, Nat.reduceEqDiff]
    refine vm_reg (fun K hK => ?_)
    refine smQ @bz_Ref1 ?_
    refine clp_mk _ _ ?_ ?_ ?_ (dat_spec a n) ?_
    · simp (disch := (first | omega | assumption)) only [S1, ↓reduceIte, Nat.reduceEqDiff, Nat.reduceAdd, Nat.reduceMul, Nat.reduceDiv, AOp.sb, AOp.mut, frzf, ↓Bool.false_eq_true, beq_self_eq_true, ite_self, Nat.reduceLeDiff, Int.reduceEq, Int.reduceSub, Int.reduceAdd, Int.reduceNeg, Int.reduceLT, Int.reduceLE, Nat.reduceLT, bz_Ref1]
    · simp (disch := (first | omega | assumption)) only [S1, ↓reduceIte, Nat.reduceEqDiff, Nat.reduceAdd, Nat.reduceMul, Nat.reduceDiv, AOp.sb, AOp.mut, frzf, ↓Bool.false_eq_true, beq_self_eq_true, ite_self, Nat.reduceLeDiff, Int.reduceEq, Int.reduceSub, Int.reduceAdd, Int.reduceNeg, Int.reduceLT, Int.reduceLE, Nat.reduceLT, bz_Ref1]
    · first | rfl | (simp (disch := (first | omega | assumption)) only [S1, ↓reduceIte, Nat.reduceEqDiff, Nat.reduceAdd, Nat.reduceMul, Nat.reduceDiv, AOp.sb, AOp.mut, frzf, ↓Bool.false_eq_true, beq_self_eq_true, ite_self, Nat.reduceLeDiff, Int.reduceEq, Int.reduceSub, Int.reduceAdd, Int.reduceNeg, Int.reduceLT, Int.reduceLE, Nat.reduceLT, bz_Ref1])
    refine smQ @bz_Ref1 ?_
    refine clp_mk _ _ ?_ ?_ ?_ (dat_spec b n) ?_
    · simp (disch := (first | omega | assumption)) only [S1, ↓reduceIte, Nat.reduceEqDiff, Nat.reduceAdd, Nat.reduceMul, Nat.reduceDiv, AOp.sb, AOp.mut, frzf, ↓Bool.false_eq_true, beq_self_eq_true, ite_self, Nat.reduceLeDiff, Int.reduceEq, Int.reduceSub, Int.reduceAdd, Int.reduceNeg, Int.reduceLT, Int.reduceLE, Nat.reduceLT, bz_Ref1]
    · simp (disch := (first | omega | assumption)) only [S1, ↓reduceIte, Nat.reduceEqDiff, Nat.reduceAdd, Nat.reduceMul, Nat.reduceDiv, AOp.sb, AOp.mut, frzf, ↓Bool.false_eq_true, beq_self_eq_true, ite_self, Nat.reduceLeDiff, Int.reduceEq, Int.reduceSub, Int.reduceAdd, Int.reduceNeg, Int.reduceLT, Int.reduceLE, Nat.reduceLT, bz_Ref1]
    · first | rfl | (simp (disch := (first | omega | assumption)) only [S1, ↓reduceIte, Nat.reduceEqDiff, Nat.reduceAdd, Nat.reduceMul, Nat.reduceDiv, AOp.sb, AOp.mut, frzf, ↓Bool.false_eq_true, beq_self_eq_true, ite_self, Nat.reduceLeDiff, Int.reduceEq, Int.reduceSub, Int.reduceAdd, Int.reduceNeg, Int.reduceLT, Int.reduceLE, Nat.reduceLT, bz_Ref1])
    by_cases h1 : ((a.getD n 0 : Nat) : Int) = ((b.getD n 0 : Nat) : Int)
    · have hj' : ∀ j, n ≤ j → a.getD j 0 = b.getD j 0 := fun j h3 => by
        rcases Nat.lt_or_ge n j with h4 | h4
        · exact hj j h4
        · obtain rfl : j = n := by omega
          omega
      refine smQ (ai @h1 @bz_Ref1) ?_
      refine hK _ ?_
      clear hK K
      try (refine hK _ ?_; clear hK K)
      refine spQ (ai @wi @bz_Ref1) ?_
      exact hQ _ n [] ⟨by omega, hj'⟩ (by omega) (by exact leQ)
    · have c1 := (nv_eq_of (B := 256) (n + 1) hj).1
      have c2 := (nv_eq_of (B := 256) (n + 1) hj).2
      refine smQ (ai @h1 @bz_Ref1) ?_
      refine hK _ ?_
      clear hK K
      try (refine hK _ ?_; clear hK K)
      refine spQ @bz_Ref1 ?_
      try simp only [Sv, ↓reduceIte, Nat.reduceEqDiff]
      refine vm_reg (fun K hK => ?_)
      refine smQ @bz_Ref1 ?_
      refine clp_mk _ _ ?_ ?_ ?_ (dat_spec a n) ?_
      · simp (disch := (first | omega | assumption)) only [S1, ↓reduceIte, Nat.reduceEqDiff, Nat.reduceAdd, Nat.reduceMul, Nat.reduceDiv, AOp.sb, AOp.mut, frzf, ↓Bool.false_eq_true, beq_self_eq_true, ite_self, Nat.reduceLeDiff, Int.reduceEq, Int.reduceSub, Int.reduceAdd, Int.reduceNeg, Int.reduceLT, Int.reduceLE, Nat.reduceLT, bz_Ref1]
      · simp (disch := (first | omega | assumption)) only [S1, ↓reduceIte, Nat.reduceEqDiff, Nat.reduceAdd, Nat.reduceMul, Nat.reduceDiv, AOp.sb, AOp.mut, frzf, ↓Bool.false_eq_true, beq_self_eq_true, ite_self, Nat.reduceLeDiff, Int.reduceEq, Int.reduceSub, Int.reduceAdd, Int.reduceNeg, Int.reduceLT, Int.reduceLE, Nat.reduceLT, bz_Ref1]
      · first | rfl | (simp (disch := (first | omega | assumption)) only [S1, ↓reduceIte, Nat.reduceEqDiff, Nat.reduceAdd, Nat.reduceMul, Nat.reduceDiv, AOp.sb, AOp.mut, frzf, ↓Bool.false_eq_true, beq_self_eq_true, ite_self, Nat.reduceLeDiff, Int.reduceEq, Int.reduceSub, Int.reduceAdd, Int.reduceNeg, Int.reduceLT, Int.reduceLE, Nat.reduceLT, bz_Ref1])
      refine smQ @bz_Ref1 ?_
      refine clp_mk _ _ ?_ ?_ ?_ (dat_spec b n) ?_
      · simp (disch := (first | omega | assumption)) only [S1, ↓reduceIte, Nat.reduceEqDiff, Nat.reduceAdd, Nat.reduceMul, Nat.reduceDiv, AOp.sb, AOp.mut, frzf, ↓Bool.false_eq_true, beq_self_eq_true, ite_self, Nat.reduceLeDiff, Int.reduceEq, Int.reduceSub, Int.reduceAdd, Int.reduceNeg, Int.reduceLT, Int.reduceLE, Nat.reduceLT, bz_Ref1]
      · simp (disch := (first | omega | assumption)) only [S1, ↓reduceIte, Nat.reduceEqDiff, Nat.reduceAdd, Nat.reduceMul, Nat.reduceDiv, AOp.sb, AOp.mut, frzf, ↓Bool.false_eq_true, beq_self_eq_true, ite_self, Nat.reduceLeDiff, Int.reduceEq, Int.reduceSub, Int.reduceAdd, Int.reduceNeg, Int.reduceLT, Int.reduceLE, Nat.reduceLT, bz_Ref1]
      · first | rfl | (simp (disch := (first | omega | assumption)) only [S1, ↓reduceIte, Nat.reduceEqDiff, Nat.reduceAdd, Nat.reduceMul, Nat.reduceDiv, AOp.sb, AOp.mut, frzf, ↓Bool.false_eq_true, beq_self_eq_true, ite_self, Nat.reduceLeDiff, Int.reduceEq, Int.reduceSub, Int.reduceAdd, Int.reduceNeg, Int.reduceLT, Int.reduceLE, Nat.reduceLT, bz_Ref1])
      refine smQ @bz_Ref1 ?_
      refine hK _ ?_
      clear hK K
      by_cases h2 : ((a.getD n 0 : Nat) : Int) < ((b.getD n 0 : Nat) : Int)
      · simp only [h2, decide_true, decide_false]
        try (refine hK _ ?_; clear hK K)
        refine spQ @bz_Ref1 ?_
        refine hr _ ?_
        have c3 := cmp_lt (b := 256) (by decide) ha hb n (by omega)
        have c4 : nv 256 a < nv 256 b := c1.1 c3
        refine rtO (ai @i_eq @bz_Ref1) ?_
        simp [sg, c4]
      · simp only [h2, decide_true, decide_false]
        try (refine hK _ ?_; clear hK K)
        refine spQ @bz_Ref1 ?_
        refine hr _ ?_
        have c3 := cmp_lt (b := 256) (by decide) hb ha n (by omega)
        have c4 : ¬ nv 256 a < nv 256 b := fun h => by have := c1.2 h; omega
        have c5 : ¬ nv 256 a = nv 256 b := fun h => by have := c2.2 h; omega
        refine rtO (ai @i_eq @bz_Ref1) ?_
        simp [sg, c4, c5]
  · obtain rfl : i = 0 := by omega
    try (refine hK _ ?_; clear hK K)
    refine spQ (ai @h @bz_Ref1) ?_
    refine he _ _ ?_
    try (refine hK _ ?_; clear hK K)
    refine spQ @bz_Ref1 ?_
    have c2 := (nv_eq_of (B := 256) 0 hj).2.1 rfl
    refine rtO (ai @i_eq @bz_Ref1) ?_
    simp [sg, c2]
end Go.Proofs.Ytkmjbgpkndpkdaa
namespace Go.Proofs.Ytkmjbgpkndpkdaa
open Go Go.RowKit Ab
set_option linter.unusedSimpArgs false
set_option linter.unusedVariables false
set_option maxHeartbeats 10000000
theorem bz_Ref2 : type_of% (And.intro @W_len (And.intro @D_len (And.intro @Nat.div_one (And.intro @Nat.mul_one (And.intro @tn_nat (And.intro @W_nf (And.intro @D_nf (And.intro @W_nil (@D_nil))))))))) := And.intro @W_len (And.intro @D_len (And.intro @Nat.div_one (And.intro @Nat.mul_one (And.intro @tn_nat (And.intro @W_nf (And.intro @D_nf (And.intro @W_nil (@D_nil))))))))
theorem B0c : (0 : Int) = ((0 : Nat) : Int) := rfl
def a17 : AC := .seq (.reg [qr 2 (.mv (.k .nl))])
 (.seq (.reg [qm 7 0,
 qr 8 (.call 26 [(1, (.t 7))]),
 qm 0 8])
 (.seq (.reg [qr 3 (.mv (.k .nl))])
 (.seq (.seq (.reg [qr 4 (.mv (.k (.i .i64 0)))])
 (.blk 0
 (.loop
 (.seq (.seq (.reg [qm 9 4,
 qm 10 0,
 qr 11 (.len (.t 10)),
 qr 12 (.bin .lss (.t 9) (.t 11))])
 (.cond (.t 12)
 (.skip)
 (.exit 0)))
 (.seq (.blk 1
 (.seq (.reg [qr 5 (.mv (.k (.i .u64 0)))])
 (.seq (.seq (.reg [qr 6 (.mv (.k (.i .i64 7)))])
 (.blk 2
 (.loop
 (.seq (.seq (.reg [qm 15 6,
 qr 16 (.bin .geq (.t 15) (.k (.i .i64 0)))])
 (.cond (.t 16)
 (.skip)
 (.exit 2)))
 (.seq (.blk 3
 (.seq (.reg [qm 19 5,
 qr 20 (.bin .mul (.t 19) (.k (.i .u64 256))),
 qm 5 20])
 (.seq (.reg [qm 21 4,
 qm 22 6,
 qr 23 (.bin .add (.t 21) (.t 22)),
 qm 24 0,
 qr 25 (.len (.t 24)),
 qr 26 (.bin .lss (.t 23) (.t 25))])
 (.cond (.t 26)
 (.reg [qm 27 5,
 qm 28 0,
 qm 29 4,
 qm 30 6,
 qr 31 (.bin .add (.t 29) (.t 30)),
 qr 32 (.idx 1 (.t 28) (.t 31)),
 qr 33 (.ld false 1 (.t 32)),
 qr 34 (.cvt .u64 (.t 33)),
 qr 35 (.bin .add (.t 27) (.t 34)),
 qm 5 35])
 (.skip)))))
 (.reg [qm 17 6,
 qr 18 (.bin .sub (.t 17) (.k (.i .i64 1))),
 qm 6 18]))))))
 (.reg [qm 36 3,
 qm 37 5,
 qr 38 (.bsl 34 1 1 [(.i .u64 0)] [(0, (.t 37))]),
 qr 39 (.app 34 1 8 (.t 36) (.t 38)),
 qm 3 39]))))
 (.reg [qm 13 4,
 qr 14 (.bin .add (.t 13) (.k (.i .i64 8))),
 qm 4 14]))))))
 (.seq (.reg [qm 40 3,
 qm 2 40])
 (.ret)))))
theorem of_spec (d : List Nat) (hd : Lt 256 d) (ld : d.length ≤ 1099511627776) : AFun Try.prog J0 17 [.l 1 (D d)] (.o 34 1 (W (dg B (nv 256 d)))) := by
  refine mkQ fol J0s Try.func17 a17 ?_
  unfold a17
  simp only [init_eq, initE, qm, qr, qn]
  obtain ⟨t, ht⟩ : ∃ t, t = tz d := ⟨_, rfl⟩
  have lt : t.length ≤ 1099511627776 := by rw [ht]; exact Nat.le_trans (tz_len d) ld
  have hl : Lt 256 t := by rw [ht]; exact Lt_tz hd
  refine spQ @bz_Ref2 ?_
  try simp only [Sv, ↓reduceIte, Nat.reduceEqDiff]
  refine vm_reg (fun K hK => ?_)
  refine smQ @bz_Ref2 ?_
  refine clp_mk _ _ ?_ ?_ ?_ (cut0_spec d (by omega)) ?_
  · simp (disch := (first | omega | assumption)) only [S1, ↓reduceIte, Nat.reduceEqDiff, Nat.reduceAdd, Nat.reduceMul, Nat.reduceDiv, AOp.sb, AOp.mut, frzf, ↓Bool.false_eq_true, beq_self_eq_true, ite_self, Nat.reduceLeDiff, Int.reduceEq, Int.reduceSub, Int.reduceAdd, Int.reduceNeg, Int.reduceLT, Int.reduceLE, Nat.reduceLT, bz_Ref2]
  · simp (disch := (first | omega | assumption)) only [S1, ↓reduceIte, Nat.reduceEqDiff, Nat.reduceAdd, Nat.reduceMul, Nat.reduceDiv, AOp.sb, AOp.mut, frzf, ↓Bool.false_eq_true, beq_self_eq_true, ite_self, Nat.reduceLeDiff, Int.reduceEq, Int.reduceSub, Int.reduceAdd, Int.reduceNeg, Int.reduceLT, Int.reduceLE, Nat.reduceLT, bz_Ref2]
  · first | rfl | (simp (disch := (first | omega | assumption)) only [S1, ↓reduceIte, Nat.reduceEqDiff, Nat.reduceAdd, Nat.reduceMul, Nat.reduceDiv, AOp.sb, AOp.mut, frzf, ↓Bool.false_eq_true, beq_self_eq_true, ite_self, Nat.reduceLeDiff, Int.reduceEq, Int.reduceSub, Int.reduceAdd, Int.reduceNeg, Int.reduceLT, Int.reduceLE, Nat.reduceLT, bz_Ref2])
  simp only [← ht]
  refine smQ @bz_Ref2 ?_
  refine hK _ ?_
  clear hK K
  obtain ⟨v, hv⟩ : ∃ v, v = nv 256 t := ⟨_, rfl⟩
  try (refine hK _ ?_; clear hK K)
  refine spQ @bz_Ref2 ?_
  refine vm_loopM [(3, 34, 1)] Nat (fun i => ⟨[(0, .l 1 (D t)), (3, .ow 1 0 i), (4, .i .i64 ((8 * i : Nat) : Int))], [(0, some ⟨34, 1, W (fl B i v), true, false⟩)], 1⟩)
    (fun i => 8 * i < t.length + 8) (fun i => t.length + 8 - 8 * i) 0 [(0, 6)] (by omega) (by exact leQ) (by
    simp (disch := (first | omega | assumption)) only [Sl, Sa, Sw, ↓reduceIte, Nat.reduceEqDiff, Nat.reduceLT, List.all_nil, List.all_cons, Nat.reduceBneDiff, Nat.reduceAdd, bne_iff_ne, ne_eq, reduceCtorEq, not_false_eq_true, not_true_eq_false, Bool.and_true, Bool.true_and, and_true, true_and, and_self, i_eq]
    exact ⟨rfl, rfl⟩) ?_
  intro i hi Q' hQ he hr
  by_cases h : ((8 * i : Nat) : Int) < t.length
  · obtain ⟨w, hw⟩ : ∃ w, w = v / B ^ i % B := ⟨_, rfl⟩
    have hwl : w < 18446744073709551616 := by rw [hw]; exact Nat.mod_lt _ B0
    try (refine hK _ ?_; clear hK K)
    refine spQ (ai @h @bz_Ref2) ?_
    refine vm_loop Nat (fun k => ⟨[(0, .l 1 (D t)), (3, .ow 1 0 i), (4, .i .i64 ((8 * i : Nat) : Int)), (5, .i .u64 ((w / 256 ^ k : Nat) : Int)), (6, .i .i64 ((k : Int) - 1))], [(0, some ⟨34, 1, W (fl B i v), true, false⟩)], 1⟩)
      (fun k => k ≤ 8) (fun k => k) 8 [] (by omega) (by
      simp (disch := (first | omega | assumption)) only [Sl, Sa, Sw, ↓reduceIte, Nat.reduceEqDiff, Nat.reduceLT, List.all_nil, List.all_cons, Nat.reduceBneDiff, Nat.reduceAdd, bne_iff_ne, ne_eq, reduceCtorEq, not_false_eq_true, not_true_eq_false, Bool.and_true, Bool.true_and, and_true, true_and, and_self, i_eq]
      exact ⟨by rw [Nat.div_eq_of_lt hwl]; rfl, rfl⟩) ?_
    intro k hk Q'' hQ' he' hr'
    by_cases h1 : (0 : Int) ≤ (k : Int) - 1
    · obtain ⟨n, rfl⟩ : ∃ n, k = n + 1 := ⟨k - 1, by omega⟩
      have e : ((n + 1 : Nat) : Int) - 1 = (n : Int) := by omega
      have h1 : (0 : Int) ≤ (n : Int) := by omega
      have dig : t.getD (8 * i + n) 0 = w / 256 ^ n % 256 := by
        rw [nv_digit (b := 256) (by decide) hl, hw, ← hv, Nat.pow_add, ← Nat.div_div_eq_div_mul, ← B_256]
        rw [show B = 256 ^ n * 256 ^ (8 - n) from by rw [← Nat.pow_add, show n + (8 - n) = 8 from by omega]; rfl, Nat.mod_mul_right_div_self]
        rw [show 256 ^ (8 - n) = 256 * 256 ^ (7 - n) from by rw [Nat.mul_comm, ← Nat.pow_succ]; congr 1; omega, Nat.mod_mul_right_mod]
      have hx : w / 256 ^ n < 18446744073709551616 := Nat.lt_of_le_of_lt (Nat.div_le_self _ _) hwl
      obtain ⟨x, hx0⟩ : ∃ x, x = w / 256 ^ n := ⟨_, rfl⟩
      rw [Nat.pow_succ, ← Nat.div_div_eq_div_mul, ← hx0]
      rw [← hx0] at dig hx
      simp only [e]
      by_cases h2 : ((8 * i : Nat) : Int) + (n : Int) < t.length
      · have tn : (((8 * i : Nat) : Int) + (n : Int)).toNat = 8 * i + n := by omega
        try (refine hK _ ?_; clear hK K)
        refine spQ (ai @wu (ai @D_get (ai @wi (ai @h2 (ai @h1 @bz_Ref2))))) ?_
        refine hQ' _ n [] (by omega) (by omega) ?_
        rw [tn, dig, wu (n := ((x % 256 : Nat) : Int)) (by omega), wu (by omega)]
        simp (disch := (first | omega | assumption)) only [Sl, Sa, Sw, ↓reduceIte, Nat.reduceEqDiff, Nat.reduceLT, List.all_nil, List.all_cons, Nat.reduceBneDiff, Nat.reduceAdd, bne_iff_ne, ne_eq, reduceCtorEq, not_false_eq_true, not_true_eq_false, Bool.and_true, Bool.true_and, and_true, true_and, and_self, i_eq]
        rw [← hx0]; omega
      · rw [List.getD_eq_getElem?_getD, List.getElem?_eq_none (by omega)] at dig
        try (refine hK _ ?_; clear hK K)
        refine spQ (ai @wu (ai @wi (ai @h2 (ai @h1 @bz_Ref2)))) ?_
        refine hQ' _ n [] (by omega) (by omega) ?_
        simp (disch := (first | omega | assumption)) only [Sl, Sa, Sw, ↓reduceIte, Nat.reduceEqDiff, Nat.reduceLT, List.all_nil, List.all_cons, Nat.reduceBneDiff, Nat.reduceAdd, bne_iff_ne, ne_eq, reduceCtorEq, not_false_eq_true, not_true_eq_false, Bool.and_true, Bool.true_and, and_true, true_and, and_self, i_eq]
        rw [← hx0]; simp at dig; omega
    · obtain rfl : k = 0 := by omega
      try (refine hK _ ?_; clear hK K)
      refine spQ (ai @h1 @bz_Ref2) ?_
      refine he' _ _ ?_
      try (refine hK _ ?_; clear hK K)
      refine spQ (ai @W_app1 (ai @wi @bz_Ref2)) ?_
      refine hQ _ (i + 1) [(0, 6)] (by omega) (by omega) ?_
      simp (disch := (first | omega | assumption)) only [Sl, Sa, Sw, ↓reduceIte, Nat.reduceEqDiff, Nat.reduceLT, List.all_nil, List.all_cons, Nat.reduceBneDiff, Nat.reduceAdd, bne_iff_ne, ne_eq, reduceCtorEq, not_false_eq_true, not_true_eq_false, Bool.and_true, Bool.true_and, and_true, true_and, and_self, i_eq]
      exact ⟨by omega, by rw [fl_succ, ← hw]; try simp⟩
  · try (refine hK _ ?_; clear hK K)
    refine spQ (ai @h @bz_Ref2) ?_
    refine he _ _ ?_
    try (refine hK _ ?_; clear hK K)
    refine spQ @bz_Ref2 ?_
    have e : fl B i v = dg B (nv 256 d) := by
      have e0 : nv 256 d = v := by rw [hv, ht, nv_tz]
      have h1 := nv_lt hl
      have h2 : 256 ^ t.length ≤ 256 ^ (8 * i) := Nat.pow_le_pow_right (by decide) (by omega)
      rw [e0]
      refine fl_full B2 ?_ (by rw [B_256, hv]; omega)
      rcases Nat.eq_zero_or_pos i with h0 | h0
      · exact .inl h0
      · refine .inr ?_
        have h3 : t ≠ [] := fun h4 => by rw [h4] at hi; simp at hi; omega
        have h4 := nv_top (b := 256) (by rw [ht, tz_tz] : tz t = t) h3
        rw [B_256, hv]
        exact Nat.le_trans (Nat.pow_le_pow_right (by decide) (by omega)) h4
    exact rtQ (ai @e @bz_Ref2)
end Go.Proofs.Ytkmjbgpkndpkdaa
namespace Go.Proofs.Ytkmjbgpkndpkdaa
open Go Go.RowKit Ab
set_option linter.unusedSimpArgs false
set_option linter.unusedVariables false
set_option maxHeartbeats 10000000
theorem bz_Ref3 : type_of% (And.intro @W_len (And.intro @D_len (And.intro @Nat.div_one (And.intro @Nat.mul_one (And.intro @tn_nat (And.intro @W_nf (And.intro @D_nf (And.intro @W_nil (@D_nil))))))))) := And.intro @W_len (And.intro @D_len (And.intro @Nat.div_one (And.intro @Nat.mul_one (And.intro @tn_nat (And.intro @W_nf (And.intro @D_nf (And.intro @W_nil (@D_nil))))))))
def a15 : AC := .seq (.reg [qr 4 (.mv (.k .nl))])
 (.seq (.reg [qr 5 (.mv (.k .nl))])
 (.seq (.reg [qr 6 (.mv (.k (.i .i64 0)))])
 (.seq (.seq (.reg [qr 7 (.mv (.k (.i .i64 0)))])
 (.blk 0
 (.loop
 (.seq (.seq (.reg [qm 9 7,
 qm 10 0,
 qr 11 (.len (.t 10)),
 qr 12 (.bin .lss (.t 9) (.t 11)),
 qm 13 12,
 ⟨some 14, some (13, false), .mv (.t 7)⟩,
 ⟨some 15, some (13, false), .mv (.t 1)⟩,
 ⟨some 16, some (13, false), .len (.t 15)⟩,
 ⟨some 17, some (13, false), .bin .lss (.t 14) (.t 16)⟩,
 qr 18 (.pick (.t 13) (.k (.b true)) (.t 17)),
 qm 19 18,
 ⟨some 20, some (19, false), .mv (.t 6)⟩,
 ⟨some 21, some (19, false), .bin .gtr (.t 20) (.k (.i .i64 0))⟩,
 qr 22 (.pick (.t 19) (.k (.b true)) (.t 21))])
 (.cond (.t 22)
 (.skip)
 (.exit 0)))
 (.seq (.blk 1
 (.seq (.reg [qm 25 0,
 qm 26 7,
 qr 27 (.call 25 [(1, (.t 25)), (1, (.t 26))]),
 qm 28 1,
 qm 29 7,
 qr 30 (.call 25 [(1, (.t 28)), (1, (.t 29))]),
 qr 31 (.bin .add (.t 27) (.t 30)),
 qm 32 6,
 qr 33 (.bin .add (.t 31) (.t 32)),
 qm 8 33])
 (.seq (.reg [qm 34 5,
 qm 35 8,
 qr 36 (.bin .rem (.t 35) (.k (.i .i64 256))),
 qr 37 (.bsl 3 1 1 [(.i .i64 0)] [(0, (.t 36))]),
 qr 38 (.app 3 1 8 (.t 34) (.t 37)),
 qm 5 38])
 (.reg [qm 39 8,
 qr 40 (.bin .quo (.t 39) (.k (.i .i64 256))),
 qm 6 40]))))
 (.reg [qm 23 7,
 qr 24 (.bin .add (.t 23) (.k (.i .i64 1))),
 qm 7 24]))))))
 (.seq (.reg [qm 41 5,
 qm 4 41])
 (.ret)))))
def addn (x y : List Nat) : Nat := if (nv 256 x + nv 256 y) / 256 ^ (max x.length y.length) = 0 then max x.length y.length else max x.length y.length + 1
theorem dadd_spec (x y : List Nat) (hx : Lt 256 x) (hy : Lt 256 y) (lx : x.length ≤ 1000000000000) (ly : y.length ≤ 1000000000000) :
    AFun Try.prog J0 15 [.l 1 (D x), .l 1 (D y)] (.o 3 1 (D (fl 256 (addn x y) (nv 256 x + nv 256 y)))) := by
  refine mkQ fol J0s Try.func15 a15 ?_
  unfold a15
  simp only [init_eq, initE, qm, qr, qn]
  generalize hm : max x.length y.length = m
  have han : addn x y = if (nv 256 x + nv 256 y) / 256 ^ m = 0 then m else m + 1 := by unfold addn; rw [hm]
  refine spQ @bz_Ref3 ?_
  refine vm_loopM [(5, 3, 1)] Nat (fun i => ⟨[(0, .l 1 (D x)), (1, .l 1 (D y)), (5, .ow 1 0 i), (6, .i .i64 (((nv 256 (x.take i) + nv 256 (y.take i)) / 256 ^ i : Nat) : Int)), (7, .i .i64 (i : Int))], [(0, some ⟨3, 1, D (fl 256 i (nv 256 (x.take i) + nv 256 (y.take i))), true, false⟩)], 1⟩)
    (fun i => i ≤ m + 1 ∧ (i = m + 1 → (nv 256 x + nv 256 y) / 256 ^ m ≠ 0)) (fun i => m + 1 - i) 0 [(0, 4)] ⟨by omega, by omega⟩ (by exact leQ) (by
    simp (disch := (first | omega | assumption)) only [Sl, Sa, Sw, ↓reduceIte, Nat.reduceEqDiff, Nat.reduceLT, List.all_nil, List.all_cons, Nat.reduceBneDiff, Nat.reduceAdd, bne_iff_ne, ne_eq, reduceCtorEq, not_false_eq_true, not_true_eq_false, Bool.and_true, Bool.true_and, and_true, true_and, and_self, i_eq]
    exact ⟨⟨by simp [nv], rfl⟩, rfl⟩) ?_
  intro i ⟨hi, hi2⟩ Q' hQ he hr
  generalize hc : (nv 256 (x.take i) + nv 256 (y.take i)) / 256 ^ i = c
  have hcB : c ≤ 1 := by
    have h1 := nv_take_lt (b := 256) (by decide) hx i
    have h2 := nv_take_lt (b := 256) (by decide) hy i
    rw [← hc]
    exact Nat.le_of_lt_succ ((Nat.div_lt_iff_lt_mul (Nat.pow_pos (by decide))).2 (by omega))
  have gx := Lt_get hx (by decide : 0 < 256) i
  have gy := Lt_get hy (by decide : 0 < 256) i
  obtain ⟨n, hn⟩ : ∃ n, n = x.getD i 0 + y.getD i 0 + c := ⟨_, rfl⟩
  have hs : ((x.getD i 0 : Nat) : Int) + ((y.getD i 0 : Nat) : Int) + (c : Int) = (n : Int) := by omega
  obtain ⟨s1, s2, s3⟩ := add_step (b := 256) (P := 256 ^ i) (A := nv 256 (x.take i)) (Y := nv 256 (y.take i)) (x := x.getD i 0) (y := y.getD i 0) (Nat.pow_pos (by decide)) (by decide)
  rw [hc, ← hn] at s1 s3
  have full : m ≤ i → c = (nv 256 x + nv 256 y) / 256 ^ i := fun h => by
    rw [← hc, List.take_of_length_le (by omega), List.take_of_length_le (by omega)]
  have small : nv 256 x + nv 256 y < 256 ^ (m + 1) := by
    have h1 := nv_lt hx
    have h2 := nv_lt hy
    have h3 : 256 ^ x.length ≤ 256 ^ m := Nat.pow_le_pow_right (by decide) (by omega)
    have h4 : 256 ^ y.length ≤ 256 ^ m := Nat.pow_le_pow_right (by decide) (by omega)
    rw [Nat.pow_succ]; omega
  by_cases h1 : (i : Int) < x.length
  · refine spQ (ai @h1 @bz_Ref3) ?_
    try simp only [Sv, ↓reduceIte, Nat.reduceEqDiff]
    refine vm_reg (fun K hK => ?_)
    refine smQ @bz_Ref3 ?_
    refine clp_mk _ _ ?_ ?_ ?_ (dat_spec x i) ?_
    · simp (disch := (first | omega | assumption)) only [S1, ↓reduceIte, Nat.reduceEqDiff, Nat.reduceAdd, Nat.reduceMul, Nat.reduceDiv, AOp.sb, AOp.mut, frzf, ↓Bool.false_eq_true, beq_self_eq_true, ite_self, Nat.reduceLeDiff, Int.reduceEq, Int.reduceSub, Int.reduceAdd, Int.reduceNeg, Int.reduceLT, Int.reduceLE, Nat.reduceLT, bz_Ref3]
    · simp (disch := (first | omega | assumption)) only [S1, ↓reduceIte, Nat.reduceEqDiff, Nat.reduceAdd, Nat.reduceMul, Nat.reduceDiv, AOp.sb, AOp.mut, frzf, ↓Bool.false_eq_true, beq_self_eq_true, ite_self, Nat.reduceLeDiff, Int.reduceEq, Int.reduceSub, Int.reduceAdd, Int.reduceNeg, Int.reduceLT, Int.reduceLE, Nat.reduceLT, bz_Ref3]
    · first | rfl | (simp (disch := (first | omega | assumption)) only [S1, ↓reduceIte, Nat.reduceEqDiff, Nat.reduceAdd, Nat.reduceMul, Nat.reduceDiv, AOp.sb, AOp.mut, frzf, ↓Bool.false_eq_true, beq_self_eq_true, ite_self, Nat.reduceLeDiff, Int.reduceEq, Int.reduceSub, Int.reduceAdd, Int.reduceNeg, Int.reduceLT, Int.reduceLE, Nat.reduceLT, bz_Ref3])
    refine smQ @bz_Ref3 ?_
    refine clp_mk _ _ ?_ ?_ ?_ (dat_spec y i) ?_
    · simp (disch := (first | omega | assumption)) only [S1, ↓reduceIte, Nat.reduceEqDiff, Nat.reduceAdd, Nat.reduceMul, Nat.reduceDiv, AOp.sb, AOp.mut, frzf, ↓Bool.false_eq_true, beq_self_eq_true, ite_self, Nat.reduceLeDiff, Int.reduceEq, Int.reduceSub, Int.reduceAdd, Int.reduceNeg, Int.reduceLT, Int.reduceLE, Nat.reduceLT, bz_Ref3]
    · simp (disch := (first | omega | assumption)) only [S1, ↓reduceIte, Nat.reduceEqDiff, Nat.reduceAdd, Nat.reduceMul, Nat.reduceDiv, AOp.sb, AOp.mut, frzf, ↓Bool.false_eq_true, beq_self_eq_true, ite_self, Nat.reduceLeDiff, Int.reduceEq, Int.reduceSub, Int.reduceAdd, Int.reduceNeg, Int.reduceLT, Int.reduceLE, Nat.reduceLT, bz_Ref3]
    · first | rfl | (simp (disch := (first | omega | assumption)) only [S1, ↓reduceIte, Nat.reduceEqDiff, Nat.reduceAdd, Nat.reduceMul, Nat.reduceDiv, AOp.sb, AOp.mut, frzf, ↓Bool.false_eq_true, beq_self_eq_true, ite_self, Nat.reduceLeDiff, Int.reduceEq, Int.reduceSub, Int.reduceAdd, Int.reduceNeg, Int.reduceLT, Int.reduceLE, Nat.reduceLT, bz_Ref3])
    refine smQ (ai @hs (ai @wi @bz_Ref3)) ?_
    refine hK _ ?_
    clear hK K
    try (refine hK _ ?_; clear hK K)
    refine spQ (ai @D_cat1 (ai @wi (ai @tdiv_256 (ai @tmod_256 @bz_Ref3)))) ?_
    refine hQ _ (i + 1) [(0, 29)] ⟨by omega, by omega⟩ (by omega) ?_
    simp (disch := (first | omega | assumption)) only [Sl, Sa, Sw, ↓reduceIte, Nat.reduceEqDiff, Nat.reduceLT, List.all_nil, List.all_cons, Nat.reduceBneDiff, Nat.reduceAdd, bne_iff_ne, ne_eq, reduceCtorEq, not_false_eq_true, not_true_eq_false, Bool.and_true, Bool.true_and, and_true, true_and, and_self, i_eq]
    refine ⟨⟨?_, by omega⟩, ?_⟩
    · rw [nv_take_succ', nv_take_succ', Nat.pow_succ, s3]
    · rw [nv_take_succ', nv_take_succ', fl_succ, fl_congr (by decide) s2, s1]
  · by_cases h2 : (i : Int) < y.length
    · try (refine hK _ ?_; clear hK K)
      refine spQ (ai @h2 (ai @h1 @bz_Ref3)) ?_
      try simp only [Sv, ↓reduceIte, Nat.reduceEqDiff]
      refine vm_reg (fun K hK => ?_)
      refine smQ @bz_Ref3 ?_
      refine clp_mk _ _ ?_ ?_ ?_ (dat_spec x i) ?_
      · simp (disch := (first | omega | assumption)) only [S1, ↓reduceIte, Nat.reduceEqDiff, Nat.reduceAdd, Nat.reduceMul, Nat.reduceDiv, AOp.sb, AOp.mut, frzf, ↓Bool.false_eq_true, beq_self_eq_true, ite_self, Nat.reduceLeDiff, Int.reduceEq, Int.reduceSub, Int.reduceAdd, Int.reduceNeg, Int.reduceLT, Int.reduceLE, Nat.reduceLT, bz_Ref3]
      · simp (disch := (first | omega | assumption)) only [S1, ↓reduceIte, Nat.reduceEqDiff, Nat.reduceAdd, Nat.reduceMul, Nat.reduceDiv, AOp.sb, AOp.mut, frzf, ↓Bool.false_eq_true, beq_self_eq_true, ite_self, Nat.reduceLeDiff, Int.reduceEq, Int.reduceSub, Int.reduceAdd, Int.reduceNeg, Int.reduceLT, Int.reduceLE, Nat.reduceLT, bz_Ref3]
      · first | rfl | (simp (disch := (first | omega | assumption)) only [S1, ↓reduceIte, Nat.reduceEqDiff, Nat.reduceAdd, Nat.reduceMul, Nat.reduceDiv, AOp.sb, AOp.mut, frzf, ↓Bool.false_eq_true, beq_self_eq_true, ite_self, Nat.reduceLeDiff, Int.reduceEq, Int.reduceSub, Int.reduceAdd, Int.reduceNeg, Int.reduceLT, Int.reduceLE, Nat.reduceLT, bz_Ref3])
      refine smQ @bz_Ref3 ?_
      refine clp_mk _ _ ?_ ?_ ?_ (dat_spec y i) ?_
      · simp (disch := (first | omega | assumption)) only [S1, ↓reduceIte, Nat.reduceEqDiff, Nat.reduceAdd, Nat.reduceMul, Nat.reduceDiv, AOp.sb, AOp.mut, frzf, ↓Bool.false_eq_true, beq_self_eq_true, ite_self, Nat.reduceLeDiff, Int.reduceEq, Int.reduceSub, Int.reduceAdd, Int.reduceNeg, Int.reduceLT, Int.reduceLE, Nat.reduceLT, bz_Ref3]
      · simp (disch := (first | omega | assumption)) only [S1, ↓reduceIte, Nat.reduceEqDiff, Nat.reduceAdd, Nat.reduceMul, Nat.reduceDiv, AOp.sb, AOp.mut, frzf, ↓Bool.false_eq_true, beq_self_eq_true, ite_self, Nat.reduceLeDiff, Int.reduceEq, Int.reduceSub, Int.reduceAdd, Int.reduceNeg, Int.reduceLT, Int.reduceLE, Nat.reduceLT, bz_Ref3]
      · first | rfl | (simp (disch := (first | omega | assumption)) only [S1, ↓reduceIte, Nat.reduceEqDiff, Nat.reduceAdd, Nat.reduceMul, Nat.reduceDiv, AOp.sb, AOp.mut, frzf, ↓Bool.false_eq_true, beq_self_eq_true, ite_self, Nat.reduceLeDiff, Int.reduceEq, Int.reduceSub, Int.reduceAdd, Int.reduceNeg, Int.reduceLT, Int.reduceLE, Nat.reduceLT, bz_Ref3])
      refine smQ (ai @hs (ai @wi @bz_Ref3)) ?_
      refine hK _ ?_
      clear hK K
      try (refine hK _ ?_; clear hK K)
      refine spQ (ai @D_cat1 (ai @wi (ai @tdiv_256 (ai @tmod_256 @bz_Ref3)))) ?_
      refine hQ _ (i + 1) [(0, 29)] ⟨by omega, by omega⟩ (by omega) ?_
      simp (disch := (first | omega | assumption)) only [Sl, Sa, Sw, ↓reduceIte, Nat.reduceEqDiff, Nat.reduceLT, List.all_nil, List.all_cons, Nat.reduceBneDiff, Nat.reduceAdd, bne_iff_ne, ne_eq, reduceCtorEq, not_false_eq_true, not_true_eq_false, Bool.and_true, Bool.true_and, and_true, true_and, and_self, i_eq]
      refine ⟨⟨?_, by omega⟩, ?_⟩
      · rw [nv_take_succ', nv_take_succ', Nat.pow_succ, s3]
      · rw [nv_take_succ', nv_take_succ', fl_succ, fl_congr (by decide) s2, s1]
    · by_cases h3 : (0 : Int) < c
      · have hne : i ≠ m + 1 := fun h => by
          have := full (by omega)
          rw [h, Nat.div_eq_of_lt small] at this
          omega
        try (refine hK _ ?_; clear hK K)
        refine spQ (ai @h3 (ai @h2 (ai @h1 @bz_Ref3))) ?_
        try simp only [Sv, ↓reduceIte, Nat.reduceEqDiff]
        refine vm_reg (fun K hK => ?_)
        refine smQ @bz_Ref3 ?_
        refine clp_mk _ _ ?_ ?_ ?_ (dat_spec x i) ?_
        · simp (disch := (first | omega | assumption)) only [S1, ↓reduceIte, Nat.reduceEqDiff, Nat.reduceAdd, Nat.reduceMul, Nat.reduceDiv, AOp.sb, AOp.mut, frzf, ↓Bool.false_eq_true, beq_self_eq_true, ite_self, Nat.reduceLeDiff, Int.reduceEq, Int.reduceSub, Int.reduceAdd, Int.reduceNeg, Int.reduceLT, Int.reduceLE, Nat.reduceLT, bz_Ref3]
        · simp (disch := (first | omega | assumption)) only [S1, ↓reduceIte, Nat.reduceEqDiff, Nat.reduceAdd, Nat.reduceMul, Nat.reduceDiv, AOp.sb, AOp.mut, frzf, ↓Bool.false_eq_true, beq_self_eq_true, ite_self, Nat.reduceLeDiff, Int.reduceEq, Int.reduceSub, Int.reduceAdd, Int.reduceNeg, Int.reduceLT, Int.reduceLE, Nat.reduceLT, bz_Ref3]
        · first | rfl | (simp (disch := (first | omega | assumption)) only [S1, ↓reduceIte, Nat.reduceEqDiff, Nat.reduceAdd, Nat.reduceMul, Nat.reduceDiv, AOp.sb, AOp.mut, frzf, ↓Bool.false_eq_true, beq_self_eq_true, ite_self, Nat.reduceLeDiff, Int.reduceEq, Int.reduceSub, Int.reduceAdd, Int.reduceNeg, Int.reduceLT, Int.reduceLE, Nat.reduceLT, bz_Ref3])
        refine smQ @bz_Ref3 ?_
        refine clp_mk _ _ ?_ ?_ ?_ (dat_spec y i) ?_
        · simp (disch := (first | omega | assumption)) only [S1, ↓reduceIte, Nat.reduceEqDiff, Nat.reduceAdd, Nat.reduceMul, Nat.reduceDiv, AOp.sb, AOp.mut, frzf, ↓Bool.false_eq_true, beq_self_eq_true, ite_self, Nat.reduceLeDiff, Int.reduceEq, Int.reduceSub, Int.reduceAdd, Int.reduceNeg, Int.reduceLT, Int.reduceLE, Nat.reduceLT, bz_Ref3]
        · simp (disch := (first | omega | assumption)) only [S1, ↓reduceIte, Nat.reduceEqDiff, Nat.reduceAdd, Nat.reduceMul, Nat.reduceDiv, AOp.sb, AOp.mut, frzf, ↓Bool.false_eq_true, beq_self_eq_true, ite_self, Nat.reduceLeDiff, Int.reduceEq, Int.reduceSub, Int.reduceAdd, Int.reduceNeg, Int.reduceLT, Int.reduceLE, Nat.reduceLT, bz_Ref3]
        · first | rfl | (simp (disch := (first | omega | assumption)) only [S1, ↓reduceIte, Nat.reduceEqDiff, Nat.reduceAdd, Nat.reduceMul, Nat.reduceDiv, AOp.sb, AOp.mut, frzf, ↓Bool.false_eq_true, beq_self_eq_true, ite_self, Nat.reduceLeDiff, Int.reduceEq, Int.reduceSub, Int.reduceAdd, Int.reduceNeg, Int.reduceLT, Int.reduceLE, Nat.reduceLT, bz_Ref3])
        refine smQ (ai @hs (ai @wi @bz_Ref3)) ?_
        refine hK _ ?_
        clear hK K
        try (refine hK _ ?_; clear hK K)
        refine spQ (ai @D_cat1 (ai @wi (ai @tdiv_256 (ai @tmod_256 @bz_Ref3)))) ?_
        refine hQ _ (i + 1) [(0, 29)] ⟨by omega, fun h => by have := full (by omega); rw [show m = i from by omega, ← this]; omega⟩ (by omega) ?_
        simp (disch := (first | omega | assumption)) only [Sl, Sa, Sw, ↓reduceIte, Nat.reduceEqDiff, Nat.reduceLT, List.all_nil, List.all_cons, Nat.reduceBneDiff, Nat.reduceAdd, bne_iff_ne, ne_eq, reduceCtorEq, not_false_eq_true, not_true_eq_false, Bool.and_true, Bool.true_and, and_true, true_and, and_self, i_eq]
        refine ⟨⟨?_, by omega⟩, ?_⟩
        · rw [nv_take_succ', nv_take_succ', Nat.pow_succ, s3]
        · rw [nv_take_succ', nv_take_succ', fl_succ, fl_congr (by decide) s2, s1]
      · try (refine hK _ ?_; clear hK K)
        refine spQ (ai @h3 (ai @h2 (ai @h1 @bz_Ref3))) ?_
        refine he _ _ ?_
        try (refine hK _ ?_; clear hK K)
        refine spQ @bz_Ref3 ?_
        have e : fl 256 i (nv 256 (x.take i) + nv 256 (y.take i)) = fl 256 (addn x y) (nv 256 x + nv 256 y) := by
          rw [List.take_of_length_le (by omega), List.take_of_length_le (by omega), han]
          have h4 := full (by omega)
          congr 1
          split
          · rename_i h5
            rcases Nat.lt_or_ge m i with h6 | h6
            · exact absurd h5 (hi2 (by omega))
            · omega
          · rename_i h5
            rcases Nat.lt_or_ge m i with h6 | h6
            · omega
            · exfalso; apply h5; rw [show m = i from by omega, ← h4]; omega
        exact rtQ (ai @e @bz_Ref3)
end Go.Proofs.Ytkmjbgpkndpkdaa
namespace Go.Proofs.Ytkmjbgpkndpkdaa
open Go Go.RowKit Ab
set_option linter.unusedSimpArgs false
set_option linter.unusedVariables false
set_option maxHeartbeats 10000000
theorem bz_Ref4 : type_of% (And.intro @W_len (And.intro @D_len (And.intro @Nat.div_one (And.intro @Nat.mul_one (And.intro @tn_nat (And.intro @W_nf (And.intro @D_nf (And.intro @W_nil (@D_nil))))))))) := And.intro @W_len (And.intro @D_len (And.intro @Nat.div_one (And.intro @Nat.mul_one (And.intro @tn_nat (And.intro @W_nf (And.intro @D_nf (And.intro @W_nil (@D_nil))))))))
theorem D2 : 2 ≤ 256 := by decide
theorem dg256_len {a : List Nat} (ha : Wd a) : (dg 256 (nv B a)).length ≤ 8 * a.length := dg_len D2 (by rw [← B_256]; exact nv_lt ha)
theorem sg_lt {x y : Nat} : (sg x y < 0) = (x < y) := by
  unfold sg
  split
  · rename_i h; simp [h]
  · rename_i h
    split <;> simp [h]
def a6 : AC := .seq (.reg [qr 4 (.mv (.k (.b false)))])
 (.seq (.seq (.reg [qm 6 0,
 qr 7 (.len (.t 6)),
 qm 8 1,
 qr 9 (.len (.t 8)),
 qr 10 (.bin .neq (.t 7) (.t 9))])
 (.cond (.t 10)
 (.seq (.reg [qr 4 (.mv (.k (.b false)))])
 (.ret))
 (.skip)))
 (.seq (.seq (.reg [qr 5 (.mv (.k (.i .i64 0)))])
 (.blk 0
 (.loop
 (.seq (.seq (.reg [qm 11 5,
 qm 12 0,
 qr 13 (.len (.t 12)),
 qr 14 (.bin .lss (.t 11) (.t 13))])
 (.cond (.t 14)
 (.skip)
 (.exit 0)))
 (.seq (.blk 1
 (.seq (.dreg [qm 17 0,
 qm 18 5,
 qr 19 (.idx 1 (.t 17) (.t 18)),
 qr 20 (.ld false 1 (.t 19)),
 qm 21 1,
 qm 22 5,
 qr 23 (.idx 1 (.t 21) (.t 22)),
 qr 24 (.ld false 1 (.t 23)),
 qr 25 (.bin .neq (.t 20) (.t 24))])
 (.cond (.t 25)
 (.seq (.reg [qr 4 (.mv (.k (.b false)))])
 (.ret))
 (.skip))))
 (.reg [qm 15 5,
 qr 16 (.bin .add (.t 15) (.k (.i .i64 1))),
 qm 5 16]))))))
 (.seq (.reg [qr 4 (.mv (.k (.b true)))])
 (.ret))))
theorem same_spec (a b : List Nat) (la : a.length ≤ 9223372036854775807) (lb : b.length ≤ 9223372036854775807) :
    AFun Try.prog J0 6 [.l 1 (W a), .l 1 (W b)] (.b (decide (a = b))) := by
  refine mkQ fol J0s Try.func6 a6 ?_
  unfold a6
  simp only [init_eq, initE, qm, qr, qn]
  by_cases h : (a.length : Int) = (b.length : Int)
  · refine spQ (ai @h @bz_Ref4) ?_
    refine vm_loop Nat (fun i => ⟨[(0, .l 1 (W a)), (1, .l 1 (W b)), (5, .i .i64 (i : Int))], [], 0⟩) (fun i => i ≤ a.length ∧ ∀ j, j < i → a.getD j 0 = b.getD j 0) (fun i => a.length - i) 0 [] ⟨by omega, by omega⟩ (by
      simp (disch := (first | omega | assumption)) only [Sl, Sa, Sw, ↓reduceIte, Nat.reduceEqDiff, Nat.reduceLT, List.all_nil, List.all_cons, Nat.reduceBneDiff, Nat.reduceAdd, bne_iff_ne, ne_eq, reduceCtorEq, not_false_eq_true, not_true_eq_false, Bool.and_true, Bool.true_and, and_true, true_and, and_self, i_eq]
      rfl) ?_
    intro i ⟨hi, hj⟩ Q' hQ he hr
    by_cases h1 : (i : Int) < a.length
    · refine spQ (ai @h1 @bz_Ref4) ?_
      by_cases h2 : ((a.getD i 0 : Nat) : Int) = ((b.getD i 0 : Nat) : Int)
      · refine spQ (ai @wi (ai @h2 (ai @W_get @bz_Ref4))) ?_
        refine hQ _ (i + 1) [] ⟨by omega, fun j h3 => ?_⟩ (by omega) ?_
        · rcases Nat.lt_or_ge j i with h4 | h4
          · exact hj j h4
          · obtain rfl : j = i := by omega
            omega
        · simp (disch := (first | omega | assumption)) only [Sl, Sa, Sw, ↓reduceIte, Nat.reduceEqDiff, Nat.reduceLT, List.all_nil, List.all_cons, Nat.reduceBneDiff, Nat.reduceAdd, bne_iff_ne, ne_eq, reduceCtorEq, not_false_eq_true, not_true_eq_false, Bool.and_true, Bool.true_and, and_true, true_and, and_self, i_eq]
          omega
      · refine spQ (ai @h2 (ai @W_get @bz_Ref4)) ?_
        refine spQ @bz_Ref4 ?_
        refine hr _ ?_
        have e : ¬ a = b := fun h => h2 (by rw [h])
        exact rtQ (ai @e @bz_Ref4)
    · refine spQ (ai @h1 @bz_Ref4) ?_
      refine he _ _ ?_
      refine spQ @bz_Ref4 ?_
      have e : a = b := by
        refine List.ext_getElem (by omega) fun n h3 h4 => ?_
        have := hj n (by omega)
        simpa [List.getD_eq_getElem?_getD, h3, h4] using this
      exact rtQ (ai @e @bz_Ref4)
  · refine spQ (ai @h @bz_Ref4) ?_
    have e : ¬ a = b := fun h' => h (by rw [h'])
    exact rtQ (ai @e @bz_Ref4)
def a18 : AC := .seq (.reg [qr 2 (.mv (.k .nl))])
 (.seq (.reg [qm 3 0,
 qr 4 (.call 16 [(1, (.t 3))]),
 qr 5 (.call 17 [(1, (.t 4))]),
 qm 2 5])
 (.ret))
theorem rnorm_spec (a : List Nat) (ha : Wd a) (la : a.length ≤ 100000000000) : AFun Try.prog J0 18 [.l 1 (W a)] (.o 34 1 (W (dg B (nv B a)))) := by
  refine mkQ fol J0s Try.func18 a18 ?_
  unfold a18
  simp only [init_eq, initE, qm, qr, qn]
  have hl := dg256_len ha
  have e := nv_dg D2 (nv B a)
  refine spQ @bz_Ref4 ?_
  try simp only [Sv, ↓reduceIte, Nat.reduceEqDiff]
  refine vm_reg (fun K hK => ?_)
  refine smQ @bz_Ref4 ?_
  refine clp_mk _ _ ?_ ?_ ?_ (digits_spec a ha la) ?_
  · simp (disch := (first | omega | assumption)) only [S1, ↓reduceIte, Nat.reduceEqDiff, Nat.reduceAdd, Nat.reduceMul, Nat.reduceDiv, AOp.sb, AOp.mut, frzf, ↓Bool.false_eq_true, beq_self_eq_true, ite_self, Nat.reduceLeDiff, Int.reduceEq, Int.reduceSub, Int.reduceAdd, Int.reduceNeg, Int.reduceLT, Int.reduceLE, Nat.reduceLT, bz_Ref4]
  · simp (disch := (first | omega | assumption)) only [S1, ↓reduceIte, Nat.reduceEqDiff, Nat.reduceAdd, Nat.reduceMul, Nat.reduceDiv, AOp.sb, AOp.mut, frzf, ↓Bool.false_eq_true, beq_self_eq_true, ite_self, Nat.reduceLeDiff, Int.reduceEq, Int.reduceSub, Int.reduceAdd, Int.reduceNeg, Int.reduceLT, Int.reduceLE, Nat.reduceLT, bz_Ref4]
  · first | rfl | (simp (disch := (first | omega | assumption)) only [S1, ↓reduceIte, Nat.reduceEqDiff, Nat.reduceAdd, Nat.reduceMul, Nat.reduceDiv, AOp.sb, AOp.mut, frzf, ↓Bool.false_eq_true, beq_self_eq_true, ite_self, Nat.reduceLeDiff, Int.reduceEq, Int.reduceSub, Int.reduceAdd, Int.reduceNeg, Int.reduceLT, Int.reduceLE, Nat.reduceLT, bz_Ref4])
  refine smQ @bz_Ref4 ?_
  refine clp_mk _ _ ?_ ?_ ?_ (of_spec (dg 256 (nv B a)) (dg_Lt (by decide) _) (by omega)) ?_
  · simp (disch := (first | omega | assumption)) only [S1, ↓reduceIte, Nat.reduceEqDiff, Nat.reduceAdd, Nat.reduceMul, Nat.reduceDiv, AOp.sb, AOp.mut, frzf, ↓Bool.false_eq_true, beq_self_eq_true, ite_self, Nat.reduceLeDiff, Int.reduceEq, Int.reduceSub, Int.reduceAdd, Int.reduceNeg, Int.reduceLT, Int.reduceLE, Nat.reduceLT, bz_Ref4]
  · simp (disch := (first | omega | assumption)) only [S1, ↓reduceIte, Nat.reduceEqDiff, Nat.reduceAdd, Nat.reduceMul, Nat.reduceDiv, AOp.sb, AOp.mut, frzf, ↓Bool.false_eq_true, beq_self_eq_true, ite_self, Nat.reduceLeDiff, Int.reduceEq, Int.reduceSub, Int.reduceAdd, Int.reduceNeg, Int.reduceLT, Int.reduceLE, Nat.reduceLT, bz_Ref4]
  · first | rfl | (simp (disch := (first | omega | assumption)) only [S1, ↓reduceIte, Nat.reduceEqDiff, Nat.reduceAdd, Nat.reduceMul, Nat.reduceDiv, AOp.sb, AOp.mut, frzf, ↓Bool.false_eq_true, beq_self_eq_true, ite_self, Nat.reduceLeDiff, Int.reduceEq, Int.reduceSub, Int.reduceAdd, Int.reduceNeg, Int.reduceLT, Int.reduceLE, Nat.reduceLT, bz_Ref4])
  refine smQ (ai @e @bz_Ref4) ?_
  refine hK _ ?_
  clear hK K
  try (refine hK _ ?_; clear hK K)
  refine spQ @bz_Ref4 ?_
  exact rtQ @bz_Ref4
def a19 : AC := .seq (.reg [qr 4 (.mv (.k (.i .i64 0)))])
 (.seq (.reg [qm 5 0,
 qr 6 (.call 16 [(1, (.t 5))]),
 qm 7 1,
 qr 8 (.call 16 [(1, (.t 7))]),
 qr 9 (.call 27 [(1, (.t 6)), (1, (.t 8))]),
 qm 4 9])
 (.ret))
theorem rcmp_spec (a b : List Nat) (ha : Wd a) (hb : Wd b) (la : a.length ≤ 100000000000) (lb : b.length ≤ 100000000000) :
    AFun Try.prog J0 19 [.l 1 (W a), .l 1 (W b)] (.i .i64 (sg (nv B a) (nv B b))) := by
  refine mkQ fol J0s Try.func19 a19 ?_
  unfold a19
  simp only [init_eq, initE, qm, qr, qn]
  have hla := dg256_len ha
  have hlb := dg256_len hb
  have ea := nv_dg D2 (nv B a)
  have eb := nv_dg D2 (nv B b)
  refine spQ @bz_Ref4 ?_
  try simp only [Sv, ↓reduceIte, Nat.reduceEqDiff]
  refine vm_reg (fun K hK => ?_)
  refine smQ @bz_Ref4 ?_
  refine clp_mk _ _ ?_ ?_ ?_ (digits_spec a ha la) ?_
  · simp (disch := (first | omega | assumption)) only [S1, ↓reduceIte, Nat.reduceEqDiff, Nat.reduceAdd, Nat.reduceMul, Nat.reduceDiv, AOp.sb, AOp.mut, frzf, ↓Bool.false_eq_true, beq_self_eq_true, ite_self, Nat.reduceLeDiff, Int.reduceEq, Int.reduceSub, Int.reduceAdd, Int.reduceNeg, Int.reduceLT, Int.reduceLE, Nat.reduceLT, bz_Ref4]
  · simp (disch := (first | omega | assumption)) only [S1, ↓reduceIte, Nat.reduceEqDiff, Nat.reduceAdd, Nat.reduceMul, Nat.reduceDiv, AOp.sb, AOp.mut, frzf, ↓Bool.false_eq_true, beq_self_eq_true, ite_self, Nat.reduceLeDiff, Int.reduceEq, Int.reduceSub, Int.reduceAdd, Int.reduceNeg, Int.reduceLT, Int.reduceLE, Nat.reduceLT, bz_Ref4]
  · first | rfl | (simp (disch := (first | omega | assumption)) only [S1, ↓reduceIte, Nat.reduceEqDiff, Nat.reduceAdd, Nat.reduceMul, Nat.reduceDiv, AOp.sb, AOp.mut, frzf, ↓Bool.false_eq_true, beq_self_eq_true, ite_self, Nat.reduceLeDiff, Int.reduceEq, Int.reduceSub, Int.reduceAdd, Int.reduceNeg, Int.reduceLT, Int.reduceLE, Nat.reduceLT, bz_Ref4])
  refine smQ @bz_Ref4 ?_
  refine clp_mk _ _ ?_ ?_ ?_ (digits_spec b hb lb) ?_
  · simp (disch := (first | omega | assumption)) only [S1, ↓reduceIte, Nat.reduceEqDiff, Nat.reduceAdd, Nat.reduceMul, Nat.reduceDiv, AOp.sb, AOp.mut, frzf, ↓Bool.false_eq_true, beq_self_eq_true, ite_self, Nat.reduceLeDiff, Int.reduceEq, Int.reduceSub, Int.reduceAdd, Int.reduceNeg, Int.reduceLT, Int.reduceLE, Nat.reduceLT, bz_Ref4]
  · simp (disch := (first | omega | assumption)) only [S1, ↓reduceIte, Nat.reduceEqDiff, Nat.reduceAdd, Nat.reduceMul, Nat.reduceDiv, AOp.sb, AOp.mut, frzf, ↓Bool.false_eq_true, beq_self_eq_true, ite_self, Nat.reduceLeDiff, Int.reduceEq, Int.reduceSub, Int.reduceAdd, Int.reduceNeg, Int.reduceLT, Int.reduceLE, Nat.reduceLT, bz_Ref4]
  · first | rfl | (simp (disch := (first | omega | assumption)) only [S1, ↓reduceIte, Nat.reduceEqDiff, Nat.reduceAdd, Nat.reduceMul, Nat.reduceDiv, AOp.sb, AOp.mut, frzf, ↓Bool.false_eq_true, beq_self_eq_true, ite_self, Nat.reduceLeDiff, Int.reduceEq, Int.reduceSub, Int.reduceAdd, Int.reduceNeg, Int.reduceLT, Int.reduceLE, Nat.reduceLT, bz_Ref4])
  refine smQ @bz_Ref4 ?_
  refine clp_mk _ _ ?_ ?_ ?_ (dcmp_spec (dg 256 (nv B a)) (dg 256 (nv B b)) (dg_Lt (by decide) _) (dg_Lt (by decide) _) (by omega) (by omega)) ?_
  · simp (disch := (first | omega | assumption)) only [S1, ↓reduceIte, Nat.reduceEqDiff, Nat.reduceAdd, Nat.reduceMul, Nat.reduceDiv, AOp.sb, AOp.mut, frzf, ↓Bool.false_eq_true, beq_self_eq_true, ite_self, Nat.reduceLeDiff, Int.reduceEq, Int.reduceSub, Int.reduceAdd, Int.reduceNeg, Int.reduceLT, Int.reduceLE, Nat.reduceLT, bz_Ref4]
  · simp (disch := (first | omega | assumption)) only [S1, ↓reduceIte, Nat.reduceEqDiff, Nat.reduceAdd, Nat.reduceMul, Nat.reduceDiv, AOp.sb, AOp.mut, frzf, ↓Bool.false_eq_true, beq_self_eq_true, ite_self, Nat.reduceLeDiff, Int.reduceEq, Int.reduceSub, Int.reduceAdd, Int.reduceNeg, Int.reduceLT, Int.reduceLE, Nat.reduceLT, bz_Ref4]
  · first | rfl | (simp (disch := (first | omega | assumption)) only [S1, ↓reduceIte, Nat.reduceEqDiff, Nat.reduceAdd, Nat.reduceMul, Nat.reduceDiv, AOp.sb, AOp.mut, frzf, ↓Bool.false_eq_true, beq_self_eq_true, ite_self, Nat.reduceLeDiff, Int.reduceEq, Int.reduceSub, Int.reduceAdd, Int.reduceNeg, Int.reduceLT, Int.reduceLE, Nat.reduceLT, bz_Ref4])
  refine smQ (ai @eb (ai @ea @bz_Ref4)) ?_
  refine hK _ ?_
  clear hK K
  try (refine hK _ ?_; clear hK K)
  refine spQ @bz_Ref4 ?_
  exact rtQ @bz_Ref4
end Go.Proofs.Ytkmjbgpkndpkdaa
namespace Go.Proofs.Ytkmjbgpkndpkdaa
open Go Go.RowKit Ab
set_option linter.unusedSimpArgs false
set_option linter.unusedVariables false
set_option maxHeartbeats 10000000
theorem bz_Ref6 : type_of% (And.intro @W_len (And.intro @D_len (And.intro @Nat.div_one (And.intro @Nat.mul_one (And.intro @tn_nat (And.intro @W_nf (And.intro @D_nf (And.intro @W_nil (And.intro @D_nil (@wi)))))))))) := And.intro @W_len (And.intro @D_len (And.intro @Nat.div_one (And.intro @Nat.mul_one (And.intro @tn_nat (And.intro @W_nf (And.intro @D_nf (And.intro @W_nil (And.intro @D_nil (@wi)))))))))
def Bl (a : List Nat) : List V := a.map fun x : Nat => .b (decide (x = 1))
theorem Bl_len (a : List Nat) : (Bl a).length = a.length := by simp [Bl]
theorem Bl_nil : Bl [] = [] := rfl
theorem Bl_get (a : List Nat) (i : Nat) (h : i < a.length) : (Bl a).getD i .un = .b (decide (a.getD i 0 = 1)) := by simp [Bl, List.getD_eq_getElem?_getD, h]
theorem Bl_take (a : List Nat) (i : Nat) : (Bl a).take i = Bl (a.take i) := by simp [Bl]
theorem Bl_drop (a : List Nat) (i : Nat) : (Bl a).drop i = Bl (a.drop i) := by simp [Bl]
theorem Bl_app (a b : List Nat) : Bl a ++ Bl b = Bl (a ++ b) := by simp [Bl]
theorem Bl_cell (a : List Nat) : (Bl a).all V.cell = true := by simp [Bl, V.cell]
theorem Bl_nf (a : List Nat) : anyNF (Bl a) = false := by
  induction a with
  | nil => rfl
  | cons x r ih => simpa [Bl, anyNF, V.nf] using ih
theorem Bl_app1 (a : List Nat) (x : Nat) : Bl a ++ [V.b (decide (((x : Nat) : Int) = 1))] = Bl (a ++ [x]) := by
  have : decide (((x : Nat) : Int) = 1) = decide (x = 1) := by congr 1; simp only [eq_iff_iff]; omega
  rw [this]; simp [Bl]
theorem tmod_2 (a : Nat) : (a : Int).tmod 2 = ((a % 2 : Nat) : Int) := rfl
theorem tdiv_2 (a : Nat) : (a : Int).tdiv 2 = ((a / 2 : Nat) : Int) := rfl
theorem p256 (i : Nat) : 256 ^ i = 2 ^ (8 * i) := by rw [Nat.pow_mul]
theorem bit_of {l : List Nat} (h : Lt 2 l) (i : Nat) : l.getD i 0 = 0 ∨ l.getD i 0 = 1 := by have := Lt_get h (by decide) i; omega
end Go.Proofs.Ytkmjbgpkndpkdaa
namespace Go.Proofs.Ytkmjbgpkndpkdaa
open Go Go.RowKit Ab
set_option linter.unusedSimpArgs false
set_option linter.unusedVariables false
set_option maxHeartbeats 10000000
theorem bz_Shift : type_of% (And.intro @W_len (And.intro @Nat.div_one (And.intro @Nat.mul_one (And.intro @tn_nat (And.intro @W_nf (And.intro @W_nil (And.intro @tmod_64 (And.intro @tdiv_64 (And.intro @wi (And.intro @wu (@mk_W))))))))))) := And.intro @W_len (And.intro @Nat.div_one (And.intro @Nat.mul_one (And.intro @tn_nat (And.intro @W_nf (And.intro @W_nil (And.intro @tmod_64 (And.intro @tdiv_64 (And.intro @wi (And.intro @wu (@mk_W))))))))))
theorem B1 : 0 < B := by decide
theorem tn_add (a b : Nat) : ((a : Int) + (b : Int)).toNat = a + b := by omega
theorem tn_add2 (a b : Nat) : ((a : Int) + (b : Int) + 1).toNat = a + b + 1 := by omega
theorem set_fl {m i v d : Nat} (hi : i < m) (hd : d = v / B ^ i % B) : (fl B i v ++ List.replicate (m - i) 0).set i d = fl B (i + 1) v ++ List.replicate (m - (i + 1)) 0 := by
  obtain ⟨k, hk⟩ : ∃ k, m - i = k + 1 := ⟨m - i - 1, by omega⟩
  rw [fl_succ, hk, show m - (i + 1) = k from by omega, List.set_append_right _ _ (by rw [fl_len]; omega), fl_len, Nat.sub_self, List.replicate_succ, List.set_cons_zero, hd, List.append_assoc]
  rfl
theorem getD_set (l : List Nat) (i x : Nat) (h : i < l.length) : (l.set i x).getD i 0 = x := by
  rw [List.getD_eq_getElem?_getD, List.getElem?_set_self h]; rfl
end Go.Proofs.Ytkmjbgpkndpkdaa
namespace Go.Proofs.Ytkmjbgpkndpkdaa
open Go Go.RowKit Ab
set_option linter.unusedSimpArgs false
set_option linter.unusedVariables false
set_option maxHeartbeats 10000000
theorem bz_Shift2 : type_of% (And.intro @W_len (And.intro @D_len (And.intro @Bl_len (And.intro @Nat.div_one (And.intro @Nat.mul_one (And.intro @tn_nat (And.intro @W_nf (And.intro @D_nf (And.intro @Bl_nf (And.intro @W_nil (And.intro @D_nil (And.intro @Bl_nil (And.intro @tmod_64 (And.intro @tdiv_64 (And.intro @wi (@wu)))))))))))))))) := And.intro @W_len (And.intro @D_len (And.intro @Bl_len (And.intro @Nat.div_one (And.intro @Nat.mul_one (And.intro @tn_nat (And.intro @W_nf (And.intro @D_nf (And.intro @Bl_nf (And.intro @W_nil (And.intro @D_nil (And.intro @Bl_nil (And.intro @tmod_64 (And.intro @tdiv_64 (And.intro @wi (@wu)))))))))))))))
theorem nv_dgB (v : Nat) : nv B (dg B v) = v := nv_dg B2 v
theorem Wd_dg (v : Nat) : Wd (dg B v) := dg_Lt B0 v
theorem dlen {v k : Nat} (h : v < B ^ k) : (dg B v).length ≤ k := dg_len B2 h
theorem nvlt {a : List Nat} {m : Nat} (ha : Wd a) (la : a.length ≤ m) : nv B a < B ^ m := Nat.lt_of_lt_of_le (nv_lt ha) (Nat.pow_le_pow_right B0 la)
theorem pup {v k m : Nat} (h : v < B ^ k) (hk : k ≤ m) : v < B ^ m := Nat.lt_of_lt_of_le h (Nat.pow_le_pow_right B0 hk)
theorem padd {u v k : Nat} (h : u < B ^ k) (h' : v < B ^ k) : u + v < B ^ (k + 1) := by
  have h5 : B ^ k * 2 ≤ B ^ (k + 1) := Nat.mul_le_mul_left _ B2
  omega
theorem same_true {a b : List Nat} (h : a = b) (la : a.length ≤ 1099511627776) : AFun Try.prog J0 6 [.l 1 (W a), .l 1 (W b)] (.b true) := by
  have := same_spec a b (by omega) (by rw [← h]; omega)
  rwa [show decide (a = b) = true from decide_eq_true h] at this
theorem own_dg (a : List Nat) (ha : Wd a) (la : a.length ≤ 1099511627776) : AFun Try.prog J0 20 [.l 1 (W a)] (.o 34 1 (W (dg B (nv B a)))) := by
  have := own_spec a la
  rwa [tz_dg B2 ha] at this
theorem nv_mod {b : Nat} {l : List Nat} (hb : 0 < b) (h : Lt b l) (i : Nat) : nv b (l.take i) = nv b l % b ^ i := by
  rcases Nat.lt_or_ge l.length i with h1 | h1
  · rw [List.take_of_length_le (by omega), Nat.mod_eq_of_lt (Nat.lt_of_lt_of_le (nv_lt h) (Nat.pow_le_pow_right hb (by omega)))]
  · rw [nv_take_drop l i h1, Nat.add_mul_mod_self_left, Nat.mod_eq_of_lt (nv_take_lt hb h i)]
theorem shl1 (r : Nat) (h : r < 64) : IntKind.u64.wrap (1 * 2 ^ (min r IntKind.u64.bits)) = ((2 ^ r : Nat) : Int) := by
  have h2 := shl64 1 r (by omega)
  have h3 : 2 ^ r < 18446744073709551616 := by
    have : (2 : Nat) ^ r < 2 ^ 64 := Nat.pow_lt_pow_right (by decide) h
    exact this
  rw [Nat.one_mul, Nat.mod_eq_of_lt h3] at h2
  exact h2
theorem pred2 (r : Nat) : ((2 ^ r : Nat) : Int) - 1 = ((2 ^ r - 1 : Nat) : Int) := by have : 0 < 2 ^ r := Nat.pow_pos (by decide); omega
def shlR (v : Nat) (n : Int) : List Nat × Int := if n < 0 ∨ 1048576 < n then ([], 3) else (dg B (v * 2 ^ n.toNat), 0)
def shrR (v : Nat) (n : Int) : List Nat × Int := if n < 0 then ([], 3) else (dg B (v / 2 ^ n.toNat), 0)
def lowR (v : Nat) (n : Int) : List Nat := if n < 0 then [] else dg B (v % 2 ^ n.toNat)
end Go.Proofs.Ytkmjbgpkndpkdaa
