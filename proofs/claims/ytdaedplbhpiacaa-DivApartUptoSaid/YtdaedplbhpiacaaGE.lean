/-
  The texts Ref1, Ref2, Ref3, Ref4, Ref6, Shift, Shift2.
-/
import Derived.Test.YtdaedplbhpiacaaGD
namespace Go.Proofs.Ytdaedplbhpiacaa
open Go Go.RowKit Ab
set_option linter.unusedSimpArgs false
set_option linter.unusedVariables false
set_option maxHeartbeats 10000000
theorem bz_Ref1 : type_of% (And.intro @W_len (And.intro @D_len (And.intro @Nat.div_one (And.intro @Nat.mul_one (And.intro @tn_nat (And.intro @W_nf (And.intro @D_nf (And.intro @W_nil (@D_nil))))))))) := And.intro @W_len (And.intro @D_len (And.intro @Nat.div_one (And.intro @Nat.mul_one (And.intro @tn_nat (And.intro @W_nf (And.intro @D_nf (And.intro @W_nil (@D_nil))))))))
def a61 : AC := .seq (.reg [qr 2 (.mv (.k .nl))])
 (.seq (.reg [qm 4 0,
 qr 5 (.len (.t 4)),
 qm 3 5])
 (.seq (.blk 0
 (.loop
 (.seq (.seq (.reg [qm 6 3,
 qr 7 (.bin .gtr (.t 6) (.k (.i .i64 0))),
 qm 8 7,
 ⟨some 9, some (8, true), .mv (.t 0)⟩,
 ⟨some 10, some (8, true), .mv (.t 3)⟩,
 ⟨some 11, some (8, true), .bin .sub (.t 10) (.k (.i .i64 1))⟩,
 ⟨some 12, some (8, true), .idx 1 (.t 9) (.t 11)⟩,
 ⟨some 13, some (8, true), .ld false 1 (.t 12)⟩,
 ⟨some 14, some (8, true), .bin .eql (.t 13) (.k (.i .i64 0))⟩,
 qr 15 (.pick (.t 8) (.t 14) (.k (.b false)))])
 (.cond (.t 15)
 (.skip)
 (.exit 0)))
 (.blk 1
 (.reg [qm 16 3,
 qr 17 (.bin .sub (.t 16) (.k (.i .i64 1))),
 qm 3 17])))))
 (.seq (.reg [qm 18 0,
 qm 19 3,
 qr 20 (.sub 1 (.t 18) none (some (.t 19))),
 qm 2 20])
 (.ret))))
theorem cut0_spec (a : List Nat) (ha : a.length ≤ 9223372036854775807) : AFun Try.prog J0 61 [.l 1 (D a)] (.l 1 (D (tz a))) := by
  refine mkQ fol J0s Try.func61 a61 ?_
  unfold a61
  simp only [init_eq, initE, qm, qr, qn]
  refine spQ @bz_Ref1 ?_
  refine vm_loop Nat (fun n => ⟨[(0, .l 1 (D a)), (3, .i .i64 (n : Int))], [], 0⟩) (fun n => n ≤ a.length ∧ tz a = tz (a.take n)) (fun n => n) a.length [] ⟨by omega, by rw [List.take_length]⟩ (by exact leQ) ?_
  intro n ⟨hn, ht⟩ Q' hQ he hr
  by_cases h0 : 0 < (n : Int)
  · obtain ⟨m, rfl⟩ : ∃ m, n = m + 1 := ⟨n - 1, by omega⟩
    by_cases h1 : ((a.getD m 0 : Nat) : Int) = 0
    · refine spQ (ai @Nat.add_sub_cancel (ai @tn_sub1 (ai @wi (ai @D_get (ai @h1 (ai @h0 @bz_Ref1)))))) ?_
      refine hQ _ m [] ⟨by omega, ?_⟩ (by omega) ?_
      · rw [ht]; exact tz_zero a m (by omega) (by omega)
      · simp (disch := (first | omega | assumption)) only [Sl, Sa, Sw, ↓reduceIte, Nat.reduceEqDiff, Nat.reduceLT, List.all_nil, List.all_cons, Nat.reduceBneDiff, Nat.reduceAdd, bne_iff_ne, ne_eq, reduceCtorEq, not_false_eq_true, not_true_eq_false, Bool.and_true, Bool.true_and, and_true, true_and, and_self, i_eq]
        omega
    · refine spQ (ai @Nat.add_sub_cancel (ai @tn_sub1 (ai @wi (ai @D_get (ai @h1 (ai @h0 @bz_Ref1)))))) ?_
      refine he _ _ ?_
      refine spQ (ai @D_take @bz_Ref1) ?_
      have e := tz_take a
      rw [ht, tz_top a m (by omega) (by omega)] at e
      refine rtO @bz_Ref1 ?_
      rw [e, ht]
  · refine spQ (ai @h0 @bz_Ref1) ?_
    refine he _ _ ?_
    obtain rfl : n = 0 := by omega
    refine spQ (ai @D_take @bz_Ref1) ?_
    refine rtO (ai @ht @bz_Ref1) ?_
    rfl
theorem D_cat1 (a : List Nat) (x : Nat) : D a ++ [V.i .i64 (x : Int)] = D (a ++ [x]) := by simp [D]
theorem tmod_256 (a : Nat) : (a : Int).tmod 256 = ((a % 256 : Nat) : Int) := rfl
theorem tdiv_256 (a : Nat) : (a : Int).tdiv 256 = ((a / 256 : Nat) : Int) := rfl
theorem B_256 (i : Nat) : B ^ i = 256 ^ (8 * i) := by rw [Nat.pow_mul]; rfl
def a36 : AC := .seq (.reg [qr 2 (.mv (.k .nl))])
 (.seq (.reg [qr 3 (.mv (.k .nl))])
 (.seq (.seq (.reg [qr 4 (.mv (.k (.i .i64 0)))])
 (.blk 0
 (.loop
 (.seq (.seq (.reg [qm 7 4,
 qm 8 0,
 qr 9 (.len (.t 8)),
 qr 10 (.bin .lss (.t 7) (.t 9))])
 (.cond (.t 10)
 (.skip)
 (.exit 0)))
 (.seq (.blk 1
 (.seq (.reg [qm 13 0,
 qm 14 4,
 qr 15 (.idx 1 (.t 13) (.t 14)),
 qr 16 (.ld false 1 (.t 15)),
 qm 5 16])
 (.seq (.reg [qr 6 (.mv (.k (.i .i64 0)))])
 (.blk 2
 (.loop
 (.seq (.seq (.reg [qm 17 6,
 qr 18 (.bin .lss (.t 17) (.k (.i .i64 8)))])
 (.cond (.t 18)
 (.skip)
 (.exit 2)))
 (.seq (.blk 3
 (.seq (.reg [qm 21 3,
 qm 22 5,
 qr 23 (.bin .rem (.t 22) (.k (.i .u64 256))),
 qr 24 (.cvt .i64 (.t 23)),
 qr 25 (.bsl 3 1 1 [(.i .i64 0)] [(0, (.t 24))]),
 qr 26 (.app 3 1 8 (.t 21) (.t 25)),
 qm 3 26])
 (.reg [qm 27 5,
 qr 28 (.bin .quo (.t 27) (.k (.i .u64 256))),
 qm 5 28])))
 (.reg [qm 19 6,
 qr 20 (.bin .add (.t 19) (.k (.i .i64 1))),
 qm 6 20]))))))))
 (.reg [qm 11 4,
 qr 12 (.bin .add (.t 11) (.k (.i .i64 1))),
 qm 4 12]))))))
 (.seq (.reg [qm 29 3,
 qr 30 (.call 61 [(1, (.t 29))]),
 qm 2 30])
 (.ret))))
theorem digits_spec (a : List Nat) (ha : Wd a) (la : a.length ≤ 100000000000) : AFun Try.prog J0 36 [.l 1 (W a)] (.l 1 (D (dg 256 (nv B a)))) := by
  refine mkQ fol J0s Try.func36 a36 ?_
  unfold a36
  simp only [init_eq, initE, qm, qr, qn]
  refine spQ @bz_Ref1 ?_
  refine vm_loopM [(3, 3, 1)] Nat (fun i => ⟨[(0, .l 1 (W a)), (3, .ow 1 0 (8 * i)), (4, .i .i64 (i : Int))], [(0, some ⟨3, 1, D (fl 256 (8 * i) (nv B (a.take i))), true, false⟩)], 1⟩)
    (fun i => i ≤ a.length) (fun i => a.length - i) 0 [(0, 3)] (Nat.zero_le _) (by exact leQ) (by
    simp (disch := (first | omega | assumption)) only [Sl, Sa, Sw, ↓reduceIte, Nat.reduceEqDiff, Nat.reduceLT, List.all_nil, List.all_cons, Nat.reduceBneDiff, Nat.reduceAdd, bne_iff_ne, ne_eq, reduceCtorEq, not_false_eq_true, not_true_eq_false, Bool.and_true, Bool.true_and, and_true, true_and, and_self, i_eq]
    exact ⟨rfl, rfl⟩) ?_
  intro i hi Q' hQ he hr
  by_cases h : (i : Int) < a.length
  · refine spQ (ai @W_get (ai @h @bz_Ref1)) ?_
    refine vm_loop Nat (fun k => ⟨[(0, .l 1 (W a)), (3, .ow 1 0 (8 * i + k)), (4, .i .i64 (i : Int)), (5, .i .u64 ((a.getD i 0 / 256 ^ k : Nat) : Int)), (6, .i .i64 (k : Int))], [(0, some ⟨3, 1, D (fl 256 (8 * i) (nv B (a.take i)) ++ fl 256 k (a.getD i 0)), true, false⟩)], 1⟩)
      (fun k => k ≤ 8) (fun k => 8 - k) 0 [] (Nat.zero_le _) (by
      simp (disch := (first | omega | assumption)) only [Sl, Sa, Sw, ↓reduceIte, Nat.reduceEqDiff, Nat.reduceLT, List.all_nil, List.all_cons, Nat.reduceBneDiff, Nat.reduceAdd, bne_iff_ne, ne_eq, reduceCtorEq, not_false_eq_true, not_true_eq_false, Bool.and_true, Bool.true_and, and_true, true_and, and_self, i_eq]
      exact ⟨⟨rfl, by simp, rfl⟩, by simp [fl]⟩) ?_
    intro k hk Q'' hQ' he' hr'
    by_cases h1 : (k : Int) < 8
    · have hq : a.getD i 0 / 256 ^ k < 18446744073709551616 := Nat.lt_of_le_of_lt (Nat.div_le_self _ _) (Wd_get ha i)
      have hw : IntKind.u64.wrap ((a.getD i 0 / 256 ^ k / 256 : Nat) : Int) = ((a.getD i 0 / 256 ^ k / 256 : Nat) : Int) := by
        generalize a.getD i 0 / 256 ^ k = q at hq ⊢
        exact wu (by omega)
      refine spQ (ai @D_cat1 (ai @hw (ai @wi (ai @tdiv_256 (ai @tmod_256 (ai @h1 @bz_Ref1)))))) ?_
      refine hQ' _ (k + 1) [(0, 8)] (by omega) (by omega) ?_
      simp (disch := (first | omega | assumption)) only [Sl, Sa, Sw, ↓reduceIte, Nat.reduceEqDiff, Nat.reduceLT, List.all_nil, List.all_cons, Nat.reduceBneDiff, Nat.reduceAdd, bne_iff_ne, ne_eq, reduceCtorEq, not_false_eq_true, not_true_eq_false, Bool.and_true, Bool.true_and, and_true, true_and, and_self, i_eq]
      exact ⟨⟨by omega, by rw [Nat.div_div_eq_div_mul, ← Nat.pow_succ], rfl⟩, by rw [fl_succ, List.append_assoc]⟩
    · obtain rfl : k = 8 := by omega
      refine spQ (ai @h1 @bz_Ref1) ?_
      refine he' _ _ ?_
      refine spQ (ai @wi @bz_Ref1) ?_
      refine hQ _ (i + 1) [] (by omega) (by omega) ?_
      simp (disch := (first | omega | assumption)) only [Sl, Sa, Sw, ↓reduceIte, Nat.reduceEqDiff, Nat.reduceLT, List.all_nil, List.all_cons, Nat.reduceBneDiff, Nat.reduceAdd, bne_iff_ne, ne_eq, reduceCtorEq, not_false_eq_true, not_true_eq_false, Bool.and_true, Bool.true_and, and_true, true_and, and_self, i_eq]
      refine ⟨⟨by omega, rfl⟩, ?_⟩
      rw [show 8 * (i + 1) = 8 * i + 8 from by omega, fl_add, nv_take_succ', B_256]
      have hlt := nv_take_lt (b := B) (by decide) ha i
      rw [B_256] at hlt
      rw [Nat.add_mul_div_left _ _ (Nat.pow_pos (by decide)), Nat.div_eq_of_lt hlt, Nat.zero_add, fl_congr (b := 256) (by decide) (n := 8 * i) (v := nv B (a.take i) + 256 ^ (8 * i) * a.getD i 0) (u := nv B (a.take i)) (by rw [Nat.add_mul_mod_self_left])]
  · obtain rfl : i = a.length := by omega
    refine spQ (ai @h @bz_Ref1) ?_
    refine he _ _ ?_
    refine spQ @bz_Ref1 ?_
    try simp only [Sv, ↓reduceIte, Nat.reduceEqDiff]
    refine vm_reg (fun K hK => ?_)
    refine smQ @bz_Ref1 ?_
    refine clp_mk _ _ ?_ ?_ ?_ (cut0_spec (fl 256 (8 * a.length) (nv B (a.take a.length))) (by rw [fl_len]; omega)) ?_
    · simp (disch := (first | omega | assumption)) only [S1, ↓reduceIte, Nat.reduceEqDiff, Nat.reduceAdd, Nat.reduceMul, Nat.reduceDiv, AOp.sb, AOp.mut, frzf, ↓Bool.false_eq_true, beq_self_eq_true, ite_self, Nat.reduceLeDiff, Int.reduceEq, Int.reduceSub, Int.reduceAdd, Int.reduceNeg, Int.reduceLT, Int.reduceLE, Nat.reduceLT, bz_Ref1]
    · simp (disch := (first | omega | assumption)) only [S1, ↓reduceIte, Nat.reduceEqDiff, Nat.reduceAdd, Nat.reduceMul, Nat.reduceDiv, AOp.sb, AOp.mut, frzf, ↓Bool.false_eq_true, beq_self_eq_true, ite_self, Nat.reduceLeDiff, Int.reduceEq, Int.reduceSub, Int.reduceAdd, Int.reduceNeg, Int.reduceLT, Int.reduceLE, Nat.reduceLT, bz_Ref1]
    · first | rfl | (simp (disch := (first | omega | assumption)) only [S1, ↓reduceIte, Nat.reduceEqDiff, Nat.reduceAdd, Nat.reduceMul, Nat.reduceDiv, AOp.sb, AOp.mut, frzf, ↓Bool.false_eq_true, beq_self_eq_true, ite_self, Nat.reduceLeDiff, Int.reduceEq, Int.reduceSub, Int.reduceAdd, Int.reduceNeg, Int.reduceLT, Int.reduceLE, Nat.reduceLT, bz_Ref1])
    refine smQ @bz_Ref1 ?_
    refine hK _ ?_
    clear hK K
    try (refine hK _ ?_; clear hK K)
    refine spQ @bz_Ref1 ?_
    have e : tz (fl 256 (8 * a.length) (nv B (a.take a.length))) = dg 256 (nv B a) := by
      rw [List.take_length]
      exact dg_fl (by decide) (by rw [← B_256]; exact nv_lt ha)
    exact rtQ (ai @e @bz_Ref1)
def a76 : AC := .seq (.reg [qr 4 (.mv (.k (.i .i64 0)))])
 (.seq (.seq (.reg [qm 5 1,
 qm 6 0,
 qr 7 (.len (.t 6)),
 qr 8 (.bin .lss (.t 5) (.t 7))])
 (.cond (.t 8)
 (.seq (.reg [qm 9 0,
 qm 10 1,
 qr 11 (.idx 1 (.t 9) (.t 10)),
 qr 12 (.ld false 1 (.t 11)),
 qm 4 12])
 (.ret))
 (.skip)))
 (.seq (.reg [qr 4 (.mv (.k (.i .i64 0)))])
 (.ret)))
theorem dat_spec (a : List Nat) (i : Nat) : AFun Try.prog J0 76 [.l 1 (D a), .i .i64 i] (.i .i64 ((a.getD i 0 : Nat) : Int)) := by
  refine mkQ fol J0s Try.func76 a76 ?_
  unfold a76
  simp only [init_eq, initE, qm, qr, qn]
  by_cases h : (i : Int) < a.length
  · refine spQ (ai @D_get (ai @h @bz_Ref1)) ?_
    exact rtQ @bz_Ref1
  · refine spQ (ai @h @bz_Ref1) ?_
    refine rtO (ai @i_eq @bz_Ref1) ?_
    rw [List.getD_eq_getElem?_getD, List.getElem?_eq_none (by omega)]; rfl
def a63 : AC := .seq (.reg [qr 4 (.mv (.k (.i .i64 0)))])
 (.seq (.seq (.reg [qm 6 0,
 qr 7 (.len (.t 6)),
 qm 8 1,
 qr 9 (.len (.t 8)),
 qr 10 (.mm true (.t 7) (.t 9)),
 qr 11 (.bin .sub (.t 10) (.k (.i .i64 1))),
 qm 5 11])
 (.blk 0
 (.loop
 (.seq (.seq (.reg [qm 12 5,
 qr 13 (.bin .geq (.t 12) (.k (.i .i64 0)))])
 (.cond (.t 13)
 (.skip)
 (.exit 0)))
 (.seq (.blk 1
 (.seq (.reg [qm 16 0,
 qm 17 5,
 qr 18 (.call 76 [(1, (.t 16)), (1, (.t 17))]),
 qm 19 1,
 qm 20 5,
 qr 21 (.call 76 [(1, (.t 19)), (1, (.t 20))]),
 qr 22 (.bin .neq (.t 18) (.t 21))])
 (.cond (.t 22)
 (.seq (.seq (.reg [qm 23 0,
 qm 24 5,
 qr 25 (.call 76 [(1, (.t 23)), (1, (.t 24))]),
 qm 26 1,
 qm 27 5,
 qr 28 (.call 76 [(1, (.t 26)), (1, (.t 27))]),
 qr 29 (.bin .lss (.t 25) (.t 28))])
 (.cond (.t 29)
 (.seq (.reg [qr 4 (.mv (.k (.i .i64 (-1))))])
 (.ret))
 (.skip)))
 (.seq (.reg [qr 4 (.mv (.k (.i .i64 1)))])
 (.ret)))
 (.skip))))
 (.reg [qm 14 5,
 qr 15 (.bin .sub (.t 14) (.k (.i .i64 1))),
 qm 5 15]))))))
 (.seq (.reg [qr 4 (.mv (.k (.i .i64 0)))])
 (.ret)))
theorem dcmp_spec (a b : List Nat) (ha : Lt 256 a) (hb : Lt 256 b) (la : a.length ≤ 1099511627776) (lb : b.length ≤ 1099511627776) :
    AFun Try.prog J0 63 [.l 1 (D a), .l 1 (D b)] (.i .i64 (sg (nv 256 a) (nv 256 b))) := by
  refine mkQ fol J0s Try.func63 a63 ?_
  unfold a63
  simp only [init_eq, initE, qm, qr, qn]
  generalize hm : max a.length b.length = m
  refine spQ (ai @wi (ai @hm (ai @mx @bz_Ref1))) ?_
  refine vm_loop Nat (fun i => ⟨[(0, .l 1 (D a)), (1, .l 1 (D b)), (5, .i .i64 ((i : Int) - 1))], [], 0⟩)
    (fun i => i ≤ m ∧ ∀ j, i ≤ j → a.getD j 0 = b.getD j 0) (fun i => i) m [] ⟨Nat.le_refl _, fun j hj => by rw [List.getD_eq_getElem?_getD, List.getD_eq_getElem?_getD, List.getElem?_eq_none (by omega), List.getElem?_eq_none (by omega)]⟩ (by exact leQ) ?_
  intro i ⟨hi, hj⟩ Q' hQ he hr
  by_cases h : (0 : Int) ≤ (i : Int) - 1
  · obtain ⟨n, rfl⟩ : ∃ n, i = n + 1 := ⟨i - 1, by omega⟩
    have e : ((n + 1 : Nat) : Int) - 1 = (n : Int) := by omega
    have h : (0 : Int) ≤ (n : Int) := by omega
    simp only [e]
    refine spQ (ai @h @bz_Ref1) ?_
    try simp only [Sv, ↓reduceIte, Nat.reduceEqDiff]
    refine vm_reg (fun K hK => ?_)
    refine smQ @bz_Ref1 ?_
    refine clp_mk _ _ ?_ ?_ ?_ (dat_spec a n) ?_
    · simp (disch := (first | omega | assumption)) only [S1, ↓reduceIte, Nat.reduceEqDiff, Nat.reduceAdd, Nat.reduceMul, Nat.reduceDiv, AOp.sb, AOp.mut, frzf, ↓Bool.false_eq_true, beq_self_eq_true, ite_self, Nat.reduceLeDiff, Int.reduceEq, Int.reduceSub, Int.reduceAdd, Int.reduceNeg, Int.reduceLT, Int.reduceLE, Nat.reduceLT, bz_Ref1]
    · simp (disch := (first | omega | assumption)) only [S1, ↓reduceIte, Nat.reduceEqDiff, Nat.reduceAdd, Nat.reduceMul, Nat.reduceDiv, AOp.sb, AOp.mut, frzf, ↓Bool.false_eq_true, beq_self_eq_true, ite_self, Nat.reduceLeDiff, Int.reduceEq, Int.reduceSub, Int.reduceAdd, Int.reduceNeg, Int.reduceLT, Int.reduceLE, Nat.reduceLT, bz_Ref1]
    · first | rfl | (simp (disch := (first | omega | assumption)) only [S1, ↓reduceIte, Nat.reduceEqDiff, Nat.reduceAdd, Nat.reduceMul, Nat.reduceDiv, AOp.sb, AOp.mut, frzf, ↓Bool.false_eq_true, beq_self_eq_true, ite_self, Nat.reduceLeDiff, Int.reduceEq, Int.reduceSub, Int.reduceAdd, Int.reduceNeg, Int.reduceLT, Int.reduceLE, Nat.reduceLT, bz_Ref1])
    refine smQ @bz_Ref1 ?_
    refine clp_mk _ _ ?_ ?_ ?_ (dat_spec b n) ?_
    · simp (disch := (first | omega | assumption)) only [S1, ↓reduceIte, Nat.reduceEqDiff, Nat.reduceAdd, Nat.reduceMul, Nat.reduceDiv, AOp.sb, AOp.mut, frzf, ↓Bool.false_eq_true, beq_self_eq_true, ite_self, Nat.reduceLeDiff, Int.reduceEq, Int.reduceSub, Int.reduceAdd, Int.reduceNeg, Int.reduceLT, Int.reduceLE, Nat.reduceLT, bz_Ref1]
    · simp (disch := (first | omega | assumption)) only [S1, ↓reduceIte, Nat.reduceEqDiff, Nat.reduceAdd, Nat.reduceMul, Nat.reduceDiv, AOp.sb, AOp.mut, frzf, ↓Bool.false_eq_true, beq_self_eq_true, ite_self, Nat.reduceLeDiff, Int.reduceEq, Int.reduceSub, Int.reduceAdd, Int.reduceNeg, Int.reduceLT, Int.reduceLE, Nat.reduceLT, bz_Ref1]
    · first | rfl | (simp (disch := (first | omega | assumption)) only [S1, ↓reduceIte, Nat.reduceEqDiff, Nat.reduceAdd, Nat.reduceMul, Nat.reduceDiv, AOp.sb, AOp.mut, frzf, ↓Bool.false_eq_true, beq_self_eq_true, ite_self, Nat.reduceLeDiff, Int.reduceEq, Int.reduceSub, Int.reduceAdd, Int.reduceNeg, Int.reduceLT, Int.reduceLE, Nat.reduceLT, bz_Ref1])
    by_cases h1 : ((a.getD n 0 : Nat) : Int) = ((b.getD n 0 : Nat) : Int)
    · have hj' : ∀ j, n ≤ j → a.getD j 0 = b.getD j 0 := fun j h3 => by
        rcases Nat.lt_or_ge n j with h4 | h4
        · exact hj j h4
        · obtain rfl : j = n := by omega
          omega
      refine smQ (ai @h1 @bz_Ref1) ?_
      refine hK _ ?_
      clear hK K
      try (refine hK _ ?_; clear hK K)
      refine spQ (ai @wi @bz_Ref1) ?_
      exact hQ _ n [] ⟨by omega, hj'⟩ (by omega) (by exact leQ)
    · have c1 := (nv_eq_of (B := 256) (n + 1) hj).1
      have c2 := (nv_eq_of (B := 256) (n + 1) hj).2
      refine smQ (ai @h1 @bz_Ref1) ?_
      refine hK _ ?_
      clear hK K
      try (refine hK _ ?_; clear hK K)
      refine spQ @bz_Ref1 ?_
      try simp only [Sv, ↓reduceIte, Nat.reduceEqDiff]
      refine vm_reg (fun K hK => ?_)
      refine smQ @bz_Ref1 ?_
      refine clp_mk _ _ ?_ ?_ ?_ (dat_spec a n) ?_
      · simp (disch := (first | omega | assumption)) only [S1, ↓reduceIte, Nat.reduceEqDiff, Nat.reduceAdd, Nat.reduceMul, Nat.reduceDiv, AOp.sb, AOp.mut, frzf, ↓Bool.false_eq_true, beq_self_eq_true, ite_self, Nat.reduceLeDiff, Int.reduceEq, Int.reduceSub, Int.reduceAdd, Int.reduceNeg, Int.reduceLT, Int.reduceLE, Nat.reduceLT, bz_Ref1]
      · simp (disch := (first | omega | assumption)) only [S1, ↓reduceIte, Nat.reduceEqDiff, Nat.reduceAdd, Nat.reduceMul, Nat.reduceDiv, AOp.sb, AOp.mut, frzf, ↓Bool.false_eq_true, beq_self_eq_true, ite_self, Nat.reduceLeDiff, Int.reduceEq, Int.reduceSub, Int.reduceAdd, Int.reduceNeg, Int.reduceLT, Int.reduceLE, Nat.reduceLT, bz_Ref1]
      · first | rfl | (simp (disch := (first | omega | assumption)) only [S1, ↓reduceIte, Nat.reduceEqDiff, Nat.reduceAdd, Nat.reduceMul, Nat.reduceDiv, AOp.sb, AOp.mut, frzf, ↓Bool.false_eq_true, beq_self_eq_true, ite_self, Nat.reduceLeDiff, Int.reduceEq, Int.reduceSub, Int.reduceAdd, Int.reduceNeg, Int.reduceLT, Int.reduceLE, Nat.reduceLT, bz_Ref1])
      refine smQ @bz_Ref1 ?_
      refine clp_mk _ _ ?_ ?_ ?_ (dat_spec b n) ?_
      · simp (disch := (first | omega | assumption)) only [S1, ↓reduceIte, Nat.reduceEqDiff, Nat.reduceAdd, Nat.reduceMul, Nat.reduceDiv, AOp.sb, AOp.mut, frzf, ↓Bool.false_eq_true, beq_self_eq_true, ite_self, Nat.reduceLeDiff, Int.reduceEq, Int.reduceSub, Int.reduceAdd, Int.reduceNeg, Int.reduceLT, Int.reduceLE, Nat.reduceLT, bz_Ref1]
      · simp (disch := (first | omega | assumption)) only [S1, ↓reduceIte, Nat.reduceEqDiff, Nat.reduceAdd, Nat.reduceMul, Nat.reduceDiv, AOp.sb, AOp.mut, frzf, ↓Bool.false_eq_true, beq_self_eq_true, ite_self, Nat.reduceLeDiff, Int.reduceEq, Int.reduceSub, Int.reduceAdd, Int.reduceNeg, Int.reduceLT, Int.reduceLE, Nat.reduceLT, bz_Ref1]
      · first | rfl | (simp (disch := (first | omega | assumption)) only [S1, ↓reduceIte, Nat.reduceEqDiff, Nat.reduceAdd, Nat.reduceMul, Nat.reduceDiv, AOp.sb, AOp.mut, frzf, ↓Bool.false_eq_true, beq_self_eq_true, ite_self, Nat.reduceLeDiff, Int.reduceEq, Int.reduceSub, Int.reduceAdd, Int.reduceNeg, Int.reduceLT, Int.reduceLE, Nat.reduceLT, bz_Ref1])
      refine smQ @bz_Ref1 ?_
      refine hK _ ?_
      clear hK K
      by_cases h2 : ((a.getD n 0 : Nat) : Int) < ((b.getD n 0 : Nat) : Int)
      · simp only [h2, decide_true, decide_false]
        try (refine hK _ ?_; clear hK K)
        refine spQ @bz_Ref1 ?_
        refine hr _ ?_
        have c3 := cmp_lt (b := 256) (by decide) ha hb n (by omega)
        have c4 : nv 256 a < nv 256 b := c1.1 c3
        refine rtO (ai @i_eq @bz_Ref1) ?_
        simp [sg, c4]
      · simp only [h2, decide_true, decide_false]
        try (refine hK _ ?_; clear hK K)
        refine spQ @bz_Ref1 ?_
        refine hr _ ?_
        have c3 := cmp_lt (b := 256) (by decide) hb ha n (by omega)
        have c4 : ¬ nv 256 a < nv 256 b := fun h => by have := c1.2 h; omega
        have c5 : ¬ nv 256 a = nv 256 b := fun h => by have := c2.2 h; omega
        refine rtO (ai @i_eq @bz_Ref1) ?_
        simp [sg, c4, c5]
  · obtain rfl : i = 0 := by omega
    try (refine hK _ ?_; clear hK K)
    refine spQ (ai @h @bz_Ref1) ?_
    refine he _ _ ?_
    try (refine hK _ ?_; clear hK K)
    refine spQ @bz_Ref1 ?_
    have c2 := (nv_eq_of (B := 256) 0 hj).2.1 rfl
    refine rtO (ai @i_eq @bz_Ref1) ?_
    simp [sg, c2]
end Go.Proofs.Ytdaedplbhpiacaa
namespace Go.Proofs.Ytdaedplbhpiacaa
open Go Go.RowKit Ab
set_option linter.unusedSimpArgs false
set_option linter.unusedVariables false
set_option maxHeartbeats 10000000
theorem bz_Ref2 : type_of% (And.intro @W_len (And.intro @D_len (And.intro @Nat.div_one (And.intro @Nat.mul_one (And.intro @tn_nat (And.intro @W_nf (And.intro @D_nf (And.intro @W_nil (@D_nil))))))))) := And.intro @W_len (And.intro @D_len (And.intro @Nat.div_one (And.intro @Nat.mul_one (And.intro @tn_nat (And.intro @W_nf (And.intro @D_nf (And.intro @W_nil (@D_nil))))))))
def a40 : AC := .seq (.reg [qr 2 (.mv (.k .nl))])
 (.seq (.reg [qm 7 0,
 qr 8 (.call 61 [(1, (.t 7))]),
 qm 0 8])
 (.seq (.reg [qr 3 (.mv (.k .nl))])
 (.seq (.seq (.reg [qr 4 (.mv (.k (.i .i64 0)))])
 (.blk 0
 (.loop
 (.seq (.seq (.reg [qm 9 4,
 qm 10 0,
 qr 11 (.len (.t 10)),
 qr 12 (.bin .lss (.t 9) (.t 11))])
 (.cond (.t 12)
 (.skip)
 (.exit 0)))
 (.seq (.blk 1
 (.seq (.reg [qr 5 (.mv (.k (.i .u64 0)))])
 (.seq (.seq (.reg [qr 6 (.mv (.k (.i .i64 7)))])
 (.blk 2
 (.loop
 (.seq (.seq (.reg [qm 15 6,
 qr 16 (.bin .geq (.t 15) (.k (.i .i64 0)))])
 (.cond (.t 16)
 (.skip)
 (.exit 2)))
 (.seq (.blk 3
 (.seq (.reg [qm 19 5,
 qr 20 (.bin .mul (.t 19) (.k (.i .u64 256))),
 qm 5 20])
 (.seq (.reg [qm 21 4,
 qm 22 6,
 qr 23 (.bin .add (.t 21) (.t 22)),
 qm 24 0,
 qr 25 (.len (.t 24)),
 qr 26 (.bin .lss (.t 23) (.t 25))])
 (.cond (.t 26)
 (.reg [qm 27 5,
 qm 28 0,
 qm 29 4,
 qm 30 6,
 qr 31 (.bin .add (.t 29) (.t 30)),
 qr 32 (.idx 1 (.t 28) (.t 31)),
 qr 33 (.ld false 1 (.t 32)),
 qr 34 (.cvt .u64 (.t 33)),
 qr 35 (.bin .add (.t 27) (.t 34)),
 qm 5 35])
 (.skip)))))
 (.reg [qm 17 6,
 qr 18 (.bin .sub (.t 17) (.k (.i .i64 1))),
 qm 6 18]))))))
 (.reg [qm 36 3,
 qm 37 5,
 qr 38 (.bsl 24 1 1 [(.i .u64 0)] [(0, (.t 37))]),
 qr 39 (.app 24 1 8 (.t 36) (.t 38)),
 qm 3 39]))))
 (.reg [qm 13 4,
 qr 14 (.bin .add (.t 13) (.k (.i .i64 8))),
 qm 4 14]))))))
 (.seq (.reg [qm 40 3,
 qm 2 40])
 (.ret)))))
theorem of_spec (d : List Nat) (hd : Lt 256 d) (ld : d.length ≤ 1099511627776) : AFun Try.prog J0 40 [.l 1 (D d)] (.o 24 1 (W (dg B (nv 256 d)))) := by
  refine mkQ fol J0s Try.func40 a40 ?_
  unfold a40
  simp only [init_eq, initE, qm, qr, qn]
  obtain ⟨t, ht⟩ : ∃ t, t = tz d := ⟨_, rfl⟩
  have lt : t.length ≤ 1099511627776 := by rw [ht]; exact Nat.le_trans (tz_len d) ld
  have hl : Lt 256 t := by rw [ht]; exact Lt_tz hd
  refine spQ @bz_Ref2 ?_
  try simp only [Sv, ↓reduceIte, Nat.reduceEqDiff]
  refine vm_reg (fun K hK => ?_)
  refine smQ @bz_Ref2 ?_
  refine clp_mk _ _ ?_ ?_ ?_ (cut0_spec d (by omega)) ?_
  · simp (disch := (first | omega | assumption)) only [S1, ↓reduceIte, Nat.reduceEqDiff, Nat.reduceAdd, Nat.reduceMul, Nat.reduceDiv, AOp.sb, AOp.mut, frzf, ↓Bool.false_eq_true, beq_self_eq_true, ite_self, Nat.reduceLeDiff, Int.reduceEq, Int.reduceSub, Int.reduceAdd, Int.reduceNeg, Int.reduceLT, Int.reduceLE, Nat.reduceLT, bz_Ref2]
  · simp (disch := (first | omega | assumption)) only [S1, ↓reduceIte, Nat.reduceEqDiff, Nat.reduceAdd, Nat.reduceMul, Nat.reduceDiv, AOp.sb, AOp.mut, frzf, ↓Bool.false_eq_true, beq_self_eq_true, ite_self, Nat.reduceLeDiff, Int.reduceEq, Int.reduceSub, Int.reduceAdd, Int.reduceNeg, Int.reduceLT, Int.reduceLE, Nat.reduceLT, bz_Ref2]
  · first | rfl | (simp (disch := (first | omega | assumption)) only [S1, ↓reduceIte, Nat.reduceEqDiff, Nat.reduceAdd, Nat.reduceMul, Nat.reduceDiv, AOp.sb, AOp.mut, frzf, ↓Bool.false_eq_true, beq_self_eq_true, ite_self, Nat.reduceLeDiff, Int.reduceEq, Int.reduceSub, Int.reduceAdd, Int.reduceNeg, Int.reduceLT, Int.reduceLE, Nat.reduceLT, bz_Ref2])
  simp only [← ht]
  refine smQ @bz_Ref2 ?_
  refine hK _ ?_
  clear hK K
  obtain ⟨v, hv⟩ : ∃ v, v = nv 256 t := ⟨_, rfl⟩
  try (refine hK _ ?_; clear hK K)
  refine spQ @bz_Ref2 ?_
  refine vm_loopM [(3, 24, 1)] Nat (fun i => ⟨[(0, .l 1 (D t)), (3, .ow 1 0 i), (4, .i .i64 ((8 * i : Nat) : Int))], [(0, some ⟨24, 1, W (fl B i v), true, false⟩)], 1⟩)
    (fun i => 8 * i < t.length + 8) (fun i => t.length + 8 - 8 * i) 0 [(0, 6)] (by omega) (by exact leQ) (by
    simp (disch := (first | omega | assumption)) only [Sl, Sa, Sw, ↓reduceIte, Nat.reduceEqDiff, Nat.reduceLT, List.all_nil, List.all_cons, Nat.reduceBneDiff, Nat.reduceAdd, bne_iff_ne, ne_eq, reduceCtorEq, not_false_eq_true, not_true_eq_false, Bool.and_true, Bool.true_and, and_true, true_and, and_self, i_eq]
    exact ⟨rfl, rfl⟩) ?_
  intro i hi Q' hQ he hr
  by_cases h : ((8 * i : Nat) : Int) < t.length
  · obtain ⟨w, hw⟩ : ∃ w, w = v / B ^ i % B := ⟨_, rfl⟩
    have hwl : w < 18446744073709551616 := by rw [hw]; exact Nat.mod_lt _ B0
    try (refine hK _ ?_; clear hK K)
    refine spQ (ai @h @bz_Ref2) ?_
    refine vm_loop Nat (fun k => ⟨[(0, .l 1 (D t)), (3, .ow 1 0 i), (4, .i .i64 ((8 * i : Nat) : Int)), (5, .i .u64 ((w / 256 ^ k : Nat) : Int)), (6, .i .i64 ((k : Int) - 1))], [(0, some ⟨24, 1, W (fl B i v), true, false⟩)], 1⟩)
      (fun k => k ≤ 8) (fun k => k) 8 [] (by omega) (by
      simp (disch := (first | omega | assumption)) only [Sl, Sa, Sw, ↓reduceIte, Nat.reduceEqDiff, Nat.reduceLT, List.all_nil, List.all_cons, Nat.reduceBneDiff, Nat.reduceAdd, bne_iff_ne, ne_eq, reduceCtorEq, not_false_eq_true, not_true_eq_false, Bool.and_true, Bool.true_and, and_true, true_and, and_self, i_eq]
      exact ⟨by rw [Nat.div_eq_of_lt hwl]; rfl, rfl⟩) ?_
    intro k hk Q'' hQ' he' hr'
    by_cases h1 : (0 : Int) ≤ (k : Int) - 1
    · obtain ⟨n, rfl⟩ : ∃ n, k = n + 1 := ⟨k - 1, by omega⟩
      have e : ((n + 1 : Nat) : Int) - 1 = (n : Int) := by omega
      have h1 : (0 : Int) ≤ (n : Int) := by omega
      have dig : t.getD (8 * i + n) 0 = w / 256 ^ n % 256 := by
        rw [nv_digit (b := 256) (by decide) hl, hw, ← hv, Nat.pow_add, ← Nat.div_div_eq_div_mul, ← B_256]
        rw [show B = 256 ^ n * 256 ^ (8 - n) from by rw [← Nat.pow_add, show n + (8 - n) = 8 from by omega]; rfl, Nat.mod_mul_right_div_self]
        rw [show 256 ^ (8 - n) = 256 * 256 ^ (7 - n) from by rw [Nat.mul_comm, ← Nat.pow_succ]; congr 1; omega, Nat.mod_mul_right_mod]
      have hx : w / 256 ^ n < 18446744073709551616 := Nat.lt_of_le_of_lt (Nat.div_le_self _ _) hwl
      obtain ⟨x, hx0⟩ : ∃ x, x = w / 256 ^ n := ⟨_, rfl⟩
      rw [Nat.pow_succ, ← Nat.div_div_eq_div_mul, ← hx0]
      rw [← hx0] at dig hx
      simp only [e]
      by_cases h2 : ((8 * i : Nat) : Int) + (n : Int) < t.length
      · have tn : (((8 * i : Nat) : Int) + (n : Int)).toNat = 8 * i + n := by omega
        try (refine hK _ ?_; clear hK K)
        refine spQ (ai @wu (ai @D_get (ai @wi (ai @h2 (ai @h1 @bz_Ref2))))) ?_
        refine hQ' _ n [] (by omega) (by omega) ?_
        rw [tn, dig, wu (n := ((x % 256 : Nat) : Int)) (by omega), wu (by omega)]
        simp (disch := (first | omega | assumption)) only [Sl, Sa, Sw, ↓reduceIte, Nat.reduceEqDiff, Nat.reduceLT, List.all_nil, List.all_cons, Nat.reduceBneDiff, Nat.reduceAdd, bne_iff_ne, ne_eq, reduceCtorEq, not_false_eq_true, not_true_eq_false, Bool.and_true, Bool.true_and, and_true, true_and, and_self, i_eq]
        rw [← hx0]; omega
      · rw [List.getD_eq_getElem?_getD, List.getElem?_eq_none (by omega)] at dig
        try (refine hK _ ?_; clear hK K)
        refine spQ (ai @wu (ai @wi (ai @h2 (ai @h1 @bz_Ref2)))) ?_
        refine hQ' _ n [] (by omega) (by omega) ?_
        simp (disch := (first | omega | assumption)) only [Sl, Sa, Sw, ↓reduceIte, Nat.reduceEqDiff, Nat.reduceLT, List.all_nil, List.all_cons, Nat.reduceBneDiff, Nat.reduceAdd, bne_iff_ne, ne_eq, reduceCtorEq, not_false_eq_true, not_true_eq_false, Bool.and_true, Bool.true_and, and_true, true_and, and_self, i_eq]
        rw [← hx0]; simp at dig; omega
    · obtain rfl : k = 0 := by omega
      try (refine hK _ ?_; clear hK K)
      refine spQ (ai @h1 @bz_Ref2) ?_
      refine he' _ _ ?_
      try (refine hK _ ?_; clear hK K)
      refine spQ (ai @W_app1 (ai @wi @bz_Ref2)) ?_
      refine hQ _ (i + 1) [(0, 6)] (by omega) (by omega) ?_
      simp (disch := (first | omega | assumption)) only [Sl, Sa, Sw, ↓reduceIte, Nat.reduceEqDiff, Nat.reduceLT, List.all_nil, List.all_cons, Nat.reduceBneDiff, Nat.reduceAdd, bne_iff_ne, ne_eq, reduceCtorEq, not_false_eq_true, not_true_eq_false, Bool.and_true, Bool.true_and, and_true, true_and, and_self, i_eq]
      exact ⟨by omega, by rw [fl_succ, ← hw]; try simp⟩
  · try (refine hK _ ?_; clear hK K)
    refine spQ (ai @h @bz_Ref2) ?_
    refine he _ _ ?_
    try (refine hK _ ?_; clear hK K)
    refine spQ @bz_Ref2 ?_
    have e : fl B i v = dg B (nv 256 d) := by
      have e0 : nv 256 d = v := by rw [hv, ht, nv_tz]
      have h1 := nv_lt hl
      have h2 : 256 ^ t.length ≤ 256 ^ (8 * i) := Nat.pow_le_pow_right (by decide) (by omega)
      rw [e0]
      refine fl_full B2 ?_ (by rw [B_256, hv]; omega)
      rcases Nat.eq_zero_or_pos i with h0 | h0
      · exact .inl h0
      · refine .inr ?_
        have h3 : t ≠ [] := fun h4 => by rw [h4] at hi; simp at hi; omega
        have h4 := nv_top (b := 256) (by rw [ht, tz_tz] : tz t = t) h3
        rw [B_256, hv]
        exact Nat.le_trans (Nat.pow_le_pow_right (by decide) (by omega)) h4
    exact rtQ (ai @e @bz_Ref2)
end Go.Proofs.Ytdaedplbhpiacaa
namespace Go.Proofs.Ytdaedplbhpiacaa
open Go Go.RowKit Ab
set_option linter.unusedSimpArgs false
set_option linter.unusedVariables false
set_option maxHeartbeats 10000000
theorem bz_Ref3 : type_of% (And.intro @W_len (And.intro @D_len (And.intro @Nat.div_one (And.intro @Nat.mul_one (And.intro @tn_nat (And.intro @W_nf (And.intro @D_nf (And.intro @W_nil (@D_nil))))))))) := And.intro @W_len (And.intro @D_len (And.intro @Nat.div_one (And.intro @Nat.mul_one (And.intro @tn_nat (And.intro @W_nf (And.intro @D_nf (And.intro @W_nil (@D_nil))))))))
def a62 : AC := .seq (.reg [qr 4 (.mv (.k .nl))])
 (.seq (.reg [qr 5 (.mv (.k .nl))])
 (.seq (.reg [qr 6 (.mv (.k (.i .i64 0)))])
 (.seq (.seq (.reg [qr 7 (.mv (.k (.i .i64 0)))])
 (.blk 0
 (.loop
 (.seq (.seq (.reg [qm 9 7,
 qm 10 0,
 qr 11 (.len (.t 10)),
 qr 12 (.bin .lss (.t 9) (.t 11)),
 qm 13 12,
 ⟨some 14, some (13, false), .mv (.t 7)⟩,
 ⟨some 15, some (13, false), .mv (.t 1)⟩,
 ⟨some 16, some (13, false), .len (.t 15)⟩,
 ⟨some 17, some (13, false), .bin .lss (.t 14) (.t 16)⟩,
 qr 18 (.pick (.t 13) (.k (.b true)) (.t 17)),
 qm 19 18,
 ⟨some 20, some (19, false), .mv (.t 6)⟩,
 ⟨some 21, some (19, false), .bin .gtr (.t 20) (.k (.i .i64 0))⟩,
 qr 22 (.pick (.t 19) (.k (.b true)) (.t 21))])
 (.cond (.t 22)
 (.skip)
 (.exit 0)))
 (.seq (.blk 1
 (.seq (.reg [qm 25 0,
 qm 26 7,
 qr 27 (.call 76 [(1, (.t 25)), (1, (.t 26))]),
 qm 28 1,
 qm 29 7,
 qr 30 (.call 76 [(1, (.t 28)), (1, (.t 29))]),
 qr 31 (.bin .add (.t 27) (.t 30)),
 qm 32 6,
 qr 33 (.bin .add (.t 31) (.t 32)),
 qm 8 33])
 (.seq (.reg [qm 34 5,
 qm 35 8,
 qr 36 (.bin .rem (.t 35) (.k (.i .i64 256))),
 qr 37 (.bsl 3 1 1 [(.i .i64 0)] [(0, (.t 36))]),
 qr 38 (.app 3 1 8 (.t 34) (.t 37)),
 qm 5 38])
 (.reg [qm 39 8,
 qr 40 (.bin .quo (.t 39) (.k (.i .i64 256))),
 qm 6 40]))))
 (.reg [qm 23 7,
 qr 24 (.bin .add (.t 23) (.k (.i .i64 1))),
 qm 7 24]))))))
 (.seq (.reg [qm 41 5,
 qm 4 41])
 (.ret)))))
def addn (x y : List Nat) : Nat := if (nv 256 x + nv 256 y) / 256 ^ (max x.length y.length) = 0 then max x.length y.length else max x.length y.length + 1
theorem dadd_spec (x y : List Nat) (hx : Lt 256 x) (hy : Lt 256 y) (lx : x.length ≤ 1000000000000) (ly : y.length ≤ 1000000000000) :
    AFun Try.prog J0 62 [.l 1 (D x), .l 1 (D y)] (.o 3 1 (D (fl 256 (addn x y) (nv 256 x + nv 256 y)))) := by
  refine mkQ fol J0s Try.func62 a62 ?_
  unfold a62
  simp only [init_eq, initE, qm, qr, qn]
  generalize hm : max x.length y.length = m
  have han : addn x y = if (nv 256 x + nv 256 y) / 256 ^ m = 0 then m else m + 1 := by unfold addn; rw [hm]
  refine spQ @bz_Ref3 ?_
  refine vm_loopM [(5, 3, 1)] Nat (fun i => ⟨[(0, .l 1 (D x)), (1, .l 1 (D y)), (5, .ow 1 0 i), (6, .i .i64 (((nv 256 (x.take i) + nv 256 (y.take i)) / 256 ^ i : Nat) : Int)), (7, .i .i64 (i : Int))], [(0, some ⟨3, 1, D (fl 256 i (nv 256 (x.take i) + nv 256 (y.take i))), true, false⟩)], 1⟩)
    (fun i => i ≤ m + 1 ∧ (i = m + 1 → (nv 256 x + nv 256 y) / 256 ^ m ≠ 0)) (fun i => m + 1 - i) 0 [(0, 4)] ⟨by omega, by omega⟩ (by exact leQ) (by
    simp (disch := (first | omega | assumption)) only [Sl, Sa, Sw, ↓reduceIte, Nat.reduceEqDiff, Nat.reduceLT, List.all_nil, List.all_cons, Nat.reduceBneDiff, Nat.reduceAdd, bne_iff_ne, ne_eq, reduceCtorEq, not_false_eq_true, not_true_eq_false, Bool.and_true, Bool.true_and, and_true, true_and, and_self, i_eq]
    exact ⟨⟨by simp [nv], rfl⟩, rfl⟩) ?_
  intro i ⟨hi, hi2⟩ Q' hQ he hr
  generalize hc : (nv 256 (x.take i) + nv 256 (y.take i)) / 256 ^ i = c
  have hcB : c ≤ 1 := by
    have h1 := nv_take_lt (b := 256) (by decide) hx i
    have h2 := nv_take_lt (b := 256) (by decide) hy i
    rw [← hc]
    exact Nat.le_of_lt_succ ((Nat.div_lt_iff_lt_mul (Nat.pow_pos (by decide))).2 (by omega))
  have gx := Lt_get hx (by decide : 0 < 256) i
  have gy := Lt_get hy (by decide : 0 < 256) i
  obtain ⟨n, hn⟩ : ∃ n, n = x.getD i 0 + y.getD i 0 + c := ⟨_, rfl⟩
  have hs : ((x.getD i 0 : Nat) : Int) + ((y.getD i 0 : Nat) : Int) + (c : Int) = (n : Int) := by omega
  obtain ⟨s1, s2, s3⟩ := add_step (b := 256) (P := 256 ^ i) (A := nv 256 (x.take i)) (Y := nv 256 (y.take i)) (x := x.getD i 0) (y := y.getD i 0) (Nat.pow_pos (by decide)) (by decide)
  rw [hc, ← hn] at s1 s3
  have full : m ≤ i → c = (nv 256 x + nv 256 y) / 256 ^ i := fun h => by
    rw [← hc, List.take_of_length_le (by omega), List.take_of_length_le (by omega)]
  have small : nv 256 x + nv 256 y < 256 ^ (m + 1) := by
    have h1 := nv_lt hx
    have h2 := nv_lt hy
    have h3 : 256 ^ x.length ≤ 256 ^ m := Nat.pow_le_pow_right (by decide) (by omega)
    have h4 : 256 ^ y.length ≤ 256 ^ m := Nat.pow_le_pow_right (by decide) (by omega)
    rw [Nat.pow_succ]; omega
  by_cases h1 : (i : Int) < x.length
  · refine spQ (ai @h1 @bz_Ref3) ?_
    try simp only [Sv, ↓reduceIte, Nat.reduceEqDiff]
    refine vm_reg (fun K hK => ?_)
    refine smQ @bz_Ref3 ?_
    refine clp_mk _ _ ?_ ?_ ?_ (dat_spec x i) ?_
    · simp (disch := (first | omega | assumption)) only [S1, ↓reduceIte, Nat.reduceEqDiff, Nat.reduceAdd, Nat.reduceMul, Nat.reduceDiv, AOp.sb, AOp.mut, frzf, ↓Bool.false_eq_true, beq_self_eq_true, ite_self, Nat.reduceLeDiff, Int.reduceEq, Int.reduceSub, Int.reduceAdd, Int.reduceNeg, Int.reduceLT, Int.reduceLE, Nat.reduceLT, bz_Ref3]
    · simp (disch := (first | omega | assumption)) only [S1, ↓reduceIte, Nat.reduceEqDiff, Nat.reduceAdd, Nat.reduceMul, Nat.reduceDiv, AOp.sb, AOp.mut, frzf, ↓Bool.false_eq_true, beq_self_eq_true, ite_self, Nat.reduceLeDiff, Int.reduceEq, Int.reduceSub, Int.reduceAdd, Int.reduceNeg, Int.reduceLT, Int.reduceLE, Nat.reduceLT, bz_Ref3]
    · first | rfl | (simp (disch := (first | omega | assumption)) only [S1, ↓reduceIte, Nat.reduceEqDiff, Nat.reduceAdd, Nat.reduceMul, Nat.reduceDiv, AOp.sb, AOp.mut, frzf, ↓Bool.false_eq_true, beq_self_eq_true, ite_self, Nat.reduceLeDiff, Int.reduceEq, Int.reduceSub, Int.reduceAdd, Int.reduceNeg, Int.reduceLT, Int.reduceLE, Nat.reduceLT, bz_Ref3])
    refine smQ @bz_Ref3 ?_
    refine clp_mk _ _ ?_ ?_ ?_ (dat_spec y i) ?_
    · simp (disch := (first | omega | assumption)) only [S1, ↓reduceIte, Nat.reduceEqDiff, Nat.reduceAdd, Nat.reduceMul, Nat.reduceDiv, AOp.sb, AOp.mut, frzf, ↓Bool.false_eq_true, beq_self_eq_true, ite_self, Nat.reduceLeDiff, Int.reduceEq, Int.reduceSub, Int.reduceAdd, Int.reduceNeg, Int.reduceLT, Int.reduceLE, Nat.reduceLT, bz_Ref3]
    · simp (disch := (first | omega | assumption)) only [S1, ↓reduceIte, Nat.reduceEqDiff, Nat.reduceAdd, Nat.reduceMul, Nat.reduceDiv, AOp.sb, AOp.mut, frzf, ↓Bool.false_eq_true, beq_self_eq_true, ite_self, Nat.reduceLeDiff, Int.reduceEq, Int.reduceSub, Int.reduceAdd, Int.reduceNeg, Int.reduceLT, Int.reduceLE, Nat.reduceLT, bz_Ref3]
    · first | rfl | (simp (disch := (first | omega | assumption)) only [S1, ↓reduceIte, Nat.reduceEqDiff, Nat.reduceAdd, Nat.reduceMul, Nat.reduceDiv, AOp.sb, AOp.mut, frzf, ↓Bool.false_eq_true, beq_self_eq_true, ite_self, Nat.reduceLeDiff, Int.reduceEq, Int.reduceSub, Int.reduceAdd, Int.reduceNeg, Int.reduceLT, Int.reduceLE, Nat.reduceLT, bz_Ref3])
    refine smQ (ai @hs (ai @wi @bz_Ref3)) ?_
    refine hK _ ?_
    clear hK K
    try (refine hK _ ?_; clear hK K)
    refine spQ (ai @D_cat1 (ai @wi (ai @tdiv_256 (ai @tmod_256 @bz_Ref3)))) ?_
    refine hQ _ (i + 1) [(0, 29)] ⟨by omega, by omega⟩ (by omega) ?_
    simp (disch := (first | omega | assumption)) only [Sl, Sa, Sw, ↓reduceIte, Nat.reduceEqDiff, Nat.reduceLT, List.all_nil, List.all_cons, Nat.reduceBneDiff, Nat.reduceAdd, bne_iff_ne, ne_eq, reduceCtorEq, not_false_eq_true, not_true_eq_false, Bool.and_true, Bool.true_and, and_true, true_and, and_self, i_eq]
    refine ⟨⟨?_, by omega⟩, ?_⟩
    · rw [nv_take_succ', nv_take_succ', Nat.pow_succ, s3]
    · rw [nv_take_succ', nv_take_succ', fl_succ, fl_congr (by decide) s2, s1]
  · by_cases h2 : (i : Int) < y.length
    · try (refine hK _ ?_; clear hK K)
      refine spQ (ai @h2 (ai @h1 @bz_Ref3)) ?_
      try simp only [Sv, ↓reduceIte, Nat.reduceEqDiff]
      refine vm_reg (fun K hK => ?_)
      refine smQ @bz_Ref3 ?_
      refine clp_mk _ _ ?_ ?_ ?_ (dat_spec x i) ?_
      · simp (disch := (first | omega | assumption)) only [S1, ↓reduceIte, Nat.reduceEqDiff, Nat.reduceAdd, Nat.reduceMul, Nat.reduceDiv, AOp.sb, AOp.mut, frzf, ↓Bool.false_eq_true, beq_self_eq_true, ite_self, Nat.reduceLeDiff, Int.reduceEq, Int.reduceSub, Int.reduceAdd, Int.reduceNeg, Int.reduceLT, Int.reduceLE, Nat.reduceLT, bz_Ref3]
      · simp (disch := (first | omega | assumption)) only [S1, ↓reduceIte, Nat.reduceEqDiff, Nat.reduceAdd, Nat.reduceMul, Nat.reduceDiv, AOp.sb, AOp.mut, frzf, ↓Bool.false_eq_true, beq_self_eq_true, ite_self, Nat.reduceLeDiff, Int.reduceEq, Int.reduceSub, Int.reduceAdd, Int.reduceNeg, Int.reduceLT, Int.reduceLE, Nat.reduceLT, bz_Ref3]
      · first | rfl | (simp (disch := (first | omega | assumption)) only [S1, ↓reduceIte, Nat.reduceEqDiff, Nat.reduceAdd, Nat.reduceMul, Nat.reduceDiv, AOp.sb, AOp.mut, frzf, ↓Bool.false_eq_true, beq_self_eq_true, ite_self, Nat.reduceLeDiff, Int.reduceEq, Int.reduceSub, Int.reduceAdd, Int.reduceNeg, Int.reduceLT, Int.reduceLE, Nat.reduceLT, bz_Ref3])
      refine smQ @bz_Ref3 ?_
      refine clp_mk _ _ ?_ ?_ ?_ (dat_spec y i) ?_
      · simp (disch := (first | omega | assumption)) only [S1, ↓reduceIte, Nat.reduceEqDiff, Nat.reduceAdd, Nat.reduceMul, Nat.reduceDiv, AOp.sb, AOp.mut, frzf, ↓Bool.false_eq_true, beq_self_eq_true, ite_self, Nat.reduceLeDiff, Int.reduceEq, Int.reduceSub, Int.reduceAdd, Int.reduceNeg, Int.reduceLT, Int.reduceLE, Nat.reduceLT, bz_Ref3]
      · simp (disch := (first | omega | assumption)) only [S1, ↓reduceIte, Nat.reduceEqDiff, Nat.reduceAdd, Nat.reduceMul, Nat.reduceDiv, AOp.sb, AOp.mut, frzf, ↓Bool.false_eq_true, beq_self_eq_true, ite_self, Nat.reduceLeDiff, Int.reduceEq, Int.reduceSub, Int.reduceAdd, Int.reduceNeg, Int.reduceLT, Int.reduceLE, Nat.reduceLT, bz_Ref3]
      · first | rfl | (simp (disch := (first | omega | assumption)) only [S1, ↓reduceIte, Nat.reduceEqDiff, Nat.reduceAdd, Nat.reduceMul, Nat.reduceDiv, AOp.sb, AOp.mut, frzf, ↓Bool.false_eq_true, beq_self_eq_true, ite_self, Nat.reduceLeDiff, Int.reduceEq, Int.reduceSub, Int.reduceAdd, Int.reduceNeg, Int.reduceLT, Int.reduceLE, Nat.reduceLT, bz_Ref3])
      refine smQ (ai @hs (ai @wi @bz_Ref3)) ?_
      refine hK _ ?_
      clear hK K
      try (refine hK _ ?_; clear hK K)
      refine spQ (ai @D_cat1 (ai @wi (ai @tdiv_256 (ai @tmod_256 @bz_Ref3)))) ?_
      refine hQ _ (i + 1) [(0, 29)] ⟨by omega, by omega⟩ (by omega) ?_
      simp (disch := (first | omega | assumption)) only [Sl, Sa, Sw, ↓reduceIte, Nat.reduceEqDiff, Nat.reduceLT, List.all_nil, List.all_cons, Nat.reduceBneDiff, Nat.reduceAdd, bne_iff_ne, ne_eq, reduceCtorEq, not_false_eq_true, not_true_eq_false, Bool.and_true, Bool.true_and, and_true, true_and, and_self, i_eq]
      refine ⟨⟨?_, by omega⟩, ?_⟩
      · rw [nv_take_succ', nv_take_succ', Nat.pow_succ, s3]
      · rw [nv_take_succ', nv_take_succ', fl_succ, fl_congr (by decide) s2, s1]
    · by_cases h3 : (0 : Int) < c
      · have hne : i ≠ m + 1 := fun h => by
          have := full (by omega)
          rw [h, Nat.div_eq_of_lt small] at this
          omega
        try (refine hK _ ?_; clear hK K)
        refine spQ (ai @h3 (ai @h2 (ai @h1 @bz_Ref3))) ?_
        try simp only [Sv, ↓reduceIte, Nat.reduceEqDiff]
        refine vm_reg (fun K hK => ?_)
        refine smQ @bz_Ref3 ?_
        refine clp_mk _ _ ?_ ?_ ?_ (dat_spec x i) ?_
        · simp (disch := (first | omega | assumption)) only [S1, ↓reduceIte, Nat.reduceEqDiff, Nat.reduceAdd, Nat.reduceMul, Nat.reduceDiv, AOp.sb, AOp.mut, frzf, ↓Bool.false_eq_true, beq_self_eq_true, ite_self, Nat.reduceLeDiff, Int.reduceEq, Int.reduceSub, Int.reduceAdd, Int.reduceNeg, Int.reduceLT, Int.reduceLE, Nat.reduceLT, bz_Ref3]
        · simp (disch := (first | omega | assumption)) only [S1, ↓reduceIte, Nat.reduceEqDiff, Nat.reduceAdd, Nat.reduceMul, Nat.reduceDiv, AOp.sb, AOp.mut, frzf, ↓Bool.false_eq_true, beq_self_eq_true, ite_self, Nat.reduceLeDiff, Int.reduceEq, Int.reduceSub, Int.reduceAdd, Int.reduceNeg, Int.reduceLT, Int.reduceLE, Nat.reduceLT, bz_Ref3]
        · first | rfl | (simp (disch := (first | omega | assumption)) only [S1, ↓reduceIte, Nat.reduceEqDiff, Nat.reduceAdd, Nat.reduceMul, Nat.reduceDiv, AOp.sb, AOp.mut, frzf, ↓Bool.false_eq_true, beq_self_eq_true, ite_self, Nat.reduceLeDiff, Int.reduceEq, Int.reduceSub, Int.reduceAdd, Int.reduceNeg, Int.reduceLT, Int.reduceLE, Nat.reduceLT, bz_Ref3])
        refine smQ @bz_Ref3 ?_
        refine clp_mk _ _ ?_ ?_ ?_ (dat_spec y i) ?_
        · simp (disch := (first | omega | assumption)) only [S1, ↓reduceIte, Nat.reduceEqDiff, Nat.reduceAdd, Nat.reduceMul, Nat.reduceDiv, AOp.sb, AOp.mut, frzf, ↓Bool.false_eq_true, beq_self_eq_true, ite_self, Nat.reduceLeDiff, Int.reduceEq, Int.reduceSub, Int.reduceAdd, Int.reduceNeg, Int.reduceLT, Int.reduceLE, Nat.reduceLT, bz_Ref3]
        · simp (disch := (first | omega | assumption)) only [S1, ↓reduceIte, Nat.reduceEqDiff, Nat.reduceAdd, Nat.reduceMul, Nat.reduceDiv, AOp.sb, AOp.mut, frzf, ↓Bool.false_eq_true, beq_self_eq_true, ite_self, Nat.reduceLeDiff, Int.reduceEq, Int.reduceSub, Int.reduceAdd, Int.reduceNeg, Int.reduceLT, Int.reduceLE, Nat.reduceLT, bz_Ref3]
        · first | rfl | (simp (disch := (first | omega | assumption)) only [S1, ↓reduceIte, Nat.reduceEqDiff, Nat.reduceAdd, Nat.reduceMul, Nat.reduceDiv, AOp.sb, AOp.mut, frzf, ↓Bool.false_eq_true, beq_self_eq_true, ite_self, Nat.reduceLeDiff, Int.reduceEq, Int.reduceSub, Int.reduceAdd, Int.reduceNeg, Int.reduceLT, Int.reduceLE, Nat.reduceLT, bz_Ref3])
        refine smQ (ai @hs (ai @wi @bz_Ref3)) ?_
        refine hK _ ?_
        clear hK K
        try (refine hK _ ?_; clear hK K)
        refine spQ (ai @D_cat1 (ai @wi (ai @tdiv_256 (ai @tmod_256 @bz_Ref3)))) ?_
        refine hQ _ (i + 1) [(0, 29)] ⟨by omega, fun h => by have := full (by omega); rw [show m = i from by omega, ← this]; omega⟩ (by omega) ?_
        simp (disch := (first | omega | assumption)) only [Sl, Sa, Sw, ↓reduceIte, Nat.reduceEqDiff, Nat.reduceLT, List.all_nil, List.all_cons, Nat.reduceBneDiff, Nat.reduceAdd, bne_iff_ne, ne_eq, reduceCtorEq, not_false_eq_true, not_true_eq_false, Bool.and_true, Bool.true_and, and_true, true_and, and_self, i_eq]
        refine ⟨⟨?_, by omega⟩, ?_⟩
        · rw [nv_take_succ', nv_take_succ', Nat.pow_succ, s3]
        · rw [nv_take_succ', nv_take_succ', fl_succ, fl_congr (by decide) s2, s1]
      · try (refine hK _ ?_; clear hK K)
        refine spQ (ai @h3 (ai @h2 (ai @h1 @bz_Ref3))) ?_
        refine he _ _ ?_
        try (refine hK _ ?_; clear hK K)
        refine spQ @bz_Ref3 ?_
        have e : fl 256 i (nv 256 (x.take i) + nv 256 (y.take i)) = fl 256 (addn x y) (nv 256 x + nv 256 y) := by
          rw [List.take_of_length_le (by omega), List.take_of_length_le (by omega), han]
          have h4 := full (by omega)
          congr 1
          split
          · rename_i h5
            rcases Nat.lt_or_ge m i with h6 | h6
            · exact absurd h5 (hi2 (by omega))
            · omega
          · rename_i h5
            rcases Nat.lt_or_ge m i with h6 | h6
            · omega
            · exfalso; apply h5; rw [show m = i from by omega, ← h4]; omega
        exact rtQ (ai @e @bz_Ref3)
end Go.Proofs.Ytdaedplbhpiacaa
namespace Go.Proofs.Ytdaedplbhpiacaa
open Go Go.RowKit Ab
set_option linter.unusedSimpArgs false
set_option linter.unusedVariables false
set_option maxHeartbeats 10000000
theorem bz_Ref4 : type_of% (And.intro @W_len (And.intro @D_len (And.intro @Nat.div_one (And.intro @Nat.mul_one (And.intro @tn_nat (And.intro @W_nf (And.intro @D_nf (And.intro @W_nil (@D_nil))))))))) := And.intro @W_len (And.intro @D_len (And.intro @Nat.div_one (And.intro @Nat.mul_one (And.intro @tn_nat (And.intro @W_nf (And.intro @D_nf (And.intro @W_nil (@D_nil))))))))
theorem D2 : 2 ≤ 256 := by decide
theorem dg256_len {a : List Nat} (ha : Wd a) : (dg 256 (nv B a)).length ≤ 8 * a.length := dg_len D2 (by rw [← B_256]; exact nv_lt ha)
theorem sg_lt {x y : Nat} : (sg x y < 0) = (x < y) := by
  unfold sg
  split
  · rename_i h; simp [h]
  · rename_i h
    split <;> simp [h]
def a22 : AC := .seq (.reg [qr 4 (.mv (.k (.b false)))])
 (.seq (.seq (.reg [qm 6 0,
 qr 7 (.len (.t 6)),
 qm 8 1,
 qr 9 (.len (.t 8)),
 qr 10 (.bin .neq (.t 7) (.t 9))])
 (.cond (.t 10)
 (.seq (.reg [qr 4 (.mv (.k (.b false)))])
 (.ret))
 (.skip)))
 (.seq (.seq (.reg [qr 5 (.mv (.k (.i .i64 0)))])
 (.blk 0
 (.loop
 (.seq (.seq (.reg [qm 11 5,
 qm 12 0,
 qr 13 (.len (.t 12)),
 qr 14 (.bin .lss (.t 11) (.t 13))])
 (.cond (.t 14)
 (.skip)
 (.exit 0)))
 (.seq (.blk 1
 (.seq (.dreg [qm 17 0,
 qm 18 5,
 qr 19 (.idx 1 (.t 17) (.t 18)),
 qr 20 (.ld false 1 (.t 19)),
 qm 21 1,
 qm 22 5,
 qr 23 (.idx 1 (.t 21) (.t 22)),
 qr 24 (.ld false 1 (.t 23)),
 qr 25 (.bin .neq (.t 20) (.t 24))])
 (.cond (.t 25)
 (.seq (.reg [qr 4 (.mv (.k (.b false)))])
 (.ret))
 (.skip))))
 (.reg [qm 15 5,
 qr 16 (.bin .add (.t 15) (.k (.i .i64 1))),
 qm 5 16]))))))
 (.seq (.reg [qr 4 (.mv (.k (.b true)))])
 (.ret))))
theorem same_spec (a b : List Nat) (la : a.length ≤ 9223372036854775807) (lb : b.length ≤ 9223372036854775807) :
    AFun Try.prog J0 22 [.l 1 (W a), .l 1 (W b)] (.b (decide (a = b))) := by
  refine mkQ fol J0s Try.func22 a22 ?_
  unfold a22
  simp only [init_eq, initE, qm, qr, qn]
  by_cases h : (a.length : Int) = (b.length : Int)
  · refine spQ (ai @h @bz_Ref4) ?_
    refine vm_loop Nat (fun i => ⟨[(0, .l 1 (W a)), (1, .l 1 (W b)), (5, .i .i64 (i : Int))], [], 0⟩) (fun i => i ≤ a.length ∧ ∀ j, j < i → a.getD j 0 = b.getD j 0) (fun i => a.length - i) 0 [] ⟨by omega, by omega⟩ (by
      simp (disch := (first | omega | assumption)) only [Sl, Sa, Sw, ↓reduceIte, Nat.reduceEqDiff, Nat.reduceLT, List.all_nil, List.all_cons, Nat.reduceBneDiff, Nat.reduceAdd, bne_iff_ne, ne_eq, reduceCtorEq, not_false_eq_true, not_true_eq_false, Bool.and_true, Bool.true_and, and_true, true_and, and_self, i_eq]
      rfl) ?_
    intro i ⟨hi, hj⟩ Q' hQ he hr
    by_cases h1 : (i : Int) < a.length
    · refine spQ (ai @h1 @bz_Ref4) ?_
      by_cases h2 : ((a.getD i 0 : Nat) : Int) = ((b.getD i 0 : Nat) : Int)
      · refine spQ (ai @wi (ai @h2 (ai @W_get @bz_Ref4))) ?_
        refine hQ _ (i + 1) [] ⟨by omega, fun j h3 => ?_⟩ (by omega) ?_
        · rcases Nat.lt_or_ge j i with h4 | h4
          · exact hj j h4
          · obtain rfl : j = i := by omega
            omega
        · simp (disch := (first | omega | assumption)) only [Sl, Sa, Sw, ↓reduceIte, Nat.reduceEqDiff, Nat.reduceLT, List.all_nil, List.all_cons, Nat.reduceBneDiff, Nat.reduceAdd, bne_iff_ne, ne_eq, reduceCtorEq, not_false_eq_true, not_true_eq_false, Bool.and_true, Bool.true_and, and_true, true_and, and_self, i_eq]
          omega
      · refine spQ (ai @h2 (ai @W_get @bz_Ref4)) ?_
        refine spQ @bz_Ref4 ?_
        refine hr _ ?_
        have e : ¬ a = b := fun h => h2 (by rw [h])
        exact rtQ (ai @e @bz_Ref4)
    · refine spQ (ai @h1 @bz_Ref4) ?_
      refine he _ _ ?_
      refine spQ @bz_Ref4 ?_
      have e : a = b := by
        refine List.ext_getElem (by omega) fun n h3 h4 => ?_
        have := hj n (by omega)
        simpa [List.getD_eq_getElem?_getD, h3, h4] using this
      exact rtQ (ai @e @bz_Ref4)
  · refine spQ (ai @h @bz_Ref4) ?_
    have e : ¬ a = b := fun h' => h (by rw [h'])
    exact rtQ (ai @e @bz_Ref4)
def a24 : AC := .seq (.reg [qr 2 (.mv (.k .nl))])
 (.seq (.reg [qm 3 0,
 qr 4 (.call 36 [(1, (.t 3))]),
 qr 5 (.call 40 [(1, (.t 4))]),
 qm 2 5])
 (.ret))
theorem rnorm_spec (a : List Nat) (ha : Wd a) (la : a.length ≤ 100000000000) : AFun Try.prog J0 24 [.l 1 (W a)] (.o 24 1 (W (dg B (nv B a)))) := by
  refine mkQ fol J0s Try.func24 a24 ?_
  unfold a24
  simp only [init_eq, initE, qm, qr, qn]
  have hl := dg256_len ha
  have e := nv_dg D2 (nv B a)
  refine spQ @bz_Ref4 ?_
  try simp only [Sv, ↓reduceIte, Nat.reduceEqDiff]
  refine vm_reg (fun K hK => ?_)
  refine smQ @bz_Ref4 ?_
  refine clp_mk _ _ ?_ ?_ ?_ (digits_spec a ha la) ?_
  · simp (disch := (first | omega | assumption)) only [S1, ↓reduceIte, Nat.reduceEqDiff, Nat.reduceAdd, Nat.reduceMul, Nat.reduceDiv, AOp.sb, AOp.mut, frzf, ↓Bool.false_eq_true, beq_self_eq_true, ite_self, Nat.reduceLeDiff, Int.reduceEq, Int.reduceSub, Int.reduceAdd, Int.reduceNeg, Int.reduceLT, Int.reduceLE, Nat.reduceLT, bz_Ref4]
  · simp (disch := (first | omega | assumption)) only [S1, ↓reduceIte, Nat.reduceEqDiff, Nat.reduceAdd, Nat.reduceMul, Nat.reduceDiv, AOp.sb, AOp.mut, frzf, ↓Bool.false_eq_true, beq_self_eq_true, ite_self, Nat.reduceLeDiff, Int.reduceEq, Int.reduceSub, Int.reduceAdd, Int.reduceNeg, Int.reduceLT, Int.reduceLE, Nat.reduceLT, bz_Ref4]
  · first | rfl | (simp (disch := (first | omega | assumption)) only [S1, ↓reduceIte, Nat.reduceEqDiff, Nat.reduceAdd, Nat.reduceMul, Nat.reduceDiv, AOp.sb, AOp.mut, frzf, ↓Bool.false_eq_true, beq_self_eq_true, ite_self, Nat.reduceLeDiff, Int.reduceEq, Int.reduceSub, Int.reduceAdd, Int.reduceNeg, Int.reduceLT, Int.reduceLE, Nat.reduceLT, bz_Ref4])
  refine smQ @bz_Ref4 ?_
  refine clp_mk _ _ ?_ ?_ ?_ (of_spec (dg 256 (nv B a)) (dg_Lt (by decide) _) (by omega)) ?_
  · simp (disch := (first | omega | assumption)) only [S1, ↓reduceIte, Nat.reduceEqDiff, Nat.reduceAdd, Nat.reduceMul, Nat.reduceDiv, AOp.sb, AOp.mut, frzf, ↓Bool.false_eq_true, beq_self_eq_true, ite_self, Nat.reduceLeDiff, Int.reduceEq, Int.reduceSub, Int.reduceAdd, Int.reduceNeg, Int.reduceLT, Int.reduceLE, Nat.reduceLT, bz_Ref4]
  · simp (disch := (first | omega | assumption)) only [S1, ↓reduceIte, Nat.reduceEqDiff, Nat.reduceAdd, Nat.reduceMul, Nat.reduceDiv, AOp.sb, AOp.mut, frzf, ↓Bool.false_eq_true, beq_self_eq_true, ite_self, Nat.reduceLeDiff, Int.reduceEq, Int.reduceSub, Int.reduceAdd, Int.reduceNeg, Int.reduceLT, Int.reduceLE, Nat.reduceLT, bz_Ref4]
  · first | rfl | (simp (disch := (first | omega | assumption)) only [S1, ↓reduceIte, Nat.reduceEqDiff, Nat.reduceAdd, Nat.reduceMul, Nat.reduceDiv, AOp.sb, AOp.mut, frzf, ↓Bool.false_eq_true, beq_self_eq_true, ite_self, Nat.reduceLeDiff, Int.reduceEq, Int.reduceSub, Int.reduceAdd, Int.reduceNeg, Int.reduceLT, Int.reduceLE, Nat.reduceLT, bz_Ref4])
  refine smQ (ai @e @bz_Ref4) ?_
  refine hK _ ?_
  clear hK K
  try (refine hK _ ?_; clear hK K)
  refine spQ @bz_Ref4 ?_
  exact rtQ @bz_Ref4
def a43 : AC := .seq (.reg [qr 4 (.mv (.k (.i .i64 0)))])
 (.seq (.reg [qm 5 0,
 qr 6 (.call 36 [(1, (.t 5))]),
 qm 7 1,
 qr 8 (.call 36 [(1, (.t 7))]),
 qr 9 (.call 63 [(1, (.t 6)), (1, (.t 8))]),
 qm 4 9])
 (.ret))
theorem rcmp_spec (a b : List Nat) (ha : Wd a) (hb : Wd b) (la : a.length ≤ 100000000000) (lb : b.length ≤ 100000000000) :
    AFun Try.prog J0 43 [.l 1 (W a), .l 1 (W b)] (.i .i64 (sg (nv B a) (nv B b))) := by
  refine mkQ fol J0s Try.func43 a43 ?_
  unfold a43
  simp only [init_eq, initE, qm, qr, qn]
  have hla := dg256_len ha
  have hlb := dg256_len hb
  have ea := nv_dg D2 (nv B a)
  have eb := nv_dg D2 (nv B b)
  refine spQ @bz_Ref4 ?_
  try simp only [Sv, ↓reduceIte, Nat.reduceEqDiff]
  refine vm_reg (fun K hK => ?_)
  refine smQ @bz_Ref4 ?_
  refine clp_mk _ _ ?_ ?_ ?_ (digits_spec a ha la) ?_
  · simp (disch := (first | omega | assumption)) only [S1, ↓reduceIte, Nat.reduceEqDiff, Nat.reduceAdd, Nat.reduceMul, Nat.reduceDiv, AOp.sb, AOp.mut, frzf, ↓Bool.false_eq_true, beq_self_eq_true, ite_self, Nat.reduceLeDiff, Int.reduceEq, Int.reduceSub, Int.reduceAdd, Int.reduceNeg, Int.reduceLT, Int.reduceLE, Nat.reduceLT, bz_Ref4]
  · simp (disch := (first | omega | assumption)) only [S1, ↓reduceIte, Nat.reduceEqDiff, Nat.reduceAdd, Nat.reduceMul, Nat.reduceDiv, AOp.sb, AOp.mut, frzf, ↓Bool.false_eq_true, beq_self_eq_true, ite_self, Nat.reduceLeDiff, Int.reduceEq, Int.reduceSub, Int.reduceAdd, Int.reduceNeg, Int.reduceLT, Int.reduceLE, Nat.reduceLT, bz_Ref4]
  · first | rfl | (simp (disch := (first | omega | assumption)) only [S1, ↓reduceIte, Nat.reduceEqDiff, Nat.reduceAdd, Nat.reduceMul, Nat.reduceDiv, AOp.sb, AOp.mut, frzf, ↓Bool.false_eq_true, beq_self_eq_true, ite_self, Nat.reduceLeDiff, Int.reduceEq, Int.reduceSub, Int.reduceAdd, Int.reduceNeg, Int.reduceLT, Int.reduceLE, Nat.reduceLT, bz_Ref4])
  refine smQ @bz_Ref4 ?_
  refine clp_mk _ _ ?_ ?_ ?_ (digits_spec b hb lb) ?_
  · simp (disch := (first | omega | assumption)) only [S1, ↓reduceIte, Nat.reduceEqDiff, Nat.reduceAdd, Nat.reduceMul, Nat.reduceDiv, AOp.sb, AOp.mut, frzf, ↓Bool.false_eq_true, beq_self_eq_true, ite_self, Nat.reduceLeDiff, Int.reduceEq, Int.reduceSub, Int.reduceAdd, Int.reduceNeg, Int.reduceLT, Int.reduceLE, Nat.reduceLT, bz_Ref4]
  · simp (disch := (first | omega | assumption)) only [S1, ↓reduceIte, Nat.reduceEqDiff, Nat.reduceAdd, Nat.reduceMul, Nat.reduceDiv, AOp.sb, AOp.mut, frzf, ↓Bool.false_eq_true, beq_self_eq_true, ite_self, Nat.reduceLeDiff, Int.reduceEq, Int.reduceSub, Int.reduceAdd, Int.reduceNeg, Int.reduceLT, Int.reduceLE, Nat.reduceLT, bz_Ref4]
  · first | rfl | (simp (disch := (first | omega | assumption)) only [S1, ↓reduceIte, Nat.reduceEqDiff, Nat.reduceAdd, Nat.reduceMul, Nat.reduceDiv, AOp.sb, AOp.mut, frzf, ↓Bool.false_eq_true, beq_self_eq_true, ite_self, Nat.reduceLeDiff, Int.reduceEq, Int.reduceSub, Int.reduceAdd, Int.reduceNeg, Int.reduceLT, Int.reduceLE, Nat.reduceLT, bz_Ref4])
  refine smQ @bz_Ref4 ?_
  refine clp_mk _ _ ?_ ?_ ?_ (dcmp_spec (dg 256 (nv B a)) (dg 256 (nv B b)) (dg_Lt (by decide) _) (dg_Lt (by decide) _) (by omega) (by omega)) ?_
  · simp (disch := (first | omega | assumption)) only [S1, ↓reduceIte, Nat.reduceEqDiff, Nat.reduceAdd, Nat.reduceMul, Nat.reduceDiv, AOp.sb, AOp.mut, frzf, ↓Bool.false_eq_true, beq_self_eq_true, ite_self, Nat.reduceLeDiff, Int.reduceEq, Int.reduceSub, Int.reduceAdd, Int.reduceNeg, Int.reduceLT, Int.reduceLE, Nat.reduceLT, bz_Ref4]
  · simp (disch := (first | omega | assumption)) only [S1, ↓reduceIte, Nat.reduceEqDiff, Nat.reduceAdd, Nat.reduceMul, Nat.reduceDiv, AOp.sb, AOp.mut, frzf, ↓Bool.false_eq_true, beq_self_eq_true, ite_self, Nat.reduceLeDiff, Int.reduceEq, Int.reduceSub, Int.reduceAdd, Int.reduceNeg, Int.reduceLT, Int.reduceLE, Nat.reduceLT, bz_Ref4]
  · first | rfl | (simp (disch := (first | omega | assumption)) only [S1, ↓reduceIte, Nat.reduceEqDiff, Nat.reduceAdd, Nat.reduceMul, Nat.reduceDiv, AOp.sb, AOp.mut, frzf, ↓Bool.false_eq_true, beq_self_eq_true, ite_self, Nat.reduceLeDiff, Int.reduceEq, Int.reduceSub, Int.reduceAdd, Int.reduceNeg, Int.reduceLT, Int.reduceLE, Nat.reduceLT, bz_Ref4])
  refine smQ (ai @eb (ai @ea @bz_Ref4)) ?_
  refine hK _ ?_
  clear hK K
  try (refine hK _ ?_; clear hK K)
  refine spQ @bz_Ref4 ?_
  exact rtQ @bz_Ref4
def a41 : AC := .seq (.reg [qr 4 (.mv (.k .nl))])
 (.seq (.reg [qm 5 0,
 qr 6 (.call 36 [(1, (.t 5))]),
 qm 7 1,
 qr 8 (.call 36 [(1, (.t 7))]),
 qr 9 (.call 62 [(1, (.t 6)), (1, (.t 8))]),
 qr 10 (.call 40 [(1, (.t 9))]),
 qm 4 10])
 (.ret))
theorem radd_spec (a b : List Nat) (ha : Wd a) (hb : Wd b) (la : a.length ≤ 10000000000) (lb : b.length ≤ 10000000000) :
    AFun Try.prog J0 41 [.l 1 (W a), .l 1 (W b)] (.o 24 1 (W (dg B (nv B a + nv B b)))) := by
  refine mkQ fol J0s Try.func41 a41 ?_
  unfold a41
  simp only [init_eq, initE, qm, qr, qn]
  obtain ⟨x, hx⟩ : ∃ x, x = dg 256 (nv B a) := ⟨_, rfl⟩
  obtain ⟨y, hy⟩ : ∃ y, y = dg 256 (nv B b) := ⟨_, rfl⟩
  have hla := dg256_len ha
  have hlb := dg256_len hb
  have ea := nv_dg D2 (nv B a)
  have eb := nv_dg D2 (nv B b)
  have kx : Lt 256 x := by rw [hx]; exact dg_Lt (by decide) _
  have ky : Lt 256 y := by rw [hy]; exact dg_Lt (by decide) _
  rw [← hx] at hla ea
  rw [← hy] at hlb eb
  have hn : addn x y ≤ max x.length y.length + 1 := by unfold addn; split <;> omega
  have sm : nv 256 x + nv 256 y < 256 ^ addn x y := by
    unfold addn
    have h1 := nv_lt kx
    have h2 := nv_lt ky
    have h3 : 256 ^ x.length ≤ 256 ^ max x.length y.length := Nat.pow_le_pow_right (by decide) (by omega)
    have h4 : 256 ^ y.length ≤ 256 ^ max x.length y.length := Nat.pow_le_pow_right (by decide) (by omega)
    split
    · rename_i h
      rcases Nat.lt_or_ge (nv 256 x + nv 256 y) (256 ^ max x.length y.length) with h5 | h5
      · exact h5
      · have := (Nat.le_div_iff_mul_le (Nat.pow_pos (by decide : 0 < 256))).2 (by rw [Nat.one_mul]; exact h5 : 1 * 256 ^ max x.length y.length ≤ _)
        omega
    · rw [Nat.pow_succ]; omega
  have ev : nv 256 (fl 256 (addn x y) (nv 256 x + nv 256 y)) = nv B a + nv B b := by rw [nv_fl, Nat.mod_eq_of_lt sm, ea, eb]
  have lw : (fl 256 (addn x y) (nv 256 x + nv 256 y)).length = addn x y := fl_len _ _
  refine spQ @bz_Ref4 ?_
  try simp only [Sv, ↓reduceIte, Nat.reduceEqDiff]
  refine vm_reg (fun K hK => ?_)
  refine smQ @bz_Ref4 ?_
  refine clp_mk _ _ ?_ ?_ ?_ (digits_spec a ha (by omega)) ?_
  · simp (disch := (first | omega | assumption)) only [S1, ↓reduceIte, Nat.reduceEqDiff, Nat.reduceAdd, Nat.reduceMul, Nat.reduceDiv, AOp.sb, AOp.mut, frzf, ↓Bool.false_eq_true, beq_self_eq_true, ite_self, Nat.reduceLeDiff, Int.reduceEq, Int.reduceSub, Int.reduceAdd, Int.reduceNeg, Int.reduceLT, Int.reduceLE, Nat.reduceLT, bz_Ref4]
  · simp (disch := (first | omega | assumption)) only [S1, ↓reduceIte, Nat.reduceEqDiff, Nat.reduceAdd, Nat.reduceMul, Nat.reduceDiv, AOp.sb, AOp.mut, frzf, ↓Bool.false_eq_true, beq_self_eq_true, ite_self, Nat.reduceLeDiff, Int.reduceEq, Int.reduceSub, Int.reduceAdd, Int.reduceNeg, Int.reduceLT, Int.reduceLE, Nat.reduceLT, bz_Ref4]
  · first | rfl | (simp (disch := (first | omega | assumption)) only [S1, ↓reduceIte, Nat.reduceEqDiff, Nat.reduceAdd, Nat.reduceMul, Nat.reduceDiv, AOp.sb, AOp.mut, frzf, ↓Bool.false_eq_true, beq_self_eq_true, ite_self, Nat.reduceLeDiff, Int.reduceEq, Int.reduceSub, Int.reduceAdd, Int.reduceNeg, Int.reduceLT, Int.reduceLE, Nat.reduceLT, bz_Ref4])
  simp only [← hx]
  refine smQ @bz_Ref4 ?_
  refine clp_mk _ _ ?_ ?_ ?_ (digits_spec b hb (by omega)) ?_
  · simp (disch := (first | omega | assumption)) only [S1, ↓reduceIte, Nat.reduceEqDiff, Nat.reduceAdd, Nat.reduceMul, Nat.reduceDiv, AOp.sb, AOp.mut, frzf, ↓Bool.false_eq_true, beq_self_eq_true, ite_self, Nat.reduceLeDiff, Int.reduceEq, Int.reduceSub, Int.reduceAdd, Int.reduceNeg, Int.reduceLT, Int.reduceLE, Nat.reduceLT, bz_Ref4]
  · simp (disch := (first | omega | assumption)) only [S1, ↓reduceIte, Nat.reduceEqDiff, Nat.reduceAdd, Nat.reduceMul, Nat.reduceDiv, AOp.sb, AOp.mut, frzf, ↓Bool.false_eq_true, beq_self_eq_true, ite_self, Nat.reduceLeDiff, Int.reduceEq, Int.reduceSub, Int.reduceAdd, Int.reduceNeg, Int.reduceLT, Int.reduceLE, Nat.reduceLT, bz_Ref4]
  · first | rfl | (simp (disch := (first | omega | assumption)) only [S1, ↓reduceIte, Nat.reduceEqDiff, Nat.reduceAdd, Nat.reduceMul, Nat.reduceDiv, AOp.sb, AOp.mut, frzf, ↓Bool.false_eq_true, beq_self_eq_true, ite_self, Nat.reduceLeDiff, Int.reduceEq, Int.reduceSub, Int.reduceAdd, Int.reduceNeg, Int.reduceLT, Int.reduceLE, Nat.reduceLT, bz_Ref4])
  simp only [← hy]
  refine smQ @bz_Ref4 ?_
  refine clp_mk _ _ ?_ ?_ ?_ (dadd_spec x y kx ky (by omega) (by omega)) ?_
  · simp (disch := (first | omega | assumption)) only [S1, ↓reduceIte, Nat.reduceEqDiff, Nat.reduceAdd, Nat.reduceMul, Nat.reduceDiv, AOp.sb, AOp.mut, frzf, ↓Bool.false_eq_true, beq_self_eq_true, ite_self, Nat.reduceLeDiff, Int.reduceEq, Int.reduceSub, Int.reduceAdd, Int.reduceNeg, Int.reduceLT, Int.reduceLE, Nat.reduceLT, bz_Ref4]
  · simp (disch := (first | omega | assumption)) only [S1, ↓reduceIte, Nat.reduceEqDiff, Nat.reduceAdd, Nat.reduceMul, Nat.reduceDiv, AOp.sb, AOp.mut, frzf, ↓Bool.false_eq_true, beq_self_eq_true, ite_self, Nat.reduceLeDiff, Int.reduceEq, Int.reduceSub, Int.reduceAdd, Int.reduceNeg, Int.reduceLT, Int.reduceLE, Nat.reduceLT, bz_Ref4]
  · first | rfl | (simp (disch := (first | omega | assumption)) only [S1, ↓reduceIte, Nat.reduceEqDiff, Nat.reduceAdd, Nat.reduceMul, Nat.reduceDiv, AOp.sb, AOp.mut, frzf, ↓Bool.false_eq_true, beq_self_eq_true, ite_self, Nat.reduceLeDiff, Int.reduceEq, Int.reduceSub, Int.reduceAdd, Int.reduceNeg, Int.reduceLT, Int.reduceLE, Nat.reduceLT, bz_Ref4])
  refine smQ @bz_Ref4 ?_
  refine clp_mk _ _ ?_ ?_ ?_ (of_spec (fl 256 (addn x y) (nv 256 x + nv 256 y)) (fl_Lt (by decide) _ _) (by omega)) ?_
  · simp (disch := (first | omega | assumption)) only [S1, ↓reduceIte, Nat.reduceEqDiff, Nat.reduceAdd, Nat.reduceMul, Nat.reduceDiv, AOp.sb, AOp.mut, frzf, ↓Bool.false_eq_true, beq_self_eq_true, ite_self, Nat.reduceLeDiff, Int.reduceEq, Int.reduceSub, Int.reduceAdd, Int.reduceNeg, Int.reduceLT, Int.reduceLE, Nat.reduceLT, bz_Ref4]
  · simp (disch := (first | omega | assumption)) only [S1, ↓reduceIte, Nat.reduceEqDiff, Nat.reduceAdd, Nat.reduceMul, Nat.reduceDiv, AOp.sb, AOp.mut, frzf, ↓Bool.false_eq_true, beq_self_eq_true, ite_self, Nat.reduceLeDiff, Int.reduceEq, Int.reduceSub, Int.reduceAdd, Int.reduceNeg, Int.reduceLT, Int.reduceLE, Nat.reduceLT, bz_Ref4]
  · first | rfl | (simp (disch := (first | omega | assumption)) only [S1, ↓reduceIte, Nat.reduceEqDiff, Nat.reduceAdd, Nat.reduceMul, Nat.reduceDiv, AOp.sb, AOp.mut, frzf, ↓Bool.false_eq_true, beq_self_eq_true, ite_self, Nat.reduceLeDiff, Int.reduceEq, Int.reduceSub, Int.reduceAdd, Int.reduceNeg, Int.reduceLT, Int.reduceLE, Nat.reduceLT, bz_Ref4])
  refine smQ (ai @ev @bz_Ref4) ?_
  refine hK _ ?_
  clear hK K
  try (refine hK _ ?_; clear hK K)
  refine spQ @bz_Ref4 ?_
  exact rtQ @bz_Ref4
end Go.Proofs.Ytdaedplbhpiacaa
namespace Go.Proofs.Ytdaedplbhpiacaa
open Go Go.RowKit Ab
set_option linter.unusedSimpArgs false
set_option linter.unusedVariables false
set_option maxHeartbeats 10000000
theorem bz_Ref6 : type_of% (And.intro @W_len (And.intro @D_len (And.intro @Nat.div_one (And.intro @Nat.mul_one (And.intro @tn_nat (And.intro @W_nf (And.intro @D_nf (And.intro @W_nil (And.intro @D_nil (@wi)))))))))) := And.intro @W_len (And.intro @D_len (And.intro @Nat.div_one (And.intro @Nat.mul_one (And.intro @tn_nat (And.intro @W_nf (And.intro @D_nf (And.intro @W_nil (And.intro @D_nil (@wi)))))))))
def Bl (a : List Nat) : List V := a.map fun x : Nat => .b (decide (x = 1))
theorem Bl_len (a : List Nat) : (Bl a).length = a.length := by simp [Bl]
theorem Bl_nil : Bl [] = [] := rfl
theorem Bl_get (a : List Nat) (i : Nat) (h : i < a.length) : (Bl a).getD i .un = .b (decide (a.getD i 0 = 1)) := by simp [Bl, List.getD_eq_getElem?_getD, h]
theorem Bl_take (a : List Nat) (i : Nat) : (Bl a).take i = Bl (a.take i) := by simp [Bl]
theorem Bl_nf (a : List Nat) : anyNF (Bl a) = false := by
  induction a with
  | nil => rfl
  | cons x r ih => simpa [Bl, anyNF, V.nf] using ih
theorem Bl_app1 (a : List Nat) (x : Nat) : Bl a ++ [V.b (decide (((x : Nat) : Int) = 1))] = Bl (a ++ [x]) := by
  have : decide (((x : Nat) : Int) = 1) = decide (x = 1) := by congr 1; simp only [eq_iff_iff]; omega
  rw [this]; simp [Bl]
theorem tmod_2 (a : Nat) : (a : Int).tmod 2 = ((a % 2 : Nat) : Int) := rfl
theorem tdiv_2 (a : Nat) : (a : Int).tdiv 2 = ((a / 2 : Nat) : Int) := rfl
theorem p256 (i : Nat) : 256 ^ i = 2 ^ (8 * i) := by rw [Nat.pow_mul]
theorem bit_of {l : List Nat} (h : Lt 2 l) (i : Nat) : l.getD i 0 = 0 ∨ l.getD i 0 = 1 := by have := Lt_get h (by decide) i; omega
def a37 : AC := .seq (.reg [qr 2 (.mv (.k .nl))])
 (.seq (.reg [qm 8 0,
 qr 9 (.call 36 [(1, (.t 8))]),
 qm 3 9])
 (.seq (.reg [qr 4 (.mv (.k .nl))])
 (.seq (.seq (.reg [qr 5 (.mv (.k (.i .i64 0)))])
 (.blk 0
 (.loop
 (.seq (.seq (.reg [qm 10 5,
 qm 11 3,
 qr 12 (.len (.t 11)),
 qr 13 (.bin .lss (.t 10) (.t 12))])
 (.cond (.t 13)
 (.skip)
 (.exit 0)))
 (.seq (.blk 1
 (.seq (.reg [qm 16 3,
 qm 17 5,
 qr 18 (.idx 1 (.t 16) (.t 17)),
 qr 19 (.ld false 1 (.t 18)),
 qm 6 19])
 (.seq (.reg [qr 7 (.mv (.k (.i .i64 0)))])
 (.blk 2
 (.loop
 (.seq (.seq (.reg [qm 20 7,
 qr 21 (.bin .lss (.t 20) (.k (.i .i64 8)))])
 (.cond (.t 21)
 (.skip)
 (.exit 2)))
 (.seq (.blk 3
 (.seq (.reg [qm 24 4,
 qm 25 6,
 qr 26 (.bin .rem (.t 25) (.k (.i .i64 2))),
 qr 27 (.bin .eql (.t 26) (.k (.i .i64 1))),
 qr 28 (.bsl 4 1 1 [(.b false)] [(0, (.t 27))]),
 qr 29 (.app 4 1 1 (.t 24) (.t 28)),
 qm 4 29])
 (.reg [qm 30 6,
 qr 31 (.bin .quo (.t 30) (.k (.i .i64 2))),
 qm 6 31])))
 (.reg [qm 22 7,
 qr 23 (.bin .add (.t 22) (.k (.i .i64 1))),
 qm 7 23]))))))))
 (.reg [qm 14 5,
 qr 15 (.bin .add (.t 14) (.k (.i .i64 1))),
 qm 5 15]))))))
 (.seq (.blk 4
 (.loop
 (.seq (.seq (.reg [qm 32 4,
 qr 33 (.len (.t 32)),
 qr 34 (.bin .gtr (.t 33) (.k (.i .i64 0))),
 qm 35 34,
 ⟨some 36, some (35, true), .mv (.t 4)⟩,
 ⟨some 37, some (35, true), .mv (.t 4)⟩,
 ⟨some 38, some (35, true), .len (.t 37)⟩,
 ⟨some 39, some (35, true), .bin .sub (.t 38) (.k (.i .i64 1))⟩,
 ⟨some 40, some (35, true), .idx 1 (.t 36) (.t 39)⟩,
 ⟨some 41, some (35, true), .ld false 1 (.t 40)⟩,
 ⟨some 42, some (35, true), .un .not (.t 41)⟩,
 qr 43 (.pick (.t 35) (.t 42) (.k (.b false)))])
 (.cond (.t 43)
 (.skip)
 (.exit 4)))
 (.blk 5
 (.reg [qm 44 4,
 qm 45 4,
 qr 46 (.len (.t 45)),
 qr 47 (.bin .sub (.t 46) (.k (.i .i64 1))),
 qr 48 (.sub 1 (.t 44) none (some (.t 47))),
 qm 4 48])))))
 (.seq (.reg [qm 49 4,
 qm 2 49])
 (.ret))))))
theorem row_spec (a : List Nat) (ha : Wd a) (la : a.length ≤ 10000000000) : AFun Try.prog J0 37 [.l 1 (W a)] (.l 1 (Bl (dg 2 (nv B a)))) := by
  refine mkQ fol J0s Try.func37 a37 ?_
  unfold a37
  simp only [init_eq, initE, qm, qr, qn]
  obtain ⟨d, hd⟩ : ∃ d, d = dg 256 (nv B a) := ⟨_, rfl⟩
  have hld := dg256_len ha
  have hdl : Lt 256 d := by rw [hd]; exact dg_Lt (by decide) _
  have hdv : nv 256 d = nv B a := by rw [hd, nv_dg D2]
  rw [← hd] at hld
  have hspec := digits_spec a ha (by omega)
  rw [← hd] at hspec
  rw [← hdv]
  refine wkQ (ai @Bl_nil (ai @Bl_nf (ai @Bl_len @bz_Ref6))) ?_
  refine vm_loopA [(4, 4, 1)] Nat (fun i => ⟨[(3, .l 1 (D d)), (4, .ow 1 0 (8 * i)), (5, .i .i64 (i : Int))], [(0, some ⟨4, 1, Bl (fl 2 (8 * i) (nv 256 (d.take i))), true, false⟩)], 1⟩)
    (fun i => i ≤ d.length) (fun i => d.length - i) 0 (Nat.zero_le _) (by exact leQ) (by
    exact ltQ) ?_
  intro i hi Q' hQ he hr
  by_cases h : (i : Int) < d.length
  · have hdi := Lt_get hdl (by decide) i
    refine spQ (ai @D_get (ai @h (ai @Bl_nil (ai @Bl_nf (ai @Bl_len @bz_Ref6))))) ?_
    refine vm_loopA [] Nat (fun k => ⟨[(3, .l 1 (D d)), (4, .ow 1 0 (8 * i + k)), (5, .i .i64 (i : Int)), (6, .i .i64 ((d.getD i 0 / 2 ^ k : Nat) : Int)), (7, .i .i64 (k : Int))], [(0, some ⟨4, 1, Bl (fl 2 (8 * i) (nv 256 (d.take i)) ++ fl 2 k (d.getD i 0)), true, false⟩)], 1⟩)
      (fun k => k ≤ 8) (fun k => 8 - k) 0 (Nat.zero_le _) (by exact leQ) (by
      simp (disch := (first | omega | assumption)) only [Sl, Sa, Sw, ↓reduceIte, Nat.reduceEqDiff, Nat.reduceLT, List.all_nil, List.all_cons, Nat.reduceBneDiff, Nat.reduceAdd, bne_iff_ne, ne_eq, reduceCtorEq, not_false_eq_true, not_true_eq_false, Bool.and_true, Bool.true_and, and_true, true_and, and_self, i_eq]
      simp [fl]) ?_
    intro k hk Q'' hQ' he' hr'
    by_cases h1 : (k : Int) < 8
    · have hq : d.getD i 0 / 2 ^ k < 256 := Nat.lt_of_le_of_lt (Nat.div_le_self _ _) hdi
      generalize hqq : d.getD i 0 / 2 ^ k = q at hq ⊢
      refine spQ (ai @Bl_app1 (ai @tdiv_2 (ai @tmod_2 (ai @h1 (ai @Bl_nil (ai @Bl_nf (ai @Bl_len @bz_Ref6))))))) ?_
      refine hQ' _ (k + 1) (by omega) (by omega) ?_
      simp (disch := (first | omega | assumption)) only [Sl, Sa, Sw, ↓reduceIte, Nat.reduceEqDiff, Nat.reduceLT, List.all_nil, List.all_cons, Nat.reduceBneDiff, Nat.reduceAdd, bne_iff_ne, ne_eq, reduceCtorEq, not_false_eq_true, not_true_eq_false, Bool.and_true, Bool.true_and, and_true, true_and, and_self, i_eq]
      exact ⟨⟨by omega, by rw [Nat.pow_succ, ← Nat.div_div_eq_div_mul, hqq], by omega⟩, by rw [fl_succ, hqq, List.append_assoc]⟩
    · obtain rfl : k = 8 := by omega
      refine spQ (ai @h1 (ai @Bl_nil (ai @Bl_nf (ai @Bl_len @bz_Ref6)))) ?_
      refine he' _ _ ?_
      refine spQ (ai @Bl_nil (ai @Bl_nf (ai @Bl_len @bz_Ref6))) ?_
      refine hQ _ (i + 1) (by omega) (by omega) ?_
      simp (disch := (first | omega | assumption)) only [Sl, Sa, Sw, ↓reduceIte, Nat.reduceEqDiff, Nat.reduceLT, List.all_nil, List.all_cons, Nat.reduceBneDiff, Nat.reduceAdd, bne_iff_ne, ne_eq, reduceCtorEq, not_false_eq_true, not_true_eq_false, Bool.and_true, Bool.true_and, and_true, true_and, and_self, i_eq]
      refine ⟨by omega, ?_⟩
      have hlt := nv_take_lt (b := 256) (by decide) hdl i
      rw [p256] at hlt
      rw [show 8 * (i + 1) = 8 * i + 8 from by omega, fl_add, nv_take_succ', p256, Nat.add_mul_div_left _ _ (Nat.pow_pos (by decide)), Nat.div_eq_of_lt hlt, Nat.zero_add,
        fl_congr (b := 2) (by decide) (n := 8 * i) (v := nv 256 (d.take i) + 2 ^ (8 * i) * d.getD i 0) (u := nv 256 (d.take i)) (by rw [Nat.add_mul_mod_self_left])]
  · obtain rfl : i = d.length := by omega
    refine spQ (ai @h (ai @Bl_nil (ai @Bl_nf (ai @Bl_len @bz_Ref6)))) ?_
    refine he _ _ ?_
    rw [List.take_length]
    obtain ⟨row, hrow⟩ : ∃ row, row = fl 2 (8 * d.length) (nv 256 d) := ⟨_, rfl⟩
    have hrl : row.length = 8 * d.length := by rw [hrow, fl_len]
    have hr2 : Lt 2 row := by rw [hrow]; exact fl_Lt (by decide) _ _
    have htz : tz row = dg 2 (nv 256 d) := by rw [hrow]; exact dg_fl (by decide) (by rw [← p256]; exact nv_lt hdl)
    rw [← hrow, ← hrl, ← htz]
    refine spQ (ai @Bl_nil (ai @Bl_nf (ai @Bl_len @bz_Ref6))) ?_
    refine vm_loopA [] Nat (fun m => ⟨[(4, .sl 1 0 0 m)], [(0, some ⟨4, 1, Bl row, true, false⟩)], 1⟩) (fun m => m ≤ row.length ∧ tz row = tz (row.take m)) (fun m => m) row.length ⟨Nat.le_refl _, by rw [List.take_length]⟩ (by exact leQ) (by exact leQ) ?_
    intro m ⟨hm, ht⟩ Q2 hQ2 he2 hr3
    by_cases h0 : 0 < (m : Int)
    · obtain ⟨k, rfl⟩ : ∃ k, m = k + 1 := ⟨m - 1, by omega⟩
      rcases bit_of hr2 k with hb | hb
      · have hb' : ¬ row.getD k 0 = 1 := by omega
        refine spQ (ai @Nat.zero_add (ai @Nat.add_sub_cancel (ai @tn_sub1 (ai @Bl_get (ai @hb' (ai @h0 (ai @Bl_nil (ai @Bl_nf (ai @Bl_len @bz_Ref6))))))))) ?_
        refine hQ2 _ k ⟨by omega, ?_⟩ (by omega) ?_
        · rw [ht]; exact tz_zero row k (by omega) hb
        · simp (disch := (first | omega | assumption)) only [Sl, Sa, Sw, ↓reduceIte, Nat.reduceEqDiff, Nat.reduceLT, List.all_nil, List.all_cons, Nat.reduceBneDiff, Nat.reduceAdd, bne_iff_ne, ne_eq, reduceCtorEq, not_false_eq_true, not_true_eq_false, Bool.and_true, Bool.true_and, and_true, true_and, and_self, i_eq]
          try omega
      · refine spQ (ai @Nat.zero_add (ai @Nat.add_sub_cancel (ai @tn_sub1 (ai @Bl_get (ai @hb (ai @h0 (ai @Bl_nil (ai @Bl_nf (ai @Bl_len @bz_Ref6))))))))) ?_
        refine he2 _ _ ?_
        have e := tz_take row
        rw [ht, tz_top row k (by omega) (by omega)] at e
        have e2 : row.take (k + 1) = tz row := by rw [ht]; exact e
        refine spQ (ai @Bl_nil (ai @Bl_nf (ai @Bl_len @bz_Ref6))) ?_
        refine rtO (ai @e2 (ai @Bl_take (ai @Bl_nil (ai @Bl_nf (ai @Bl_len @bz_Ref6))))) ?_
        omega
    · obtain rfl : m = 0 := by omega
      refine spQ (ai @h0 (ai @Bl_nil (ai @Bl_nf (ai @Bl_len @bz_Ref6)))) ?_
      refine he2 _ _ ?_
      refine spQ (ai @Bl_nil (ai @Bl_nf (ai @Bl_len @bz_Ref6))) ?_
      refine rtO (ai @Nat.zero_mul (ai @ht (ai @Bl_nil (ai @Bl_nf (ai @Bl_len @bz_Ref6))))) ?_
      exact ⟨Nat.zero_le _, rfl⟩
def a39 : AC := .seq (.reg [qr 2 (.mv (.k .nl))])
 (.seq (.reg [qr 3 (.mv (.k .nl))])
 (.seq (.seq (.reg [qr 4 (.mv (.k (.i .i64 0)))])
 (.blk 0
 (.loop
 (.seq (.seq (.reg [qm 7 4,
 qm 8 0,
 qr 9 (.len (.t 8)),
 qr 10 (.bin .lss (.t 7) (.t 9))])
 (.cond (.t 10)
 (.skip)
 (.exit 0)))
 (.seq (.blk 1
 (.seq (.reg [qr 5 (.mv (.k (.i .i64 0)))])
 (.seq (.seq (.reg [qr 6 (.mv (.k (.i .i64 7)))])
 (.blk 2
 (.loop
 (.seq (.seq (.reg [qm 13 6,
 qr 14 (.bin .geq (.t 13) (.k (.i .i64 0)))])
 (.cond (.t 14)
 (.skip)
 (.exit 2)))
 (.seq (.blk 3
 (.seq (.reg [qm 17 5,
 qr 18 (.bin .mul (.k (.i .i64 2)) (.t 17)),
 qm 5 18])
 (.seq (.reg [qm 19 4,
 qm 20 6,
 qr 21 (.bin .add (.t 19) (.t 20)),
 qm 22 0,
 qr 23 (.len (.t 22)),
 qr 24 (.bin .lss (.t 21) (.t 23)),
 qm 25 24,
 ⟨some 26, some (25, true), .mv (.t 0)⟩,
 ⟨some 27, some (25, true), .mv (.t 4)⟩,
 ⟨some 28, some (25, true), .mv (.t 6)⟩,
 ⟨some 29, some (25, true), .bin .add (.t 27) (.t 28)⟩,
 ⟨some 30, some (25, true), .idx 1 (.t 26) (.t 29)⟩,
 ⟨some 31, some (25, true), .ld false 1 (.t 30)⟩,
 qr 32 (.pick (.t 25) (.t 31) (.k (.b false)))])
 (.cond (.t 32)
 (.reg [qm 33 5,
 qr 34 (.bin .add (.t 33) (.k (.i .i64 1))),
 qm 5 34])
 (.skip)))))
 (.reg [qm 15 6,
 qr 16 (.bin .sub (.t 15) (.k (.i .i64 1))),
 qm 6 16]))))))
 (.reg [qm 35 3,
 qm 36 5,
 qr 37 (.bsl 3 1 1 [(.i .i64 0)] [(0, (.t 36))]),
 qr 38 (.app 3 1 8 (.t 35) (.t 37)),
 qm 3 38]))))
 (.reg [qm 11 4,
 qr 12 (.bin .add (.t 11) (.k (.i .i64 8))),
 qm 4 12]))))))
 (.seq (.reg [qm 39 3,
 qr 40 (.call 40 [(1, (.t 39))]),
 qm 2 40])
 (.ret))))
theorem ofRow_spec (l : List Nat) (hl : Lt 2 l) (ll : l.length ≤ 1000000000000) : AFun Try.prog J0 39 [.l 1 (Bl l)] (.o 24 1 (W (dg B (nv 2 l)))) := by
  refine mkQ fol J0s Try.func39 a39 ?_
  unfold a39
  simp only [init_eq, initE, qm, qr, qn]
  obtain ⟨v, hv⟩ : ∃ v, v = nv 2 l := ⟨_, rfl⟩
  refine spQ (ai @Bl_nil (ai @Bl_nf (ai @Bl_len @bz_Ref6))) ?_
  refine vm_loopA [(3, 3, 1)] Nat (fun i => ⟨[(0, .l 1 (Bl l)), (3, .ow 1 0 i), (4, .i .i64 ((8 * i : Nat) : Int))], [(0, some ⟨3, 1, D (fl 256 i v), true, false⟩)], 1⟩)
    (fun i => 8 * i < l.length + 8) (fun i => l.length + 8 - 8 * i) 0 (by omega) (by exact leQ) (by
    exact ltQ) ?_
  intro i hi Q' hQ he hr
  by_cases h : ((8 * i : Nat) : Int) < l.length
  · obtain ⟨w, hw⟩ : ∃ w, w = v / 256 ^ i % 256 := ⟨_, rfl⟩
    have hwl : w < 256 := by rw [hw]; exact Nat.mod_lt _ (by decide)
    refine spQ (ai @h (ai @Bl_nil (ai @Bl_nf (ai @Bl_len @bz_Ref6)))) ?_
    refine vm_loopA [] Nat (fun k => ⟨[(0, .l 1 (Bl l)), (3, .ow 1 0 i), (4, .i .i64 ((8 * i : Nat) : Int)), (5, .i .i64 ((w / 2 ^ k : Nat) : Int)), (6, .i .i64 ((k : Int) - 1))], [(0, some ⟨3, 1, D (fl 256 i v), true, false⟩)], 1⟩)
      (fun k => k ≤ 8) (fun k => k) 8 (by omega) (by exact leQ) (by
      simp (disch := (first | omega | assumption)) only [Sl, Sa, Sw, ↓reduceIte, Nat.reduceEqDiff, Nat.reduceLT, List.all_nil, List.all_cons, Nat.reduceBneDiff, Nat.reduceAdd, bne_iff_ne, ne_eq, reduceCtorEq, not_false_eq_true, not_true_eq_false, Bool.and_true, Bool.true_and, and_true, true_and, and_self, i_eq]
      omega) ?_
    intro k hk Q'' hQ' he' hr'
    by_cases h1 : (0 : Int) ≤ (k : Int) - 1
    · obtain ⟨n, rfl⟩ : ∃ n, k = n + 1 := ⟨k - 1, by omega⟩
      have e : ((n + 1 : Nat) : Int) - 1 = (n : Int) := by omega
      have h1 : (0 : Int) ≤ (n : Int) := by omega
      have dig : l.getD (8 * i + n) 0 = w / 2 ^ n % 2 := by
        rw [nv_digit (b := 2) (by decide) hl, hw, ← hv, Nat.pow_add, ← Nat.div_div_eq_div_mul, ← p256]
        rw [show 256 = 2 ^ n * 2 ^ (8 - n) from by rw [← Nat.pow_add, show n + (8 - n) = 8 from by omega], Nat.mod_mul_right_div_self]
        rw [show 2 ^ (8 - n) = 2 * 2 ^ (7 - n) from by rw [Nat.mul_comm, ← Nat.pow_succ]; congr 1; omega, Nat.mod_mul_right_mod]
      have hx : w / 2 ^ n < 256 := Nat.lt_of_le_of_lt (Nat.div_le_self _ _) hwl
      obtain ⟨x, hx0⟩ : ∃ x, x = w / 2 ^ n := ⟨_, rfl⟩
      rw [Nat.pow_succ, ← Nat.div_div_eq_div_mul, ← hx0]
      rw [← hx0] at dig hx
      simp only [e]
      by_cases h2 : ((8 * i : Nat) : Int) + (n : Int) < l.length
      · have tn : (((8 * i : Nat) : Int) + (n : Int)).toNat = 8 * i + n := by omega
        rcases bit_of hl (8 * i + n) with hb | hb
        · have hb' : ¬ l.getD (8 * i + n) 0 = 1 := by omega
          refine spQ (ai @hb' (ai @Bl_get (ai @tn (ai @h2 (ai @h1 (ai @Bl_nil (ai @Bl_nf (ai @Bl_len @bz_Ref6)))))))) ?_
          refine hQ' _ n (by omega) (by omega) ?_
          simp (disch := (first | omega | assumption)) only [Sl, Sa, Sw, ↓reduceIte, Nat.reduceEqDiff, Nat.reduceLT, List.all_nil, List.all_cons, Nat.reduceBneDiff, Nat.reduceAdd, bne_iff_ne, ne_eq, reduceCtorEq, not_false_eq_true, not_true_eq_false, Bool.and_true, Bool.true_and, and_true, true_and, and_self, i_eq]
          rw [← hx0]; omega
        · refine spQ (ai @hb (ai @Bl_get (ai @tn (ai @h2 (ai @h1 (ai @Bl_nil (ai @Bl_nf (ai @Bl_len @bz_Ref6)))))))) ?_
          refine hQ' _ n (by omega) (by omega) ?_
          simp (disch := (first | omega | assumption)) only [Sl, Sa, Sw, ↓reduceIte, Nat.reduceEqDiff, Nat.reduceLT, List.all_nil, List.all_cons, Nat.reduceBneDiff, Nat.reduceAdd, bne_iff_ne, ne_eq, reduceCtorEq, not_false_eq_true, not_true_eq_false, Bool.and_true, Bool.true_and, and_true, true_and, and_self, i_eq]
          rw [← hx0]; omega
      · rw [List.getD_eq_getElem?_getD, List.getElem?_eq_none (by omega)] at dig
        refine spQ (ai @h2 (ai @h1 (ai @Bl_nil (ai @Bl_nf (ai @Bl_len @bz_Ref6))))) ?_
        refine hQ' _ n (by omega) (by omega) ?_
        simp (disch := (first | omega | assumption)) only [Sl, Sa, Sw, ↓reduceIte, Nat.reduceEqDiff, Nat.reduceLT, List.all_nil, List.all_cons, Nat.reduceBneDiff, Nat.reduceAdd, bne_iff_ne, ne_eq, reduceCtorEq, not_false_eq_true, not_true_eq_false, Bool.and_true, Bool.true_and, and_true, true_and, and_self, i_eq]
        rw [← hx0]; simp at dig; omega
    · obtain rfl : k = 0 := by omega
      refine spQ (ai @h1 (ai @Bl_nil (ai @Bl_nf (ai @Bl_len @bz_Ref6)))) ?_
      refine he' _ _ ?_
      refine spQ (ai @D_app1 (ai @Bl_nil (ai @Bl_nf (ai @Bl_len @bz_Ref6)))) ?_
      refine hQ _ (i + 1) (by omega) (by omega) ?_
      simp (disch := (first | omega | assumption)) only [Sl, Sa, Sw, ↓reduceIte, Nat.reduceEqDiff, Nat.reduceLT, List.all_nil, List.all_cons, Nat.reduceBneDiff, Nat.reduceAdd, bne_iff_ne, ne_eq, reduceCtorEq, not_false_eq_true, not_true_eq_false, Bool.and_true, Bool.true_and, and_true, true_and, and_self, i_eq]
      refine ⟨by omega, by rw [fl_succ, ← hw] <;> simp⟩
  · have e : nv 256 (fl 256 i v) = v := by
      rw [nv_fl, Nat.mod_eq_of_lt]
      rw [hv, p256]
      exact Nat.lt_of_lt_of_le (nv_lt hl) (Nat.pow_le_pow_right (by decide) (by omega))
    have hof := of_spec (fl 256 i v) (fl_Lt (by decide) _ _) (by rw [fl_len]; omega)
    rw [e, hv] at hof
    refine spQ (ai @h (ai @Bl_nil (ai @Bl_nf (ai @Bl_len @bz_Ref6)))) ?_
    refine he _ _ ?_
    rw [hv]
    exact wdQ (ai @Bl_nil (ai @Bl_nf (ai @Bl_len @bz_Ref6)))
end Go.Proofs.Ytdaedplbhpiacaa
namespace Go.Proofs.Ytdaedplbhpiacaa
open Go Go.RowKit Ab
set_option linter.unusedSimpArgs false
set_option linter.unusedVariables false
set_option maxHeartbeats 10000000
theorem bz_Shift : type_of% (And.intro @W_len (And.intro @Nat.div_one (And.intro @Nat.mul_one (And.intro @tn_nat (And.intro @W_nf (And.intro @W_nil (And.intro @tmod_64 (And.intro @tdiv_64 (And.intro @wi (And.intro @wu (@mk_W))))))))))) := And.intro @W_len (And.intro @Nat.div_one (And.intro @Nat.mul_one (And.intro @tn_nat (And.intro @W_nf (And.intro @W_nil (And.intro @tmod_64 (And.intro @tdiv_64 (And.intro @wi (And.intro @wu (@mk_W))))))))))
theorem B1 : 0 < B := by decide
def a67 : AC := .seq (.reg [qr 4 (.mv (.k .nl)),
 qr 5 (.mv (.k (.i .i64 0)))])
 (.seq (.seq (.reg [qm 12 1,
 qr 13 (.bin .lss (.t 12) (.k (.i .i64 0))),
 qm 14 13,
 ⟨some 15, some (14, false), .mv (.t 1)⟩,
 ⟨some 16, some (14, false), .bin .gtr (.t 15) (.k (.i .i64 1048576))⟩,
 qr 17 (.pick (.t 14) (.k (.b true)) (.t 16))])
 (.cond (.t 17)
 (.seq (.reg [qr 4 (.mv (.k .nl)),
 qr 5 (.mv (.k (.i .i64 3)))])
 (.ret))
 (.skip)))
 (.seq (.reg [qm 18 1,
 qr 19 (.bin .quo (.t 18) (.k (.i .i64 64))),
 qm 20 1,
 qr 21 (.bin .rem (.t 20) (.k (.i .i64 64))),
 qr 22 (.cvt .u64 (.t 21)),
 qm 6 19,
 qm 7 22])
 (.seq (.reg [qm 23 6,
 qm 24 6,
 qm 25 0,
 qr 26 (.len (.t 25)),
 qr 27 (.bin .add (.t 24) (.t 26)),
 qr 28 (.bin .add (.t 27) (.k (.i .i64 1))),
 qr 29 (.mk 24 1 8 [(.i .u64 0)] (.t 23) (.t 28)),
 qm 8 29])
 (.seq (.seq (.reg [qm 30 7,
 qr 31 (.bin .eql (.t 30) (.k (.i .u64 0)))])
 (.cond (.t 31)
 (.seq (.reg [qm 32 8,
 qm 33 0,
 qr 34 (.app 24 1 8 (.t 32) (.t 33)),
 qm 4 34,
 qr 5 (.mv (.k (.i .i64 0)))])
 (.ret))
 (.skip)))
 (.seq (.reg [qr 9 (.mv (.k (.i .u64 0)))])
 (.seq (.seq (.reg [qm 35 0,
 qr 36 (.len (.t 35)),
 qr 37 (.mv (.k (.i .i64 0)))])
 (.blk 0
 (.loop
 (.seq (.reg [qr 38 (.bin .lss (.t 37) (.t 36))])
 (.seq (.cond (.t 38)
 (.skip)
 (.exit 0))
 (.seq (.blk 1
 (.seq (.reg [qr 39 (.idx 1 (.t 35) (.t 37)),
 qr 40 (.ld false 1 (.t 39)),
 qm 11 40])
 (.seq (.reg [qm 41 8,
 qm 42 11,
 qm 43 7,
 qr 44 (.bin .shl (.t 42) (.t 43)),
 qm 45 9,
 qr 46 (.bin .or (.t 44) (.t 45)),
 qr 47 (.bsl 24 1 1 [(.i .u64 0)] [(0, (.t 46))]),
 qr 48 (.app 24 1 8 (.t 41) (.t 47)),
 qm 8 48])
 (.reg [qm 49 11,
 qm 50 7,
 qr 51 (.bin .sub (.k (.i .u64 64)) (.t 50)),
 qr 52 (.bin .shr (.t 49) (.t 51)),
 qm 9 52]))))
 (.reg [qr 53 (.bin .add (.t 37) (.k (.i .i64 1))),
 qm 37 53])))))))
 (.seq (.reg [qm 54 8,
 qm 55 9,
 qr 56 (.bsl 24 1 1 [(.i .u64 0)] [(0, (.t 55))]),
 qr 57 (.app 24 1 8 (.t 54) (.t 56)),
 qm 4 57,
 qr 5 (.mv (.k (.i .i64 0)))])
 (.ret))))))))
theorem limbShl_spec (a : List Nat) (n : Nat) (ha : Wd a) (la : a.length ≤ 1000000000000) (hn : n ≤ 1048576) : AFun Try.prog J0 67 [.l 1 (W a), .i .i64 (n : Int)] (.t [.l 1 (W (shlOut a n)), .i .i64 0]) := by
  refine mkQ fol J0s Try.func67 a67 ?_
  unfold a67
  simp only [init_eq, initE, qm, qr, qn]
  have h1 : ¬ (n : Int) < 0 := by omega
  have h2 : ¬ (1048576 : Int) < (n : Int) := by omega
  have hr64 : n % 64 < 64 := Nat.mod_lt _ (by decide)
  by_cases h0 : ((n % 64 : Nat) : Int) = 0
  · have e : shlOut a n = List.replicate (n / 64) 0 ++ a := by unfold shlOut; rw [if_pos (by omega)]
    refine spQ (ai @W_cell (ai @W_app (ai @h0 (ai @h2 (ai @h1 @bz_Shift))))) ?_
    exact rtQ (ai @e @bz_Shift)
  · have e : shlOut a n = List.replicate (n / 64) 0 ++ fl B (a.length + 1) (nv B a * 2 ^ (n % 64)) := by unfold shlOut; rw [if_neg (by omega)]
    rw [e]
    generalize hw : n / 64 = w at *
    generalize hr : n % 64 = r at *
    have hwl : w ≤ 1048576 := by omega
    have lrep : (List.replicate w 0).length = w := by simp
    refine spQ (ai @hr (ai @hw (ai @h0 (ai @h2 (ai @h1 @bz_Shift))))) ?_
    refine vm_loopA [] Nat (fun i => ⟨[(8, .ow 1 0 (w + i)), (7, .i .u64 (r : Int)), (9, .i .u64 ((nv B (a.take i) * 2 ^ r / B ^ i : Nat) : Int)), (35, .l 1 (W a)), (36, .i .i64 (a.length : Int)), (37, .i .i64 (i : Int))], [(0, some ⟨24, 1, W (List.replicate w 0 ++ fl B i (nv B (a.take i) * 2 ^ r)), true, false⟩)], 1⟩)
      (fun i => i ≤ a.length) (fun i => a.length - i) 0 (Nat.zero_le _) (by exact leQ) (by
      simp (disch := (first | omega | assumption)) only [Sl, Sa, Sw, ↓reduceIte, Nat.reduceEqDiff, Nat.reduceLT, List.all_nil, List.all_cons, Nat.reduceBneDiff, Nat.reduceAdd, bne_iff_ne, ne_eq, reduceCtorEq, not_false_eq_true, not_true_eq_false, Bool.and_true, Bool.true_and, and_true, true_and, and_self, i_eq]
      simp [nv, fl]) ?_
    intro i hi Q' hQ he hr'
    obtain ⟨s1, s2, s3, s4⟩ := shl_step (P := B ^ i) (V := nv B (a.take i)) (x := a.getD i 0) (r := r) (Nat.pow_pos B1) (nv_take_lt B1 ha i) (Lt_get ha B1 i) (by omega)
    have hxl := Wd_get ha i
    have hlow : nv B (a.take i) * 2 ^ r / B ^ i < 18446744073709551616 := Nat.lt_of_lt_of_le s4 (by have : (18446744073709551616 : Nat) = 2 ^ 64 := rfl; rw [this]; exact Nat.pow_le_pow_right (by decide) (by omega))
    by_cases h : (i : Int) < a.length
    · have hor := bor64 (a.getD i 0 * 2 ^ r % 18446744073709551616) (nv B (a.take i) * 2 ^ r / B ^ i) (Nat.mod_lt _ (by decide)) hlow
      rw [or_low (by omega) s4, ← s1] at hor
      have hsh := shl64 (a.getD i 0) r (by omega)
      have hsr := shr64 (a.getD i 0) (64 - r) (by omega)
      rw [← s2] at hsr
      have e1 : fl B i (nv B (a.take i) * 2 ^ r) ++ [(nv B (a.take i) + B ^ i * a.getD i 0) * 2 ^ r / B ^ i % B] = fl B (i + 1) (nv B (a.take (i + 1)) * 2 ^ r) := by
        rw [fl_succ, nv_take_succ', fl_congr B1 s3]
      repeat first
        | (refine hK _ ?_; clear hK K)
        | ((first | refine vm_reg (fun K hK => ?_) | refine vm_dreg (fun K hK => ?_) | refine vm_dregx (fun K hK => ?_)); simp (disch := (first | omega | assumption)) only [S1, ↓reduceIte, Nat.reduceEqDiff, Nat.reduceAdd, Nat.reduceMul, Nat.reduceDiv, AOp.sb, AOp.mut, frzf, ↓Bool.false_eq_true, beq_self_eq_true, ite_self, Nat.reduceLeDiff, Int.reduceEq, Int.reduceSub, Int.reduceAdd, Int.reduceNeg, Int.reduceLT, Int.reduceLE, Nat.reduceLT, bz_Shift, h, W_get, hsh, hor, hsr, tn_64, W_app1, List.append_assoc, e1]; refine hK _ ?_; clear hK K)
        | simp only [Sv, ↓reduceIte, Nat.reduceEqDiff]
      refine hQ _ (i + 1) (by omega) (by omega) ?_
      simp (disch := (first | omega | assumption)) only [Sl, Sa, Sw, ↓reduceIte, Nat.reduceEqDiff, Nat.reduceLT, List.all_nil, List.all_cons, Nat.reduceBneDiff, Nat.reduceAdd, bne_iff_ne, ne_eq, reduceCtorEq, not_false_eq_true, not_true_eq_false, Bool.and_true, Bool.true_and, and_true, true_and, and_self, i_eq]
      refine ⟨by omega, ?_, by omega⟩
      rw [nv_take_succ', Nat.pow_succ]
    · obtain rfl : i = a.length := by omega
      have e2 : nv B a * 2 ^ r / B ^ a.length % B = nv B a * 2 ^ r / B ^ a.length := by
        rw [List.take_length] at hlow
        exact Nat.mod_eq_of_lt hlow
      refine spQ (ai @h @bz_Shift) ?_
      refine he _ _ ?_
      rw [List.take_length]
      have e3 : fl B a.length (nv B a * 2 ^ r) ++ [nv B a * 2 ^ r / B ^ a.length] = fl B (a.length + 1) (nv B a * 2 ^ r) := by rw [fl_succ, e2]
      repeat first
        | (refine hK _ ?_; clear hK K)
        | ((first | refine vm_reg (fun K hK => ?_) | refine vm_dreg (fun K hK => ?_) | refine vm_dregx (fun K hK => ?_)); simp (disch := (first | omega | assumption)) only [S1, ↓reduceIte, Nat.reduceEqDiff, Nat.reduceAdd, Nat.reduceMul, Nat.reduceDiv, AOp.sb, AOp.mut, frzf, ↓Bool.false_eq_true, beq_self_eq_true, ite_self, Nat.reduceLeDiff, Int.reduceEq, Int.reduceSub, Int.reduceAdd, Int.reduceNeg, Int.reduceLT, Int.reduceLE, Nat.reduceLT, bz_Shift, W_app1, List.append_assoc, e3]; refine hK _ ?_; clear hK K)
        | simp only [Sv, ↓reduceIte, Nat.reduceEqDiff]
      exact rtQ @bz_Shift
theorem tn_add (a b : Nat) : ((a : Int) + (b : Int)).toNat = a + b := by omega
theorem set_fl {m i v d : Nat} (hi : i < m) (hd : d = v / B ^ i % B) : (fl B i v ++ List.replicate (m - i) 0).set i d = fl B (i + 1) v ++ List.replicate (m - (i + 1)) 0 := by
  obtain ⟨k, hk⟩ : ∃ k, m - i = k + 1 := ⟨m - i - 1, by omega⟩
  rw [fl_succ, hk, show m - (i + 1) = k from by omega, List.set_append_right _ _ (by rw [fl_len]; omega), fl_len, Nat.sub_self, List.replicate_succ, List.set_cons_zero, hd, List.append_assoc]
  rfl
theorem getD_set (l : List Nat) (i x : Nat) (h : i < l.length) : (l.set i x).getD i 0 = x := by
  rw [List.getD_eq_getElem?_getD, List.getElem?_set_self h]; rfl
def a74 : AC := .seq (.reg [qr 4 (.mv (.k .nl)),
 qr 5 (.mv (.k (.b false))),
 qr 6 (.mv (.k (.i .i64 0)))])
 (.seq (.seq (.reg [qm 12 1,
 qr 13 (.bin .lss (.t 12) (.k (.i .i64 0)))])
 (.cond (.t 13)
 (.seq (.reg [qr 4 (.mv (.k .nl)),
 qr 5 (.mv (.k (.b false))),
 qr 6 (.mv (.k (.i .i64 3)))])
 (.ret))
 (.skip)))
 (.seq (.reg [qm 14 1,
 qr 15 (.bin .quo (.t 14) (.k (.i .i64 64))),
 qm 16 1,
 qr 17 (.bin .rem (.t 16) (.k (.i .i64 64))),
 qr 18 (.cvt .u64 (.t 17)),
 qm 7 15,
 qm 8 18])
 (.seq (.seq (.reg [qm 19 7,
 qm 20 0,
 qr 21 (.len (.t 20)),
 qr 22 (.bin .geq (.t 19) (.t 21))])
 (.cond (.t 22)
 (.seq (.reg [qm 23 0,
 qr 24 (.call 77 [(1, (.t 23))]),
 qr 25 (.bin .gtr (.t 24) (.k (.i .i64 0))),
 qr 4 (.mv (.k .nl)),
 qm 5 25,
 qr 6 (.mv (.k (.i .i64 0)))])
 (.ret))
 (.skip)))
 (.seq (.reg [qm 26 0,
 qm 27 7,
 qr 28 (.sub 1 (.t 26) none (some (.t 27))),
 qr 29 (.call 77 [(1, (.t 28))]),
 qr 30 (.bin .gtr (.t 29) (.k (.i .i64 0))),
 qm 31 30,
 ⟨some 32, some (31, false), .mv (.t 0)⟩,
 ⟨some 33, some (31, false), .mv (.t 7)⟩,
 ⟨some 34, some (31, false), .idx 1 (.t 32) (.t 33)⟩,
 ⟨some 35, some (31, false), .ld false 1 (.t 34)⟩,
 ⟨some 36, some (31, false), .mv (.t 8)⟩,
 ⟨some 37, some (31, false), .bin .sub (.k (.i .u64 64)) (.t 36)⟩,
 ⟨some 38, some (31, false), .bin .shl (.t 35) (.t 37)⟩,
 ⟨some 39, some (31, false), .bin .neq (.t 38) (.k (.i .u64 0))⟩,
 ⟨some 40, some (31, false), .mv (.t 39)⟩,
 ⟨some 41, some (40, true), .mv (.t 8)⟩,
 ⟨some 42, some (40, true), .bin .gtr (.t 41) (.k (.i .u64 0))⟩,
 ⟨some 43, some (31, false), .pick (.t 40) (.t 42) (.k (.b false))⟩,
 qr 44 (.pick (.t 31) (.k (.b true)) (.t 43)),
 qm 9 44])
 (.seq (.reg [qm 45 0,
 qr 46 (.len (.t 45)),
 qm 47 7,
 qr 48 (.bin .sub (.t 46) (.t 47)),
 qr 49 (.mk 24 1 8 [(.i .u64 0)] (.t 48) (.t 48)),
 qm 10 49])
 (.seq (.seq (.reg [qm 50 10,
 qr 51 (.len (.t 50)),
 qr 52 (.mv (.k (.i .i64 0)))])
 (.blk 0
 (.loop
 (.seq (.reg [qr 53 (.bin .lss (.t 52) (.t 51))])
 (.seq (.cond (.t 53)
 (.skip)
 (.exit 0))
 (.seq (.blk 1
 (.seq (.reg [qm 54 52,
 qm 11 54])
 (.seq (.reg [qm 55 10,
 qm 56 11,
 qm 57 0,
 qm 58 7,
 qm 59 11,
 qr 60 (.bin .add (.t 58) (.t 59)),
 qr 61 (.idx 1 (.t 57) (.t 60)),
 qr 62 (.ld false 1 (.t 61)),
 qm 63 8,
 qr 64 (.bin .shr (.t 62) (.t 63)),
 qr 65 (.idx 1 (.t 55) (.t 56)),
 qn (.st 1 (.t 65) (.t 64))])
 (.seq (.reg [qm 66 8,
 qr 67 (.bin .gtr (.t 66) (.k (.i .u64 0)))])
 (.cond (.t 67)
 (.dreg [qm 68 10,
 qm 69 11,
 qr 70 (.idx 1 (.t 68) (.t 69)),
 qr 71 (.ld false 1 (.t 70)),
 qm 72 0,
 qm 73 7,
 qm 74 11,
 qr 75 (.bin .add (.t 73) (.t 74)),
 qr 76 (.bin .add (.t 75) (.k (.i .i64 1))),
 qr 77 (.call 65 [(1, (.t 72)), (1, (.t 76))]),
 qm 78 8,
 qr 79 (.bin .sub (.k (.i .u64 64)) (.t 78)),
 qr 80 (.bin .shl (.t 77) (.t 79)),
 qr 81 (.bin .or (.t 71) (.t 80)),
 qr 82 (.idx 1 (.t 68) (.t 69)),
 qn (.st 1 (.t 82) (.t 81))])
 (.skip))))))
 (.reg [qr 83 (.bin .add (.t 52) (.k (.i .i64 1))),
 qm 52 83])))))))
 (.seq (.reg [qm 84 10,
 qm 85 9,
 qm 4 84,
 qm 5 85,
 qr 6 (.mv (.k (.i .i64 0)))])
 (.ret))))))))
theorem limbShr_spec (a : List Nat) (n : Nat) (ha : Wd a) (la : a.length ≤ 1000000000000) (hn : n < 9223372036854775808) : AFun Try.prog J0 74 [.l 1 (W a), .i .i64 (n : Int)] (.t [.l 1 (W (fl B (a.length - n / 64) (nv B a / 2 ^ n))), .any, .i .i64 0]) := by
  refine mkQ fol J0s Try.func74 a74 ?_
  unfold a74
  simp only [init_eq, initE, qm, qr, qn]
  have h1 : ¬ (n : Int) < 0 := by omega
  have hr64 : n % 64 < 64 := Nat.mod_lt _ (by decide)
  have hdig := fun i => shr_digit (A := nv B a) (n := n) (i := i)
  generalize nv B a / 2 ^ n = v at hdig ⊢
  generalize hw : n / 64 = w at *
  generalize hr : n % 64 = r at *
  by_cases hge : (a.length : Int) ≤ (w : Int)
  · have e : a.length - w = 0 := by omega
    have zc1 := top_spec a (by omega)
    refine wdO (ai @e (ai @hge (ai @hr (ai @hw (ai @h1 @bz_Shift))))) ?_
    rfl
  · obtain ⟨m, hm⟩ : ∃ m, a.length = w + m := ⟨a.length - w, by omega⟩
    have em : a.length - w = m := by omega
    have hsub : (a.length : Int) - (w : Int) = (m : Int) := by omega
    have hsh := shl64 (a.getD w 0) (64 - r) (by omega)
    have lrep : (List.replicate m 0).length = m := by simp
    rw [em]
    by_cases g1 : 0 < (((tz (a.take w)).length : Nat) : Int)
    · have zc2 := top_spec (a.take w) (by rw [List.length_take]; omega)
      refine wkQ (ai @lrep (ai @hsub (ai @g1 (ai @W_take (ai @hge (ai @hr (ai @hw (ai @h1 @bz_Shift)))))))) ?_
      refine vm_loopA [] Nat (fun i => ⟨[(0, .l 1 (W a)), (7, .i .i64 (w : Int)), (8, .i .u64 (r : Int)), (10, .ow 1 0 m), (51, .i .i64 (m : Int)), (52, .i .i64 (i : Int))], [(0, some ⟨24, 1, W (fl B i v ++ List.replicate (m - i) 0), true, false⟩)], 1⟩)
        (fun i => i ≤ m) (fun i => m - i) 0 (Nat.zero_le _) (by exact leQ) (by
        simp (disch := (first | omega | assumption)) only [Sl, Sa, Sw, ↓reduceIte, Nat.reduceEqDiff, Nat.reduceLT, List.all_nil, List.all_cons, Nat.reduceBneDiff, Nat.reduceAdd, bne_iff_ne, ne_eq, reduceCtorEq, not_false_eq_true, not_true_eq_false, Bool.and_true, Bool.true_and, and_true, true_and, and_self, i_eq]
        simp [fl]) ?_
      intro i hi Q' hQ he hr'
      by_cases h : (i : Int) < m
      · have hd := hdig i
        have d0 := nv_digit (b := B) B1 ha (w + i)
        have d1 := nv_digit (b := B) B1 ha (w + i + 1)
        rw [Nat.pow_succ, ← Nat.div_div_eq_div_mul] at d1
        generalize nv B a / B ^ (w + i) = X at hd d0 d1
        have ll : (fl B i v ++ List.replicate (m - i) 0).length = m := by rw [List.length_append, fl_len, List.length_replicate]; omega
        have hsr := shr64 (a.getD (w + i) 0) r (by omega)
        have hbw : w + i < a.length := by omega
        by_cases hr0 : 0 < (r : Int)
        · obtain ⟨s1, s2⟩ := shr_step (X := X) (r := r) (by omega) (by omega)
          rw [← hd, ← d0, ← d1] at s1
          rw [← d0] at s2
          have hor := bor64 (a.getD (w + i) 0 / 2 ^ r) (a.getD (w + i + 1) 0 * 2 ^ (64 - r) % 18446744073709551616) (Nat.lt_of_le_of_lt (Nat.div_le_self _ _) (Wd_get ha _)) (Nat.mod_lt _ (by decide))
          rw [or_high (by omega) s2, ← s1] at hor
          have hsl := shl64 (a.getD (w + i + 1) 0) (64 - r) (by omega)
          have ll2 : ((fl B i v ++ List.replicate (m - i) 0).set i (a.getD (w + i) 0 / 2 ^ r)).length = m := by rw [List.length_set, ll]
          have hset := set_fl (v := v) (i := i) (m := m) (by omega) rfl
          have zc3 := at_spec a (w + i + 1)
          repeat first | (refine hK _ ?_; clear hK K) | simp only [Sv, ↓reduceIte, Nat.reduceEqDiff] | ((first | refine vm_reg (fun K hK => ?_) | refine vm_dreg (fun K hK => ?_) | refine vm_dregx (fun K hK => ?_) | refine clp_q ?_ | refine clq_mk (by assumption) ?_ | refine mcq_q ?_ | (apply mcr_mk; assumption) | (apply ocr_mk; assumption)); simp (disch := (first | omega | assumption)) only [S1, ↓reduceIte, Nat.reduceEqDiff, Nat.reduceAdd, Nat.reduceMul, Nat.reduceDiv, AOp.sb, AOp.mut, frzf, ↓Bool.false_eq_true, beq_self_eq_true, ite_self, Nat.reduceLeDiff, Int.reduceEq, Int.reduceSub, Int.reduceAdd, Int.reduceNeg, Int.reduceLT, Int.reduceLE, Nat.reduceLT, bz_Shift, h, hr0, hsr, tn_add, W_get, W_set, ll, ll2, hsl, hor, tn_64, getD_set, List.set_set, hset])
          refine hQ _ (i + 1) (by omega) (by omega) ?_
          simp (disch := (first | omega | assumption)) only [Sl, Sa, Sw, ↓reduceIte, Nat.reduceEqDiff, Nat.reduceLT, List.all_nil, List.all_cons, Nat.reduceBneDiff, Nat.reduceAdd, bne_iff_ne, ne_eq, reduceCtorEq, not_false_eq_true, not_true_eq_false, Bool.and_true, Bool.true_and, and_true, true_and, and_self, i_eq]
          omega
        · have r0 : r = 0 := by omega
          have hset := set_fl (v := v) (i := i) (m := m) (d := a.getD (w + i) 0 / 2 ^ r) (by omega) (by rw [hd, d0, r0]; simp)
          refine spQ (ai @hset (ai @ll (ai @W_set (ai @hsr (ai @W_get (ai @tn_add (ai @hr0 (ai @h @bz_Shift)))))))) ?_
          refine hQ _ (i + 1) (by omega) (by omega) ?_
          simp (disch := (first | omega | assumption)) only [Sl, Sa, Sw, ↓reduceIte, Nat.reduceEqDiff, Nat.reduceLT, List.all_nil, List.all_cons, Nat.reduceBneDiff, Nat.reduceAdd, bne_iff_ne, ne_eq, reduceCtorEq, not_false_eq_true, not_true_eq_false, Bool.and_true, Bool.true_and, and_true, true_and, and_self, i_eq]
          omega
      · obtain rfl : i = m := by omega
        refine spQ (ai @h @bz_Shift) ?_
        refine he _ _ ?_
        refine spQ @bz_Shift ?_
        simp (disch := (first | omega | assumption)) only [retOk, retN, ret1, retF, ret1F, V.okArg, and_true, true_and, S1, ↓reduceIte, Nat.reduceEqDiff, Nat.reduceAdd, Nat.reduceMul, Nat.reduceDiv, AOp.sb, AOp.mut, frzf, ↓Bool.false_eq_true, beq_self_eq_true, ite_self, Nat.reduceLeDiff, Int.reduceEq, Int.reduceSub, Int.reduceAdd, Int.reduceNeg, Int.reduceLT, Int.reduceLE, Nat.reduceLT, bz_Shift, Nat.sub_self, List.replicate_zero]
    · by_cases g2 : ((a.getD w 0 * 2 ^ (64 - r) % 18446744073709551616 : Nat) : Int) = 0
      · have zc4 := top_spec (a.take w) (by rw [List.length_take]; omega)
        refine wkQ (ai @lrep (ai @hsub (ai @g2 (ai @hsh (ai @tn_64 (ai @g1 (ai @W_get (ai @W_take (ai @hge (ai @hr (ai @hw (ai @h1 @bz_Shift)))))))))))) ?_
        refine vm_loopA [] Nat (fun i => ⟨[(0, .l 1 (W a)), (7, .i .i64 (w : Int)), (8, .i .u64 (r : Int)), (10, .ow 1 0 m), (51, .i .i64 (m : Int)), (52, .i .i64 (i : Int))], [(0, some ⟨24, 1, W (fl B i v ++ List.replicate (m - i) 0), true, false⟩)], 1⟩)
          (fun i => i ≤ m) (fun i => m - i) 0 (Nat.zero_le _) (by exact leQ) (by
          simp (disch := (first | omega | assumption)) only [Sl, Sa, Sw, ↓reduceIte, Nat.reduceEqDiff, Nat.reduceLT, List.all_nil, List.all_cons, Nat.reduceBneDiff, Nat.reduceAdd, bne_iff_ne, ne_eq, reduceCtorEq, not_false_eq_true, not_true_eq_false, Bool.and_true, Bool.true_and, and_true, true_and, and_self, i_eq]
          simp [fl]) ?_
        intro i hi Q' hQ he hr'
        by_cases h : (i : Int) < m
        · have hd := hdig i
          have d0 := nv_digit (b := B) B1 ha (w + i)
          have d1 := nv_digit (b := B) B1 ha (w + i + 1)
          rw [Nat.pow_succ, ← Nat.div_div_eq_div_mul] at d1
          generalize nv B a / B ^ (w + i) = X at hd d0 d1
          have ll : (fl B i v ++ List.replicate (m - i) 0).length = m := by rw [List.length_append, fl_len, List.length_replicate]; omega
          have hsr := shr64 (a.getD (w + i) 0) r (by omega)
          have hbw : w + i < a.length := by omega
          by_cases hr0 : 0 < (r : Int)
          · obtain ⟨s1, s2⟩ := shr_step (X := X) (r := r) (by omega) (by omega)
            rw [← hd, ← d0, ← d1] at s1
            rw [← d0] at s2
            have hor := bor64 (a.getD (w + i) 0 / 2 ^ r) (a.getD (w + i + 1) 0 * 2 ^ (64 - r) % 18446744073709551616) (Nat.lt_of_le_of_lt (Nat.div_le_self _ _) (Wd_get ha _)) (Nat.mod_lt _ (by decide))
            rw [or_high (by omega) s2, ← s1] at hor
            have hsl := shl64 (a.getD (w + i + 1) 0) (64 - r) (by omega)
            have ll2 : ((fl B i v ++ List.replicate (m - i) 0).set i (a.getD (w + i) 0 / 2 ^ r)).length = m := by rw [List.length_set, ll]
            have hset := set_fl (v := v) (i := i) (m := m) (by omega) rfl
            have zc5 := at_spec a (w + i + 1)
            repeat first | (refine hK _ ?_; clear hK K) | simp only [Sv, ↓reduceIte, Nat.reduceEqDiff] | ((first | refine vm_reg (fun K hK => ?_) | refine vm_dreg (fun K hK => ?_) | refine vm_dregx (fun K hK => ?_) | refine clp_q ?_ | refine clq_mk (by assumption) ?_ | refine mcq_q ?_ | (apply mcr_mk; assumption) | (apply ocr_mk; assumption)); simp (disch := (first | omega | assumption)) only [S1, ↓reduceIte, Nat.reduceEqDiff, Nat.reduceAdd, Nat.reduceMul, Nat.reduceDiv, AOp.sb, AOp.mut, frzf, ↓Bool.false_eq_true, beq_self_eq_true, ite_self, Nat.reduceLeDiff, Int.reduceEq, Int.reduceSub, Int.reduceAdd, Int.reduceNeg, Int.reduceLT, Int.reduceLE, Nat.reduceLT, bz_Shift, h, hr0, hsr, tn_add, W_get, W_set, ll, ll2, hsl, hor, tn_64, getD_set, List.set_set, hset])
            refine hQ _ (i + 1) (by omega) (by omega) ?_
            simp (disch := (first | omega | assumption)) only [Sl, Sa, Sw, ↓reduceIte, Nat.reduceEqDiff, Nat.reduceLT, List.all_nil, List.all_cons, Nat.reduceBneDiff, Nat.reduceAdd, bne_iff_ne, ne_eq, reduceCtorEq, not_false_eq_true, not_true_eq_false, Bool.and_true, Bool.true_and, and_true, true_and, and_self, i_eq]
            omega
          · have r0 : r = 0 := by omega
            have hset := set_fl (v := v) (i := i) (m := m) (d := a.getD (w + i) 0 / 2 ^ r) (by omega) (by rw [hd, d0, r0]; simp)
            refine spQ (ai @hset (ai @ll (ai @W_set (ai @hsr (ai @W_get (ai @tn_add (ai @hr0 (ai @h @bz_Shift)))))))) ?_
            refine hQ _ (i + 1) (by omega) (by omega) ?_
            simp (disch := (first | omega | assumption)) only [Sl, Sa, Sw, ↓reduceIte, Nat.reduceEqDiff, Nat.reduceLT, List.all_nil, List.all_cons, Nat.reduceBneDiff, Nat.reduceAdd, bne_iff_ne, ne_eq, reduceCtorEq, not_false_eq_true, not_true_eq_false, Bool.and_true, Bool.true_and, and_true, true_and, and_self, i_eq]
            omega
        · obtain rfl : i = m := by omega
          refine spQ (ai @h @bz_Shift) ?_
          refine he _ _ ?_
          refine spQ @bz_Shift ?_
          simp (disch := (first | omega | assumption)) only [retOk, retN, ret1, retF, ret1F, V.okArg, and_true, true_and, S1, ↓reduceIte, Nat.reduceEqDiff, Nat.reduceAdd, Nat.reduceMul, Nat.reduceDiv, AOp.sb, AOp.mut, frzf, ↓Bool.false_eq_true, beq_self_eq_true, ite_self, Nat.reduceLeDiff, Int.reduceEq, Int.reduceSub, Int.reduceAdd, Int.reduceNeg, Int.reduceLT, Int.reduceLE, Nat.reduceLT, bz_Shift, Nat.sub_self, List.replicate_zero]
      · have zc6 := top_spec (a.take w) (by rw [List.length_take]; omega)
        refine wkQ (ai @lrep (ai @hsub (ai @g2 (ai @hsh (ai @tn_64 (ai @g1 (ai @W_get (ai @W_take (ai @hge (ai @hr (ai @hw (ai @h1 @bz_Shift)))))))))))) ?_
        refine vm_loopA [] Nat (fun i => ⟨[(0, .l 1 (W a)), (7, .i .i64 (w : Int)), (8, .i .u64 (r : Int)), (10, .ow 1 0 m), (51, .i .i64 (m : Int)), (52, .i .i64 (i : Int))], [(0, some ⟨24, 1, W (fl B i v ++ List.replicate (m - i) 0), true, false⟩)], 1⟩)
          (fun i => i ≤ m) (fun i => m - i) 0 (Nat.zero_le _) (by exact leQ) (by
          simp (disch := (first | omega | assumption)) only [Sl, Sa, Sw, ↓reduceIte, Nat.reduceEqDiff, Nat.reduceLT, List.all_nil, List.all_cons, Nat.reduceBneDiff, Nat.reduceAdd, bne_iff_ne, ne_eq, reduceCtorEq, not_false_eq_true, not_true_eq_false, Bool.and_true, Bool.true_and, and_true, true_and, and_self, i_eq]
          simp [fl]) ?_
        intro i hi Q' hQ he hr'
        by_cases h : (i : Int) < m
        · have hd := hdig i
          have d0 := nv_digit (b := B) B1 ha (w + i)
          have d1 := nv_digit (b := B) B1 ha (w + i + 1)
          rw [Nat.pow_succ, ← Nat.div_div_eq_div_mul] at d1
          generalize nv B a / B ^ (w + i) = X at hd d0 d1
          have ll : (fl B i v ++ List.replicate (m - i) 0).length = m := by rw [List.length_append, fl_len, List.length_replicate]; omega
          have hsr := shr64 (a.getD (w + i) 0) r (by omega)
          have hbw : w + i < a.length := by omega
          by_cases hr0 : 0 < (r : Int)
          · obtain ⟨s1, s2⟩ := shr_step (X := X) (r := r) (by omega) (by omega)
            rw [← hd, ← d0, ← d1] at s1
            rw [← d0] at s2
            have hor := bor64 (a.getD (w + i) 0 / 2 ^ r) (a.getD (w + i + 1) 0 * 2 ^ (64 - r) % 18446744073709551616) (Nat.lt_of_le_of_lt (Nat.div_le_self _ _) (Wd_get ha _)) (Nat.mod_lt _ (by decide))
            rw [or_high (by omega) s2, ← s1] at hor
            have hsl := shl64 (a.getD (w + i + 1) 0) (64 - r) (by omega)
            have ll2 : ((fl B i v ++ List.replicate (m - i) 0).set i (a.getD (w + i) 0 / 2 ^ r)).length = m := by rw [List.length_set, ll]
            have hset := set_fl (v := v) (i := i) (m := m) (by omega) rfl
            have zc7 := at_spec a (w + i + 1)
            repeat first | (refine hK _ ?_; clear hK K) | simp only [Sv, ↓reduceIte, Nat.reduceEqDiff] | ((first | refine vm_reg (fun K hK => ?_) | refine vm_dreg (fun K hK => ?_) | refine vm_dregx (fun K hK => ?_) | refine clp_q ?_ | refine clq_mk (by assumption) ?_ | refine mcq_q ?_ | (apply mcr_mk; assumption) | (apply ocr_mk; assumption)); simp (disch := (first | omega | assumption)) only [S1, ↓reduceIte, Nat.reduceEqDiff, Nat.reduceAdd, Nat.reduceMul, Nat.reduceDiv, AOp.sb, AOp.mut, frzf, ↓Bool.false_eq_true, beq_self_eq_true, ite_self, Nat.reduceLeDiff, Int.reduceEq, Int.reduceSub, Int.reduceAdd, Int.reduceNeg, Int.reduceLT, Int.reduceLE, Nat.reduceLT, bz_Shift, h, hr0, hsr, tn_add, W_get, W_set, ll, ll2, hsl, hor, tn_64, getD_set, List.set_set, hset])
            refine hQ _ (i + 1) (by omega) (by omega) ?_
            simp (disch := (first | omega | assumption)) only [Sl, Sa, Sw, ↓reduceIte, Nat.reduceEqDiff, Nat.reduceLT, List.all_nil, List.all_cons, Nat.reduceBneDiff, Nat.reduceAdd, bne_iff_ne, ne_eq, reduceCtorEq, not_false_eq_true, not_true_eq_false, Bool.and_true, Bool.true_and, and_true, true_and, and_self, i_eq]
            omega
          · have r0 : r = 0 := by omega
            have hset := set_fl (v := v) (i := i) (m := m) (d := a.getD (w + i) 0 / 2 ^ r) (by omega) (by rw [hd, d0, r0]; simp)
            refine spQ (ai @hset (ai @ll (ai @W_set (ai @hsr (ai @W_get (ai @tn_add (ai @hr0 (ai @h @bz_Shift)))))))) ?_
            refine hQ _ (i + 1) (by omega) (by omega) ?_
            simp (disch := (first | omega | assumption)) only [Sl, Sa, Sw, ↓reduceIte, Nat.reduceEqDiff, Nat.reduceLT, List.all_nil, List.all_cons, Nat.reduceBneDiff, Nat.reduceAdd, bne_iff_ne, ne_eq, reduceCtorEq, not_false_eq_true, not_true_eq_false, Bool.and_true, Bool.true_and, and_true, true_and, and_self, i_eq]
            omega
        · obtain rfl : i = m := by omega
          refine spQ (ai @h @bz_Shift) ?_
          refine he _ _ ?_
          refine spQ @bz_Shift ?_
          simp (disch := (first | omega | assumption)) only [retOk, retN, ret1, retF, ret1F, V.okArg, and_true, true_and, S1, ↓reduceIte, Nat.reduceEqDiff, Nat.reduceAdd, Nat.reduceMul, Nat.reduceDiv, AOp.sb, AOp.mut, frzf, ↓Bool.false_eq_true, beq_self_eq_true, ite_self, Nat.reduceLeDiff, Int.reduceEq, Int.reduceSub, Int.reduceAdd, Int.reduceNeg, Int.reduceLT, Int.reduceLE, Nat.reduceLT, bz_Shift, Nat.sub_self, List.replicate_zero]
end Go.Proofs.Ytdaedplbhpiacaa
namespace Go.Proofs.Ytdaedplbhpiacaa
open Go Go.RowKit Ab
set_option linter.unusedSimpArgs false
set_option linter.unusedVariables false
set_option maxHeartbeats 10000000
theorem bz_Shift2 : type_of% (And.intro @W_len (And.intro @D_len (And.intro @Bl_len (And.intro @Nat.div_one (And.intro @Nat.mul_one (And.intro @tn_nat (And.intro @W_nf (And.intro @D_nf (And.intro @Bl_nf (And.intro @W_nil (And.intro @D_nil (And.intro @Bl_nil (And.intro @tmod_64 (And.intro @tdiv_64 (And.intro @wi (@wu)))))))))))))))) := And.intro @W_len (And.intro @D_len (And.intro @Bl_len (And.intro @Nat.div_one (And.intro @Nat.mul_one (And.intro @tn_nat (And.intro @W_nf (And.intro @D_nf (And.intro @Bl_nf (And.intro @W_nil (And.intro @D_nil (And.intro @Bl_nil (And.intro @tmod_64 (And.intro @tdiv_64 (And.intro @wi (@wu)))))))))))))))
theorem nv_dgB (v : Nat) : nv B (dg B v) = v := nv_dg B2 v
theorem Wd_dg (v : Nat) : Wd (dg B v) := dg_Lt B0 v
theorem dlen {v k : Nat} (h : v < B ^ k) : (dg B v).length ≤ k := dg_len B2 h
theorem nvlt {a : List Nat} {m : Nat} (ha : Wd a) (la : a.length ≤ m) : nv B a < B ^ m := Nat.lt_of_lt_of_le (nv_lt ha) (Nat.pow_le_pow_right B0 la)
theorem pup {v k m : Nat} (h : v < B ^ k) (hk : k ≤ m) : v < B ^ m := Nat.lt_of_lt_of_le h (Nat.pow_le_pow_right B0 hk)
theorem padd {u v k : Nat} (h : u < B ^ k) (h' : v < B ^ k) : u + v < B ^ (k + 1) := by
  have h5 : B ^ k * 2 ≤ B ^ (k + 1) := Nat.mul_le_mul_left _ B2
  omega
theorem same_true {a b : List Nat} (h : a = b) (la : a.length ≤ 1099511627776) : AFun Try.prog J0 22 [.l 1 (W a), .l 1 (W b)] (.b true) := by
  have := same_spec a b (by omega) (by rw [← h]; omega)
  rwa [show decide (a = b) = true from decide_eq_true h] at this
theorem own_dg (a : List Nat) (ha : Wd a) (la : a.length ≤ 1099511627776) : AFun Try.prog J0 47 [.l 1 (W a)] (.o 24 1 (W (dg B (nv B a)))) := by
  have := own_spec a la
  rwa [tz_dg B2 ha] at this
theorem nv_mod {b : Nat} {l : List Nat} (hb : 0 < b) (h : Lt b l) (i : Nat) : nv b (l.take i) = nv b l % b ^ i := by
  rcases Nat.lt_or_ge l.length i with h1 | h1
  · rw [List.take_of_length_le (by omega), Nat.mod_eq_of_lt (Nat.lt_of_lt_of_le (nv_lt h) (Nat.pow_le_pow_right hb (by omega)))]
  · rw [nv_take_drop l i h1, Nat.add_mul_mod_self_left, Nat.mod_eq_of_lt (nv_take_lt hb h i)]
def shlR (v : Nat) (n : Int) : List Nat × Int := if n < 0 ∨ 1048576 < n then ([], 3) else (dg B (v * 2 ^ n.toNat), 0)
def shrR (v : Nat) (n : Int) : List Nat × Int := if n < 0 then ([], 3) else (dg B (v / 2 ^ n.toNat), 0)
def a50 : AC := .seq (.reg [qr 4 (.mv (.k .nl)),
 qr 5 (.mv (.k (.i .i64 0)))])
 (.seq (.seq (.reg [qm 8 1,
 qr 9 (.bin .lss (.t 8) (.k (.i .i64 0))),
 qm 10 9,
 ⟨some 11, some (10, false), .mv (.t 1)⟩,
 ⟨some 12, some (10, false), .bin .gtr (.t 11) (.k (.i .i64 1048576))⟩,
 qr 13 (.pick (.t 10) (.k (.b true)) (.t 12))])
 (.cond (.t 13)
 (.seq (.reg [qr 4 (.mv (.k .nl)),
 qr 5 (.mv (.k (.i .i64 3)))])
 (.ret))
 (.skip)))
 (.seq (.reg [qm 15 0,
 qr 16 (.call 64 [(1, (.t 15))]),
 qm 17 1,
 qr 18 (.call 67 [(1, (.t 16)), (1, (.t 17))]),
 qm 14 18,
 qr 19 (.ext (.t 14) 0),
 qr 20 (.ext (.t 14) 1),
 qm 6 19,
 qm 7 20])
 (.seq (.reg [qm 21 6,
 qr 22 (.call 47 [(1, (.t 21))]),
 qm 23 7,
 qm 4 22,
 qm 5 23])
 (.ret))))
theorem shl_spec (a : List Nat) (n : Int) (ha : Wd a) (la : a.length ≤ 100000000000) : AFun Try.prog J0 50 [.l 1 (W a), .i .i64 n] (.t [.l 1 (W (shlR (nv B a) n).1), .i .i64 (shlR (nv B a) n).2]) := by
  refine mkQ fol J0s Try.func50 a50 ?_
  unfold a50
  simp only [init_eq, initE, qm, qr, qn]
  by_cases h1 : n < 0
  · rw [show shlR (nv B a) n = ([], 3) from if_pos (.inl h1)]
    exact pdQ (ai @h1 (ai @nv_dgB @bz_Shift2))
  · by_cases h2 : 1048576 < n
    · rw [show shlR (nv B a) n = ([], 3) from if_pos (.inr h2)]
      exact pdQ (ai @h2 (ai @h1 (ai @nv_dgB @bz_Shift2)))
    · rw [show shlR (nv B a) n = (dg B (nv B a * 2 ^ n.toNat), 0) from if_neg (by omega)]
      obtain ⟨k, rfl⟩ : ∃ k : Nat, n = (k : Int) := ⟨n.toNat, by omega⟩
      have lt := tz_len a
      have lo := shlOut_len (tz a) k
      have e : nv B (shlOut (tz a) k) = nv B a * 2 ^ k := by rw [shlOut_nv (Lt_tz ha), nv_tz]
      have zc1 := trim_spec a (by omega)
      have zc2 := limbShl_spec (tz a) k (Lt_tz ha) (by omega) (by omega)
      have zc3 := own_dg (shlOut (tz a) k) (shlOut_Wd (Lt_tz ha) k) (by omega)
      exact wdQ (ai @e (ai @h2 (ai @h1 (ai @nv_dgB @bz_Shift2))))
def a56 : AC := .seq (.reg [qr 4 (.mv (.k .nl)),
 qr 5 (.mv (.k (.i .i64 0)))])
 (.seq (.seq (.reg [qm 9 1,
 qr 10 (.bin .lss (.t 9) (.k (.i .i64 0)))])
 (.cond (.t 10)
 (.seq (.reg [qr 4 (.mv (.k .nl)),
 qr 5 (.mv (.k (.i .i64 3)))])
 (.ret))
 (.skip)))
 (.seq (.reg [qm 12 0,
 qm 13 1,
 qr 14 (.call 74 [(1, (.t 12)), (1, (.t 13))]),
 qm 11 14,
 qr 15 (.ext (.t 11) 0),
 qr 16 (.ext (.t 11) 1),
 qr 17 (.ext (.t 11) 2),
 qm 6 15,
 qm 7 16,
 qm 8 17])
 (.seq (.reg [qm 18 6,
 qr 19 (.call 47 [(1, (.t 18))]),
 qm 20 8,
 qm 4 19,
 qm 5 20])
 (.ret))))
end Go.Proofs.Ytdaedplbhpiacaa
