/-
  gauss: values at many, turns, squares.
-/
import Derived.Test.YtfkldohgiifgbaaG5
namespace Go.Proofs.Ytfkldohgiifgbaa
open Go Go.RowKit Ab
set_option linter.unusedSimpArgs false
set_option linter.unusedVariables false
set_option maxHeartbeats 10000000
theorem bz_G6 : type_of% (And.intro @W_len (And.intro @D_len (And.intro @Nat.div_one (And.intro @Nat.mul_one (And.intro @tn_nat (And.intro @W_nf (And.intro @D_nf (And.intro @W_nil (And.intro @D_nil (And.intro @wi (And.intro @nf_g (And.intro @Bool.false_and (And.intro @W_cell (And.intro @ZC_cell (@ZC_nil))))))))))))))) := And.intro @W_len (And.intro @D_len (And.intro @Nat.div_one (And.intro @Nat.mul_one (And.intro @tn_nat (And.intro @W_nf (And.intro @D_nf (And.intro @W_nil (And.intro @D_nil (And.intro @wi (And.intro @nf_g (And.intro @Bool.false_and (And.intro @W_cell (And.intro @ZC_cell (@ZC_nil))))))))))))))

/-- Gaussian integers in a row of two cells each -/
def NC : List GZ → List V
  | [] => []
  | z :: r => .i .i64 z.1 :: .i .i64 z.2 :: NC r
theorem NC_len : ∀ l, (NC l).length = l.length * 2
  | [] => rfl
  | p :: r => by simp only [NC, List.length_cons, NC_len r]; omega
theorem NC_row : ∀ (l : List GZ) (i : Nat), i < l.length → ((NC l).drop (i * 2)).take 2 = [.i .i64 (l.getD i (0, 0)).1, .i .i64 (l.getD i (0, 0)).2]
  | [], i, h => by simp at h
  | p :: r, 0, h => rfl
  | p :: r, i + 1, h => by
    have := NC_row r i (by simpa using h)
    rw [show (i + 1) * 2 = (i * 2 + 1) + 1 from by omega]
    exact this
theorem NC_app : ∀ (l r : List GZ), NC (l ++ r) = NC l ++ NC r
  | [], r => rfl
  | p :: l, r => by simp only [List.cons_append, NC, NC_app l r]
theorem NC_app1 (l : List GZ) (a b : Int) : NC l ++ [.i .i64 a, .i .i64 b] = NC (l ++ [(a, b)]) := by rw [NC_app]; rfl
theorem NC_nil : NC [] = [] := rfl
theorem NC_cell : ∀ l, (NC l).all V.cell = true
  | [] => rfl
  | p :: r => by simp only [NC, List.all_cons, V.cell, NC_cell r, Bool.and_true]
theorem NC_nf : ∀ l, anyNF (NC l) = false
  | [] => rfl
  | p :: r => by simp only [NC, anyNF, V.nf, NC_nf r, Bool.false_or]
theorem GZ_snoc (l : List GZ) (i : Nat) (h : i < l.length) : l.take (i + 1) = l.take i ++ [l.getD i (0, 0)] := by
  rw [List.take_succ_eq_append_getElem h, List.getD_eq_getElem?_getD, List.getElem?_eq_getElem h]; rfl
theorem GZ_mem {l : List GZ} {i : Nat} (h : i < l.length) : l.getD i (0, 0) ∈ l := by
  rw [List.getD_eq_getElem?_getD, List.getElem?_eq_getElem h]; exact List.getElem_mem h
theorem GZ_all {l : List GZ} {p : GZ → Prop} (h : ∀ j, j < l.length → p (l.getD j (0, 0))) : ∀ z, z ∈ l → p z := fun z hz => by
  obtain ⟨j, hj⟩ := List.getElem?_of_mem hz
  have h1 := (List.getElem?_eq_some_iff.1 hj).1
  have := h j h1
  rwa [List.getD_eq_getElem?_getD, hj] at this
-- surd/gauss.Values
def a18 : AC := .seq (.reg [⟨some 4, none, .mv (.k .nl)⟩, 
      ⟨some 5, none, .mv (.k (.i .i64 0))⟩])
  (.seq (.reg [⟨some 6, none, .mv (.k .nl)⟩])
  (.seq (.seq (.reg [⟨some 11, none, .mv (.t 1)⟩, 
        ⟨some 12, none, .len (.t 11)⟩, 
        ⟨some 13, none, .mv (.k (.i .i64 0))⟩])
    (.blk 0
    (.loop
      (.seq (.reg [⟨some 14, none, .bin .lss (.t 13) (.t 12)⟩])
        (.seq (.cond (.t 14)
          (.skip)
          (.exit 0))
        (.seq (.blk 1
          (.seq (.reg [⟨some 15, none, .idx 2 (.t 11) (.t 13)⟩, 
                ⟨some 16, none, .ld true 2 (.t 15)⟩, 
                ⟨some 8, none, .al 31 [(.i .i64 0), (.i .i64 0)]⟩, 
                ⟨none, none, .st 2 (.t 8) (.t 16)⟩])
            (.seq (.reg [⟨some 18, none, .mv (.t 0)⟩, 
                ⟨some 19, none, .ld true 2 (.t 8)⟩, 
                ⟨some 20, none, .call 14 [(2, (.t 18)), (1, (.t 19))]⟩, 
                ⟨some 17, none, .mv (.t 20)⟩, 
                ⟨some 21, none, .ext (.t 17) 0⟩, 
                ⟨some 22, none, .ext (.t 17) 1⟩, 
                ⟨some 9, none, .al 31 [(.i .i64 0), (.i .i64 0)]⟩, 
                ⟨none, none, .st 2 (.t 9) (.t 21)⟩, 
                ⟨some 10, none, .mv (.t 22)⟩])
            (.seq (.seq (.reg [⟨some 23, none, .mv (.t 10)⟩, 
                  ⟨some 24, none, .bin .neq (.t 23) (.k (.i .i64 0))⟩])
              (.cond (.t 24)
              (.seq (.reg [⟨some 25, none, .mv (.t 10)⟩, 
                    ⟨some 4, none, .mv (.k .nl)⟩, 
                    ⟨some 5, none, .mv (.t 25)⟩])
                (.ret))
              (.skip)))
            (.reg [⟨some 26, none, .mv (.t 6)⟩, 
              ⟨some 27, none, .ld true 2 (.t 9)⟩, 
              ⟨some 28, none, .bsl 31 2 1 [(.i .i64 0), (.i .i64 0)] [(0, (.t 27))]⟩, 
              ⟨some 29, none, .app 31 2 16 (.t 26) (.t 28)⟩, 
              ⟨some 6, none, .mv (.t 29)⟩])))))
        (.reg [⟨some 30, none, .bin .add (.t 13) (.k (.i .i64 1))⟩, 
          ⟨some 13, none, .mv (.t 30)⟩])))))))
  (.seq (.reg [⟨some 31, none, .mv (.t 6)⟩, 
      ⟨some 4, none, .mv (.t 31)⟩, 
      ⟨some 5, none, .mv (.k (.i .i64 0))⟩])
  (.ret))))
theorem gvalsS (l : List (Bool × List Nat)) (m : Nat) (hm : m ≤ 100000000) (hl : ZOk l m) (zs : List GZ) (lz : zs.length ≤ 100000000) : AFun Try.prog J0 18 [.l 2 (ZC l), .l 2 (NC zs)] (.t [.l 2 (NC (vsF (zcs l) zs)), .i .i64 (vsE (zcs l) zs)]) := by
  have hv := gvalS l m hm hl
  obtain ⟨R, hR⟩ : ∃ R, R = vsF (zcs l) zs := ⟨_, rfl⟩
  obtain ⟨e, he0⟩ : ∃ e, e = vsE (zcs l) zs := ⟨_, rfl⟩
  rw [← hR, ← he0]
  have hnl : (NC zs).length / 2 = zs.length := by rw [NC_len]; omega
  have hnz := NC_len zs
  obtain ⟨n, hn⟩ : ∃ n, n = zs.length := ⟨_, rfl⟩
  rw [← hn] at hnl hnz
  refine AFun.mk fol J0s Try.func18 rfl (ac := a18) (by kernel_rfl) rfl rfl ?_
  apply vm_start
  unfold a18
  simp only [init_eq, initE]
  repeat first
    | (refine hK _ ?_; clear hK K)
    | ((first | refine vm_reg (fun K hK => ?_) | refine vm_dreg (fun K hK => ?_)); simp (disch := (first | omega | assumption)) only [S1, ↓reduceIte, Nat.reduceEqDiff, Nat.reduceAdd, Nat.reduceMul, Nat.reduceDiv, AOp.sb, AOp.mut, ↓Bool.false_eq_true, beq_self_eq_true, ite_self, Nat.reduceLeDiff, Int.reduceEq, Int.reduceSub, Int.reduceAdd, Int.reduceNeg, Int.reduceLT, Int.reduceLE, Nat.reduceLT, bz_G6, hnl]; refine hK _ ?_; clear hK K)
    | simp only [Sv, ↓reduceIte, Nat.reduceEqDiff]
  refine vm_loopA [(6, 31, 2)] Nat (fun i => ⟨[(0, .l 2 (ZC l)), (6, .ow 2 0 i), (11, .l 2 (NC zs)), (12, .i .i64 (n : Int)), (13, .i .i64 (i : Int))],
      [(0, some ⟨31, 2, NC ((zs.take i).map (vF (zcs l))), true, false⟩)], 1⟩)
    (fun i => i ≤ n ∧ ∀ j, j < i → vOk (zcs l) (zs.getD j (0, 0))) (fun i => n - i) 0 ⟨Nat.zero_le _, fun j h => by omega⟩ (by simp (disch := (first | omega | assumption)) only [Sl, Sa, Sw, ↓reduceIte, Nat.reduceEqDiff, Nat.reduceLT, List.all_nil, List.all_cons, Nat.reduceBneDiff, Nat.reduceAdd, bne_iff_ne, ne_eq, reduceCtorEq, not_false_eq_true, not_true_eq_false, Bool.and_true, Bool.true_and, and_true, true_and, and_self]) (by
    simp (disch := (first | omega | assumption)) only [Sl, Sa, Sw, ↓reduceIte, Nat.reduceEqDiff, Nat.reduceLT, List.all_nil, List.all_cons, Nat.reduceBneDiff, Nat.reduceAdd, bne_iff_ne, ne_eq, reduceCtorEq, not_false_eq_true, not_true_eq_false, Bool.and_true, Bool.true_and, and_true, true_and, and_self, i_eq]
    repeat' first | rfl | omega | (simp only [List.length_append, List.length_cons, List.length_nil]; done) | apply And.intro) ?_
  rintro i ⟨hi, hj⟩ Q' hQ he hr
  by_cases h : (i : Int) < (n : Int)
  · have hiz : i < zs.length := by omega
    have row := NC_row zs i hiz
    have hvi := hv (zs.getD i (0, 0))
    have hsn := GZ_snoc zs i hiz
    have hmem := GZ_mem hiz
    have hjn : vOk (zcs l) (zs.getD i (0, 0)) → ∀ j, j < i + 1 → vOk (zcs l) (zs.getD j (0, 0)) := fun h0 j h1 => by
      rcases Nat.lt_or_ge j i with h2 | h2
      · exact hj j h2
      · obtain rfl : j = i := by omega
        exact h0
    generalize zs.getD i (0, 0) = z at *
    simp only [nV] at hvi
    by_cases hok : vOk (zcs l) z
    · rw [show vE (zcs l) z = 0 from if_pos hok] at hvi
      have hap := NC_app1 ((zs.take i).map (vF (zcs l))) (vF (zcs l) z).1 (vF (zcs l) z).2
      have hap2 : (zs.take i).map (vF (zcs l)) ++ [((vF (zcs l) z).1, (vF (zcs l) z).2)] = (zs.take (i + 1)).map (vF (zcs l)) := by rw [hsn, List.map_append]; rfl
      rw [hap2] at hap
      have l0 := NC_len ((zs.take i).map (vF (zcs l)))
      have l1 := NC_len ((zs.take (i + 1)).map (vF (zcs l)))
      rw [List.length_map, List.length_take] at l0 l1
      have zc1 := hvi
      repeat first | (refine hK _ ?_; clear hK K) | simp only [Sv, ↓reduceIte, Nat.reduceEqDiff] | ((first | refine vm_reg (fun K hK => ?_) | refine vm_dreg (fun K hK => ?_) | refine clp_q ?_ | refine clq_mk (by assumption) ?_); simp (disch := (first | omega | assumption)) only [S1, ↓reduceIte, Nat.reduceEqDiff, Nat.reduceAdd, Nat.reduceMul, Nat.reduceDiv, AOp.sb, AOp.mut, ↓Bool.false_eq_true, beq_self_eq_true, ite_self, Nat.reduceLeDiff, Int.reduceEq, Int.reduceSub, Int.reduceAdd, Int.reduceNeg, Int.reduceLT, Int.reduceLE, Nat.reduceLT, bz_G6, h, hnz, row, hap])
      refine hQ _ (i + 1) ⟨by omega, hjn hok⟩ (by omega) ?_
      simp (disch := (first | omega | assumption)) only [Sl, Sa, Sw, ↓reduceIte, Nat.reduceEqDiff, Nat.reduceLT, List.all_nil, List.all_cons, Nat.reduceBneDiff, Nat.reduceAdd, bne_iff_ne, ne_eq, reduceCtorEq, not_false_eq_true, not_true_eq_false, Bool.and_true, Bool.true_and, and_true, true_and, and_self, i_eq]
      repeat' first | rfl | omega | (simp only [List.length_append, List.length_cons, List.length_nil]; done) | apply And.intro
    · rw [show vE (zcs l) z = 13 from if_neg hok, show vF (zcs l) z = (0, 0) from if_neg hok] at hvi
      obtain rfl : e = 13 := by rw [he0]; exact if_neg fun h => hok (h z hmem)
      obtain rfl : R = [] := by rw [hR]; unfold vsF; rw [← he0]; rfl
      have zc2 := hvi
      repeat first | (refine hK _ ?_; clear hK K) | simp only [Sv, ↓reduceIte, Nat.reduceEqDiff] | ((first | refine vm_reg (fun K hK => ?_) | refine vm_dreg (fun K hK => ?_) | refine clp_q ?_ | refine clq_mk (by assumption) ?_); simp (disch := (first | omega | assumption)) only [S1, ↓reduceIte, Nat.reduceEqDiff, Nat.reduceAdd, Nat.reduceMul, Nat.reduceDiv, AOp.sb, AOp.mut, ↓Bool.false_eq_true, beq_self_eq_true, ite_self, Nat.reduceLeDiff, Int.reduceEq, Int.reduceSub, Int.reduceAdd, Int.reduceNeg, Int.reduceLT, Int.reduceLE, Nat.reduceLT, bz_G6, h, hnz, row])
      refine hr _ ?_
      simp (disch := (first | omega | assumption)) only [retOk, retN, ret1, retF, ret1F, V.okArg, and_true, true_and, S1, ↓reduceIte, Nat.reduceEqDiff, Nat.reduceAdd, Nat.reduceMul, Nat.reduceDiv, AOp.sb, AOp.mut, ↓Bool.false_eq_true, beq_self_eq_true, ite_self, Nat.reduceLeDiff, Int.reduceEq, Int.reduceSub, Int.reduceAdd, Int.reduceNeg, Int.reduceLT, Int.reduceLE, Nat.reduceLT, bz_G6, NC_nil]
  · obtain rfl : i = n := by omega
    have hall := GZ_all (l := zs) (p := vOk (zcs l)) fun j h => hj j (by omega)
    obtain rfl : e = 0 := by rw [he0]; exact if_pos hall
    have hR2 : R = zs.map (vF (zcs l)) := by rw [hR]; unfold vsF; rw [← he0]; rfl
    rw [show zs.take i = zs from by rw [hn, List.take_length], ← hR2]
    have l0 := NC_len R
    repeat first
      | (refine hK _ ?_; clear hK K)
      | ((first | refine vm_reg (fun K hK => ?_) | refine vm_dreg (fun K hK => ?_)); simp (disch := (first | omega | assumption)) only [S1, ↓reduceIte, Nat.reduceEqDiff, Nat.reduceAdd, Nat.reduceMul, Nat.reduceDiv, AOp.sb, AOp.mut, ↓Bool.false_eq_true, beq_self_eq_true, ite_self, Nat.reduceLeDiff, Int.reduceEq, Int.reduceSub, Int.reduceAdd, Int.reduceNeg, Int.reduceLT, Int.reduceLE, Nat.reduceLT, bz_G6, h]; refine hK _ ?_; clear hK K)
      | simp only [Sv, ↓reduceIte, Nat.reduceEqDiff]
    refine he _ _ ?_
    repeat first
      | (refine hK _ ?_; clear hK K)
      | ((first | refine vm_reg (fun K hK => ?_) | refine vm_dreg (fun K hK => ?_)); simp (disch := (first | omega | assumption)) only [S1, ↓reduceIte, Nat.reduceEqDiff, Nat.reduceAdd, Nat.reduceMul, Nat.reduceDiv, AOp.sb, AOp.mut, ↓Bool.false_eq_true, beq_self_eq_true, ite_self, Nat.reduceLeDiff, Int.reduceEq, Int.reduceSub, Int.reduceAdd, Int.reduceNeg, Int.reduceLT, Int.reduceLE, Nat.reduceLT, bz_G6]; refine hK _ ?_; clear hK K)
      | simp only [Sv, ↓reduceIte, Nat.reduceEqDiff]
    simp (disch := (first | omega | assumption)) only [retOk, retN, ret1, retF, ret1F, V.okArg, and_true, true_and, S1, ↓reduceIte, Nat.reduceEqDiff, Nat.reduceAdd, Nat.reduceMul, Nat.reduceDiv, AOp.sb, AOp.mut, ↓Bool.false_eq_true, beq_self_eq_true, ite_self, Nat.reduceLeDiff, Int.reduceEq, Int.reduceSub, Int.reduceAdd, Int.reduceNeg, Int.reduceLT, Int.reduceLE, Nat.reduceLT, bz_G6]
-- surd/gauss.Eighth
def a22 : AC := .seq (.reg [⟨some 1, none, .bx 31 (.t 0)⟩, 
      ⟨some 2, none, .mv (.k (.i .i64 0))⟩, 
      ⟨some 3, none, .mv (.k (.i .i64 0))⟩])
  (.seq (.seq (.reg [⟨some 7, none, .ld true 2 (.t 1)⟩, 
        ⟨some 8, none, .call 35 [(1, (.t 7))]⟩, 
        ⟨some 6, none, .mv (.t 8)⟩, 
        ⟨some 9, none, .ext (.t 6) 0⟩, 
        ⟨some 10, none, .ext (.t 6) 1⟩, 
        ⟨some 4, none, .mv (.t 9)⟩, 
        ⟨some 5, none, .mv (.t 10)⟩])
    (.seq (.reg [⟨some 11, none, .mv (.t 5)⟩, 
        ⟨some 12, none, .bin .neq (.t 11) (.k (.i .i64 0))⟩])
    (.cond (.t 12)
    (.seq (.reg [⟨some 13, none, .mv (.t 5)⟩, 
          ⟨some 2, none, .mv (.k (.i .i64 0))⟩, 
          ⟨some 3, none, .mv (.t 13)⟩])
      (.ret))
    (.skip))))
  (.seq (.blk 0
    (.seq (.reg [⟨some 15, none, .fad 0 (.t 1)⟩, 
          ⟨some 16, none, .ld false 1 (.t 15)⟩, 
          ⟨some 17, none, .bin .eql (.t 16) (.k (.i .i64 0))⟩, 
          ⟨some 18, none, .mv (.t 17)⟩, 
          ⟨some 19, some (18, true), .fad 1 (.t 1)⟩, 
          ⟨some 20, some (18, true), .ld false 1 (.t 19)⟩, 
          ⟨some 21, some (18, true), .bin .eql (.t 20) (.k (.i .i64 0))⟩, 
          ⟨some 22, none, .pick (.t 18) (.t 21) (.k (.b false))⟩, 
          ⟨some 14, none, .mv (.t 22)⟩])
      (.cond (.t 14)
      (.seq (.reg [⟨some 2, none, .mv (.k (.i .i64 0))⟩, 
            ⟨some 3, none, .mv (.k (.i .i64 1))⟩])
        (.ret))
      (.seq (.reg [⟨some 24, none, .fad 1 (.t 1)⟩, 
            ⟨some 25, none, .ld false 1 (.t 24)⟩, 
            ⟨some 26, none, .bin .eql (.t 25) (.k (.i .i64 0))⟩, 
            ⟨some 27, none, .mv (.t 26)⟩, 
            ⟨some 28, some (27, true), .fad 0 (.t 1)⟩, 
            ⟨some 29, some (27, true), .ld false 1 (.t 28)⟩, 
            ⟨some 30, some (27, true), .bin .gtr (.t 29) (.k (.i .i64 0))⟩, 
            ⟨some 31, none, .pick (.t 27) (.t 30) (.k (.b false))⟩, 
            ⟨some 23, none, .mv (.t 31)⟩])
        (.cond (.t 23)
        (.seq (.reg [⟨some 2, none, .mv (.k (.i .i64 0))⟩, 
              ⟨some 3, none, .mv (.k (.i .i64 0))⟩])
          (.ret))
        (.seq (.reg [⟨some 33, none, .fad 1 (.t 1)⟩, 
              ⟨some 34, none, .ld false 1 (.t 33)⟩, 
              ⟨some 35, none, .bin .eql (.t 34) (.k (.i .i64 0))⟩, 
              ⟨some 32, none, .mv (.t 35)⟩])
          (.cond (.t 32)
          (.seq (.reg [⟨some 2, none, .mv (.k (.i .i64 4))⟩, 
                ⟨some 3, none, .mv (.k (.i .i64 0))⟩])
            (.ret))
          (.seq (.reg [⟨some 37, none, .fad 0 (.t 1)⟩, 
                ⟨some 38, none, .ld false 1 (.t 37)⟩, 
                ⟨some 39, none, .bin .eql (.t 38) (.k (.i .i64 0))⟩, 
                ⟨some 40, none, .mv (.t 39)⟩, 
                ⟨some 41, some (40, true), .fad 1 (.t 1)⟩, 
                ⟨some 42, some (40, true), .ld false 1 (.t 41)⟩, 
                ⟨some 43, some (40, true), .bin .gtr (.t 42) (.k (.i .i64 0))⟩, 
                ⟨some 44, none, .pick (.t 40) (.t 43) (.k (.b false))⟩, 
                ⟨some 36, none, .mv (.t 44)⟩])
            (.cond (.t 36)
            (.seq (.reg [⟨some 2, none, .mv (.k (.i .i64 2))⟩, 
                  ⟨some 3, none, .mv (.k (.i .i64 0))⟩])
              (.ret))
            (.seq (.reg [⟨some 46, none, .fad 0 (.t 1)⟩, 
                  ⟨some 47, none, .ld false 1 (.t 46)⟩, 
                  ⟨some 48, none, .bin .eql (.t 47) (.k (.i .i64 0))⟩, 
                  ⟨some 45, none, .mv (.t 48)⟩])
              (.cond (.t 45)
              (.seq (.reg [⟨some 2, none, .mv (.k (.i .i64 6))⟩, 
                    ⟨some 3, none, .mv (.k (.i .i64 0))⟩])
                (.ret))
              (.seq (.reg [⟨some 50, none, .fad 1 (.t 1)⟩, 
                    ⟨some 51, none, .ld false 1 (.t 50)⟩, 
                    ⟨some 52, none, .bin .gtr (.t 51) (.k (.i .i64 0))⟩, 
                    ⟨some 53, none, .mv (.t 52)⟩, 
                    ⟨some 54, some (53, true), .fad 0 (.t 1)⟩, 
                    ⟨some 55, some (53, true), .ld false 1 (.t 54)⟩, 
                    ⟨some 56, some (53, true), .bin .gtr (.t 55) (.k (.i .i64 0))⟩, 
                    ⟨some 57, none, .pick (.t 53) (.t 56) (.k (.b false))⟩, 
                    ⟨some 49, none, .mv (.t 57)⟩])
                (.cond (.t 49)
                (.seq (.reg [⟨some 2, none, .mv (.k (.i .i64 1))⟩, 
                      ⟨some 3, none, .mv (.k (.i .i64 0))⟩])
                  (.ret))
                (.seq (.reg [⟨some 59, none, .fad 1 (.t 1)⟩, 
                      ⟨some 60, none, .ld false 1 (.t 59)⟩, 
                      ⟨some 61, none, .bin .gtr (.t 60) (.k (.i .i64 0))⟩, 
                      ⟨some 58, none, .mv (.t 61)⟩])
                  (.cond (.t 58)
                  (.seq (.reg [⟨some 2, none, .mv (.k (.i .i64 3))⟩, 
                        ⟨some 3, none, .mv (.k (.i .i64 0))⟩])
                    (.ret))
                  (.seq (.reg [⟨some 63, none, .fad 0 (.t 1)⟩, 
                        ⟨some 64, none, .ld false 1 (.t 63)⟩, 
                        ⟨some 65, none, .bin .lss (.t 64) (.k (.i .i64 0))⟩, 
                        ⟨some 62, none, .mv (.t 65)⟩])
                    (.cond (.t 62)
                    (.seq (.reg [⟨some 2, none, .mv (.k (.i .i64 5))⟩, 
                          ⟨some 3, none, .mv (.k (.i .i64 0))⟩])
                      (.ret))
                    (.skip))))))))))))))))))
  (.seq (.reg [⟨some 2, none, .mv (.k (.i .i64 7))⟩, 
      ⟨some 3, none, .mv (.k (.i .i64 0))⟩])
  (.ret))))
theorem geiS (z : GZ) : AFun Try.prog J0 22 [nV z] (.t [.i .i64 (eiF z), .i .i64 (eiE z)]) := by
  obtain ⟨a, b⟩ := z
  by_cases h1 : gsz (a, b) < SM
  · have p1 := gsize_ok h1
    have hE : eiE (a, b) = if a = 0 ∧ b = 0 then 1 else 0 := by unfold eiE; rw [if_pos h1]; simp only [Prod.mk.injEq]
    simp only [nV] at *
    generalize gsz (a, b) = s at *
    rcases Int.lt_trichotomy a 0 with ha | ha | ha <;> rcases Int.lt_trichotomy b 0 with hb | hb | hb
    all_goals
      first
        | (have e0 : eiE (a, b) = 0 := by rw [hE]; exact if_neg (by omega)
           rw [show eiF (a, b) = ei (a, b) from if_pos e0, e0])
        | (have e0 : eiE (a, b) = 1 := by rw [hE]; exact if_pos (by omega)
           rw [show eiF (a, b) = 0 from if_neg (by rw [e0]; decide), e0])
    · have a1 : ¬ a = 0 := by omega
      have b1 : ¬ b = 0 := by omega
      have b2 : ¬ 0 < b := by omega
      rw [show ei (a, b) = 5 from by unfold ei; simp only [a1, b1, b2, ha, if_true, if_false]]
      refine AFun.mk fol J0s Try.func22 rfl (ac := a22) (by kernel_rfl) rfl rfl ?_
      apply vm_start
      unfold a22
      simp only [init_eq, initE]
      have zc3 := p1
      repeat first | (refine hK _ ?_; clear hK K) | simp only [Sv, ↓reduceIte, Nat.reduceEqDiff] | ((first | refine vm_reg (fun K hK => ?_) | refine vm_dreg (fun K hK => ?_) | refine clp_q ?_ | refine clq_mk (by assumption) ?_); simp (disch := (first | omega | assumption)) only [S1, ↓reduceIte, Nat.reduceEqDiff, Nat.reduceAdd, Nat.reduceMul, Nat.reduceDiv, AOp.sb, AOp.mut, ↓Bool.false_eq_true, beq_self_eq_true, ite_self, Nat.reduceLeDiff, Int.reduceEq, Int.reduceSub, Int.reduceAdd, Int.reduceNeg, Int.reduceLT, Int.reduceLE, Nat.reduceLT, bz_G6, a1, b1, b2, ha])
      simp (disch := (first | omega | assumption)) only [retOk, retN, ret1, retF, ret1F, V.okArg, and_true, true_and, S1, ↓reduceIte, Nat.reduceEqDiff, Nat.reduceAdd, Nat.reduceMul, Nat.reduceDiv, AOp.sb, AOp.mut, ↓Bool.false_eq_true, beq_self_eq_true, ite_self, Nat.reduceLeDiff, Int.reduceEq, Int.reduceSub, Int.reduceAdd, Int.reduceNeg, Int.reduceLT, Int.reduceLE, Nat.reduceLT, bz_G6, a1, b1, b2, ha]
    · subst hb
      have a1 : ¬ a = 0 := by omega
      have a2 : ¬ 0 < a := by omega
      rw [show ei (a, 0) = 4 from by unfold ei; simp only [a2, if_true, if_false]]
      refine AFun.mk fol J0s Try.func22 rfl (ac := a22) (by kernel_rfl) rfl rfl ?_
      apply vm_start
      unfold a22
      simp only [init_eq, initE]
      have zc4 := p1
      repeat first | (refine hK _ ?_; clear hK K) | simp only [Sv, ↓reduceIte, Nat.reduceEqDiff] | ((first | refine vm_reg (fun K hK => ?_) | refine vm_dreg (fun K hK => ?_) | refine clp_q ?_ | refine clq_mk (by assumption) ?_); simp (disch := (first | omega | assumption)) only [S1, ↓reduceIte, Nat.reduceEqDiff, Nat.reduceAdd, Nat.reduceMul, Nat.reduceDiv, AOp.sb, AOp.mut, ↓Bool.false_eq_true, beq_self_eq_true, ite_self, Nat.reduceLeDiff, Int.reduceEq, Int.reduceSub, Int.reduceAdd, Int.reduceNeg, Int.reduceLT, Int.reduceLE, Nat.reduceLT, bz_G6, a1, a2])
      simp (disch := (first | omega | assumption)) only [retOk, retN, ret1, retF, ret1F, V.okArg, and_true, true_and, S1, ↓reduceIte, Nat.reduceEqDiff, Nat.reduceAdd, Nat.reduceMul, Nat.reduceDiv, AOp.sb, AOp.mut, ↓Bool.false_eq_true, beq_self_eq_true, ite_self, Nat.reduceLeDiff, Int.reduceEq, Int.reduceSub, Int.reduceAdd, Int.reduceNeg, Int.reduceLT, Int.reduceLE, Nat.reduceLT, bz_G6, a1, a2]
    · have a1 : ¬ a = 0 := by omega
      have a2 : ¬ 0 < a := by omega
      have b1 : ¬ b = 0 := by omega
      rw [show ei (a, b) = 3 from by unfold ei; simp only [a1, a2, b1, hb, if_true, if_false]]
      refine AFun.mk fol J0s Try.func22 rfl (ac := a22) (by kernel_rfl) rfl rfl ?_
      apply vm_start
      unfold a22
      simp only [init_eq, initE]
      have zc5 := p1
      repeat first | (refine hK _ ?_; clear hK K) | simp only [Sv, ↓reduceIte, Nat.reduceEqDiff] | ((first | refine vm_reg (fun K hK => ?_) | refine vm_dreg (fun K hK => ?_) | refine clp_q ?_ | refine clq_mk (by assumption) ?_); simp (disch := (first | omega | assumption)) only [S1, ↓reduceIte, Nat.reduceEqDiff, Nat.reduceAdd, Nat.reduceMul, Nat.reduceDiv, AOp.sb, AOp.mut, ↓Bool.false_eq_true, beq_self_eq_true, ite_self, Nat.reduceLeDiff, Int.reduceEq, Int.reduceSub, Int.reduceAdd, Int.reduceNeg, Int.reduceLT, Int.reduceLE, Nat.reduceLT, bz_G6, a1, a2, b1, hb])
      simp (disch := (first | omega | assumption)) only [retOk, retN, ret1, retF, ret1F, V.okArg, and_true, true_and, S1, ↓reduceIte, Nat.reduceEqDiff, Nat.reduceAdd, Nat.reduceMul, Nat.reduceDiv, AOp.sb, AOp.mut, ↓Bool.false_eq_true, beq_self_eq_true, ite_self, Nat.reduceLeDiff, Int.reduceEq, Int.reduceSub, Int.reduceAdd, Int.reduceNeg, Int.reduceLT, Int.reduceLE, Nat.reduceLT, bz_G6, a1, a2, b1, hb]
    · subst ha
      have b1 : ¬ b = 0 := by omega
      have b2 : ¬ 0 < b := by omega
      rw [show ei (0, b) = 6 from by unfold ei; simp only [b1, b2, if_true, if_false]]
      refine AFun.mk fol J0s Try.func22 rfl (ac := a22) (by kernel_rfl) rfl rfl ?_
      apply vm_start
      unfold a22
      simp only [init_eq, initE]
      have zc6 := p1
      repeat first | (refine hK _ ?_; clear hK K) | simp only [Sv, ↓reduceIte, Nat.reduceEqDiff] | ((first | refine vm_reg (fun K hK => ?_) | refine vm_dreg (fun K hK => ?_) | refine clp_q ?_ | refine clq_mk (by assumption) ?_); simp (disch := (first | omega | assumption)) only [S1, ↓reduceIte, Nat.reduceEqDiff, Nat.reduceAdd, Nat.reduceMul, Nat.reduceDiv, AOp.sb, AOp.mut, ↓Bool.false_eq_true, beq_self_eq_true, ite_self, Nat.reduceLeDiff, Int.reduceEq, Int.reduceSub, Int.reduceAdd, Int.reduceNeg, Int.reduceLT, Int.reduceLE, Nat.reduceLT, bz_G6, b1, b2])
      simp (disch := (first | omega | assumption)) only [retOk, retN, ret1, retF, ret1F, V.okArg, and_true, true_and, S1, ↓reduceIte, Nat.reduceEqDiff, Nat.reduceAdd, Nat.reduceMul, Nat.reduceDiv, AOp.sb, AOp.mut, ↓Bool.false_eq_true, beq_self_eq_true, ite_self, Nat.reduceLeDiff, Int.reduceEq, Int.reduceSub, Int.reduceAdd, Int.reduceNeg, Int.reduceLT, Int.reduceLE, Nat.reduceLT, bz_G6, b1, b2]
    · subst ha
      subst hb
      refine AFun.mk fol J0s Try.func22 rfl (ac := a22) (by kernel_rfl) rfl rfl ?_
      apply vm_start
      unfold a22
      simp only [init_eq, initE]
      have zc7 := p1
      repeat first | (refine hK _ ?_; clear hK K) | simp only [Sv, ↓reduceIte, Nat.reduceEqDiff] | ((first | refine vm_reg (fun K hK => ?_) | refine vm_dreg (fun K hK => ?_) | refine clp_q ?_ | refine clq_mk (by assumption) ?_); simp (disch := (first | omega | assumption)) only [S1, ↓reduceIte, Nat.reduceEqDiff, Nat.reduceAdd, Nat.reduceMul, Nat.reduceDiv, AOp.sb, AOp.mut, ↓Bool.false_eq_true, beq_self_eq_true, ite_self, Nat.reduceLeDiff, Int.reduceEq, Int.reduceSub, Int.reduceAdd, Int.reduceNeg, Int.reduceLT, Int.reduceLE, Nat.reduceLT, bz_G6])
      simp (disch := (first | omega | assumption)) only [retOk, retN, ret1, retF, ret1F, V.okArg, and_true, true_and, S1, ↓reduceIte, Nat.reduceEqDiff, Nat.reduceAdd, Nat.reduceMul, Nat.reduceDiv, AOp.sb, AOp.mut, ↓Bool.false_eq_true, beq_self_eq_true, ite_self, Nat.reduceLeDiff, Int.reduceEq, Int.reduceSub, Int.reduceAdd, Int.reduceNeg, Int.reduceLT, Int.reduceLE, Nat.reduceLT, bz_G6]
    · subst ha
      have b1 : ¬ b = 0 := by omega
      rw [show ei (0, b) = 2 from by unfold ei; simp only [b1, hb, if_true, if_false]]
      refine AFun.mk fol J0s Try.func22 rfl (ac := a22) (by kernel_rfl) rfl rfl ?_
      apply vm_start
      unfold a22
      simp only [init_eq, initE]
      have zc8 := p1
      repeat first | (refine hK _ ?_; clear hK K) | simp only [Sv, ↓reduceIte, Nat.reduceEqDiff] | ((first | refine vm_reg (fun K hK => ?_) | refine vm_dreg (fun K hK => ?_) | refine clp_q ?_ | refine clq_mk (by assumption) ?_); simp (disch := (first | omega | assumption)) only [S1, ↓reduceIte, Nat.reduceEqDiff, Nat.reduceAdd, Nat.reduceMul, Nat.reduceDiv, AOp.sb, AOp.mut, ↓Bool.false_eq_true, beq_self_eq_true, ite_self, Nat.reduceLeDiff, Int.reduceEq, Int.reduceSub, Int.reduceAdd, Int.reduceNeg, Int.reduceLT, Int.reduceLE, Nat.reduceLT, bz_G6, b1, hb])
      simp (disch := (first | omega | assumption)) only [retOk, retN, ret1, retF, ret1F, V.okArg, and_true, true_and, S1, ↓reduceIte, Nat.reduceEqDiff, Nat.reduceAdd, Nat.reduceMul, Nat.reduceDiv, AOp.sb, AOp.mut, ↓Bool.false_eq_true, beq_self_eq_true, ite_self, Nat.reduceLeDiff, Int.reduceEq, Int.reduceSub, Int.reduceAdd, Int.reduceNeg, Int.reduceLT, Int.reduceLE, Nat.reduceLT, bz_G6, b1, hb]
    · have a1 : ¬ a = 0 := by omega
      have a2 : ¬ a < 0 := by omega
      have b1 : ¬ b = 0 := by omega
      have b2 : ¬ 0 < b := by omega
      rw [show ei (a, b) = 7 from by unfold ei; simp only [a1, a2, b1, b2, if_true, if_false]]
      refine AFun.mk fol J0s Try.func22 rfl (ac := a22) (by kernel_rfl) rfl rfl ?_
      apply vm_start
      unfold a22
      simp only [init_eq, initE]
      have zc9 := p1
      repeat first | (refine hK _ ?_; clear hK K) | simp only [Sv, ↓reduceIte, Nat.reduceEqDiff] | ((first | refine vm_reg (fun K hK => ?_) | refine vm_dreg (fun K hK => ?_) | refine clp_q ?_ | refine clq_mk (by assumption) ?_); simp (disch := (first | omega | assumption)) only [S1, ↓reduceIte, Nat.reduceEqDiff, Nat.reduceAdd, Nat.reduceMul, Nat.reduceDiv, AOp.sb, AOp.mut, ↓Bool.false_eq_true, beq_self_eq_true, ite_self, Nat.reduceLeDiff, Int.reduceEq, Int.reduceSub, Int.reduceAdd, Int.reduceNeg, Int.reduceLT, Int.reduceLE, Nat.reduceLT, bz_G6, a1, a2, b1, b2])
      simp (disch := (first | omega | assumption)) only [retOk, retN, ret1, retF, ret1F, V.okArg, and_true, true_and, S1, ↓reduceIte, Nat.reduceEqDiff, Nat.reduceAdd, Nat.reduceMul, Nat.reduceDiv, AOp.sb, AOp.mut, ↓Bool.false_eq_true, beq_self_eq_true, ite_self, Nat.reduceLeDiff, Int.reduceEq, Int.reduceSub, Int.reduceAdd, Int.reduceNeg, Int.reduceLT, Int.reduceLE, Nat.reduceLT, bz_G6, a1, a2, b1, b2]
    · subst hb
      have a1 : ¬ a = 0 := by omega
      rw [show ei (a, 0) = 0 from by unfold ei; simp only [ha, if_true, if_false]]
      refine AFun.mk fol J0s Try.func22 rfl (ac := a22) (by kernel_rfl) rfl rfl ?_
      apply vm_start
      unfold a22
      simp only [init_eq, initE]
      have zc10 := p1
      repeat first | (refine hK _ ?_; clear hK K) | simp only [Sv, ↓reduceIte, Nat.reduceEqDiff] | ((first | refine vm_reg (fun K hK => ?_) | refine vm_dreg (fun K hK => ?_) | refine clp_q ?_ | refine clq_mk (by assumption) ?_); simp (disch := (first | omega | assumption)) only [S1, ↓reduceIte, Nat.reduceEqDiff, Nat.reduceAdd, Nat.reduceMul, Nat.reduceDiv, AOp.sb, AOp.mut, ↓Bool.false_eq_true, beq_self_eq_true, ite_self, Nat.reduceLeDiff, Int.reduceEq, Int.reduceSub, Int.reduceAdd, Int.reduceNeg, Int.reduceLT, Int.reduceLE, Nat.reduceLT, bz_G6, a1, ha])
      simp (disch := (first | omega | assumption)) only [retOk, retN, ret1, retF, ret1F, V.okArg, and_true, true_and, S1, ↓reduceIte, Nat.reduceEqDiff, Nat.reduceAdd, Nat.reduceMul, Nat.reduceDiv, AOp.sb, AOp.mut, ↓Bool.false_eq_true, beq_self_eq_true, ite_self, Nat.reduceLeDiff, Int.reduceEq, Int.reduceSub, Int.reduceAdd, Int.reduceNeg, Int.reduceLT, Int.reduceLE, Nat.reduceLT, bz_G6, a1, ha]
    · have a1 : ¬ a = 0 := by omega
      have b1 : ¬ b = 0 := by omega
      rw [show ei (a, b) = 1 from by unfold ei; simp only [a1, ha, b1, hb, if_true, if_false]]
      refine AFun.mk fol J0s Try.func22 rfl (ac := a22) (by kernel_rfl) rfl rfl ?_
      apply vm_start
      unfold a22
      simp only [init_eq, initE]
      have zc11 := p1
      repeat first | (refine hK _ ?_; clear hK K) | simp only [Sv, ↓reduceIte, Nat.reduceEqDiff] | ((first | refine vm_reg (fun K hK => ?_) | refine vm_dreg (fun K hK => ?_) | refine clp_q ?_ | refine clq_mk (by assumption) ?_); simp (disch := (first | omega | assumption)) only [S1, ↓reduceIte, Nat.reduceEqDiff, Nat.reduceAdd, Nat.reduceMul, Nat.reduceDiv, AOp.sb, AOp.mut, ↓Bool.false_eq_true, beq_self_eq_true, ite_self, Nat.reduceLeDiff, Int.reduceEq, Int.reduceSub, Int.reduceAdd, Int.reduceNeg, Int.reduceLT, Int.reduceLE, Nat.reduceLT, bz_G6, a1, ha, b1, hb])
      simp (disch := (first | omega | assumption)) only [retOk, retN, ret1, retF, ret1F, V.okArg, and_true, true_and, S1, ↓reduceIte, Nat.reduceEqDiff, Nat.reduceAdd, Nat.reduceMul, Nat.reduceDiv, AOp.sb, AOp.mut, ↓Bool.false_eq_true, beq_self_eq_true, ite_self, Nat.reduceLeDiff, Int.reduceEq, Int.reduceSub, Int.reduceAdd, Int.reduceNeg, Int.reduceLT, Int.reduceLE, Nat.reduceLT, bz_G6, a1, ha, b1, hb]
  · have p1 := gsize_bad h1
    have e0 : eiE (a, b) = 13 := if_neg h1
    rw [show eiF (a, b) = 0 from if_neg (by rw [e0]; decide), e0]
    simp only [nV] at *
    refine AFun.mk fol J0s Try.func22 rfl (ac := a22) (by kernel_rfl) rfl rfl ?_
    apply vm_start
    unfold a22
    simp only [init_eq, initE]
    have zc12 := p1
    repeat first | (refine hK _ ?_; clear hK K) | simp only [Sv, ↓reduceIte, Nat.reduceEqDiff] | ((first | refine vm_reg (fun K hK => ?_) | refine vm_dreg (fun K hK => ?_) | refine clp_q ?_ | refine clq_mk (by assumption) ?_); simp (disch := (first | omega | assumption)) only [S1, ↓reduceIte, Nat.reduceEqDiff, Nat.reduceAdd, Nat.reduceMul, Nat.reduceDiv, AOp.sb, AOp.mut, ↓Bool.false_eq_true, beq_self_eq_true, ite_self, Nat.reduceLeDiff, Int.reduceEq, Int.reduceSub, Int.reduceAdd, Int.reduceNeg, Int.reduceLT, Int.reduceLE, Nat.reduceLT, bz_G6])
    simp (disch := (first | omega | assumption)) only [retOk, retN, ret1, retF, ret1F, V.okArg, and_true, true_and, S1, ↓reduceIte, Nat.reduceEqDiff, Nat.reduceAdd, Nat.reduceMul, Nat.reduceDiv, AOp.sb, AOp.mut, ↓Bool.false_eq_true, beq_self_eq_true, ite_self, Nat.reduceLeDiff, Int.reduceEq, Int.reduceSub, Int.reduceAdd, Int.reduceNeg, Int.reduceLT, Int.reduceLE, Nat.reduceLT, bz_G6]
end Go.Proofs.Ytfkldohgiifgbaa
