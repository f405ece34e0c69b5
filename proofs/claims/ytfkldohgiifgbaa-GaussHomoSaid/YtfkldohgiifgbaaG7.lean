/-
  gauss: turns, squares, around.
-/
import Derived.Test.YtfkldohgiifgbaaG6
namespace Go.Proofs.Ytfkldohgiifgbaa
open Go Go.RowKit Ab
set_option linter.unusedSimpArgs false
set_option linter.unusedVariables false
set_option maxHeartbeats 10000000
theorem bz_G7 : type_of% (And.intro @W_len (And.intro @D_len (And.intro @Nat.div_one (And.intro @Nat.mul_one (And.intro @tn_nat (And.intro @W_nf (And.intro @D_nf (And.intro @W_nil (And.intro @D_nil (And.intro @wi (And.intro @nf_g (And.intro @Bool.false_and (And.intro @W_cell (And.intro @ZC_cell (@ZC_nil))))))))))))))) := And.intro @W_len (And.intro @D_len (And.intro @Nat.div_one (And.intro @Nat.mul_one (And.intro @tn_nat (And.intro @W_nf (And.intro @D_nf (And.intro @W_nil (And.intro @D_nil (And.intro @wi (And.intro @nf_g (And.intro @Bool.false_and (And.intro @W_cell (And.intro @ZC_cell (@ZC_nil))))))))))))))

theorem getD_map_ei (zs : List GZ) (i : Nat) (h : i < zs.length) : (zs.map ei).getD i 0 = ei (zs.getD i (0, 0)) := by
  simp [List.getD_eq_getElem?_getD, h]
theorem dd_cases (x y : Int) (hx : 0 ≤ x ∧ x ≤ 7) (hy : 0 ≤ y ∧ y ≤ 7) : (y - x + 8).tmod 8 = (y - x + 8) % 8 ∧
    ((y - x + 8) % 8 = 4 ∧ dd x y = 4 ∨ ¬ (y - x + 8) % 8 = 4 ∧ 4 < (y - x + 8) % 8 ∧ dd x y = (y - x + 8) % 8 - 8 ∧ dd x y ≠ 4 ∨ ¬ (y - x + 8) % 8 = 4 ∧ ¬ 4 < (y - x + 8) % 8 ∧ dd x y = (y - x + 8) % 8 ∧ dd x y ≠ 4) := by
  refine ⟨Int.tmod_eq_emod_of_nonneg (by omega), ?_⟩
  unfold dd
  split <;> omega
-- surd/gauss.Turns
def a24 : AC := .seq (.reg [⟨some 2, none, .mv (.k (.i .i64 0))⟩, 
      ⟨some 3, none, .mv (.k (.i .i64 0))⟩])
  (.seq (.reg [⟨some 4, none, .mv (.k .nl)⟩])
  (.seq (.seq (.reg [⟨some 13, none, .mv (.t 0)⟩, 
        ⟨some 14, none, .len (.t 13)⟩, 
        ⟨some 15, none, .mv (.k (.i .i64 0))⟩])
    (.blk 0
    (.loop
      (.seq (.reg [⟨some 16, none, .bin .lss (.t 15) (.t 14)⟩])
        (.seq (.cond (.t 16)
          (.skip)
          (.exit 0))
        (.seq (.blk 1
          (.seq (.reg [⟨some 17, none, .idx 2 (.t 13) (.t 15)⟩, 
                ⟨some 18, none, .ld true 2 (.t 17)⟩, 
                ⟨some 6, none, .al 31 [(.i .i64 0), (.i .i64 0)]⟩, 
                ⟨none, none, .st 2 (.t 6) (.t 18)⟩])
            (.seq (.reg [⟨some 20, none, .ld true 2 (.t 6)⟩, 
                ⟨some 21, none, .call 22 [(1, (.t 20))]⟩, 
                ⟨some 19, none, .mv (.t 21)⟩, 
                ⟨some 22, none, .ext (.t 19) 0⟩, 
                ⟨some 23, none, .ext (.t 19) 1⟩, 
                ⟨some 7, none, .mv (.t 22)⟩, 
                ⟨some 8, none, .mv (.t 23)⟩])
            (.seq (.seq (.reg [⟨some 24, none, .mv (.t 8)⟩, 
                  ⟨some 25, none, .bin .neq (.t 24) (.k (.i .i64 0))⟩])
              (.cond (.t 25)
              (.seq (.reg [⟨some 26, none, .mv (.t 8)⟩, 
                    ⟨some 2, none, .mv (.k (.i .i64 0))⟩, 
                    ⟨some 3, none, .mv (.t 26)⟩])
                (.ret))
              (.skip)))
            (.reg [⟨some 27, none, .mv (.t 4)⟩, 
              ⟨some 28, none, .mv (.t 7)⟩, 
              ⟨some 29, none, .bsl 3 1 1 [(.i .i64 0)] [(0, (.t 28))]⟩, 
              ⟨some 30, none, .app 3 1 8 (.t 27) (.t 29)⟩, 
              ⟨some 4, none, .mv (.t 30)⟩])))))
        (.reg [⟨some 31, none, .bin .add (.t 15) (.k (.i .i64 1))⟩, 
          ⟨some 15, none, .mv (.t 31)⟩])))))))
  (.seq (.reg [⟨some 9, none, .mv (.k (.i .i64 0))⟩])
  (.seq (.seq (.reg [⟨some 32, none, .mv (.t 4)⟩, 
        ⟨some 33, none, .len (.t 32)⟩, 
        ⟨some 34, none, .mv (.k (.i .i64 0))⟩])
    (.blk 2
    (.loop
      (.seq (.reg [⟨some 35, none, .bin .lss (.t 34) (.t 33)⟩])
        (.seq (.cond (.t 35)
          (.skip)
          (.exit 2))
        (.seq (.blk 3
          (.seq (.reg [⟨some 36, none, .mv (.t 34)⟩, 
                ⟨some 37, none, .idx 1 (.t 32) (.t 34)⟩, 
                ⟨some 38, none, .ld false 1 (.t 37)⟩, 
                ⟨some 10, none, .mv (.t 36)⟩, 
                ⟨some 11, none, .mv (.t 38)⟩])
            (.seq (.reg [⟨some 39, none, .mv (.t 4)⟩, 
                ⟨some 40, none, .mv (.t 10)⟩, 
                ⟨some 41, none, .bin .add (.t 40) (.k (.i .i64 1))⟩, 
                ⟨some 42, none, .mv (.t 4)⟩, 
                ⟨some 43, none, .len (.t 42)⟩, 
                ⟨some 44, none, .bin .rem (.t 41) (.t 43)⟩, 
                ⟨some 45, none, .idx 1 (.t 39) (.t 44)⟩, 
                ⟨some 46, none, .ld false 1 (.t 45)⟩, 
                ⟨some 47, none, .mv (.t 11)⟩, 
                ⟨some 48, none, .bin .sub (.t 46) (.t 47)⟩, 
                ⟨some 49, none, .bin .add (.t 48) (.k (.i .i64 8))⟩, 
                ⟨some 50, none, .bin .rem (.t 49) (.k (.i .i64 8))⟩, 
                ⟨some 12, none, .mv (.t 50)⟩])
            (.seq (.seq (.reg [⟨some 51, none, .mv (.t 12)⟩, 
                  ⟨some 52, none, .bin .eql (.t 51) (.k (.i .i64 4))⟩])
              (.cond (.t 52)
              (.seq (.reg [⟨some 2, none, .mv (.k (.i .i64 0))⟩, 
                    ⟨some 3, none, .mv (.k (.i .i64 3))⟩])
                (.ret))
              (.skip)))
            (.seq (.seq (.reg [⟨some 53, none, .mv (.t 12)⟩, 
                  ⟨some 54, none, .bin .gtr (.t 53) (.k (.i .i64 4))⟩])
              (.cond (.t 54)
              (.reg [⟨some 55, none, .mv (.t 12)⟩, 
                  ⟨some 56, none, .bin .sub (.t 55) (.k (.i .i64 8))⟩, 
                  ⟨some 12, none, .mv (.t 56)⟩])
              (.skip)))
            (.reg [⟨some 57, none, .mv (.t 9)⟩, 
              ⟨some 58, none, .mv (.t 12)⟩, 
              ⟨some 59, none, .bin .add (.t 57) (.t 58)⟩, 
              ⟨some 9, none, .mv (.t 59)⟩]))))))
        (.reg [⟨some 60, none, .bin .add (.t 34) (.k (.i .i64 1))⟩, 
          ⟨some 34, none, .mv (.t 60)⟩])))))))
  (.seq (.reg [⟨some 61, none, .mv (.t 9)⟩, 
      ⟨some 62, none, .bin .quo (.t 61) (.k (.i .i64 8))⟩, 
      ⟨some 2, none, .mv (.t 62)⟩, 
      ⟨some 3, none, .mv (.k (.i .i64 0))⟩])
  (.ret))))))
theorem gturnsS (zs : List GZ) (lz : zs.length ≤ 100000000) : AFun Try.prog J0 24 [.l 2 (NC zs)] (.t [.i .i64 (tuF zs), .i .i64 (tuE zs)]) := by
  obtain ⟨R, hR⟩ : ∃ R, R = tuF zs := ⟨_, rfl⟩
  obtain ⟨e, he0⟩ : ∃ e, e = tuE zs := ⟨_, rfl⟩
  rw [← hR, ← he0]
  have hnl : (NC zs).length / 2 = zs.length := by rw [NC_len]; omega
  have hnz := NC_len zs
  obtain ⟨n, hn⟩ : ∃ n, n = zs.length := ⟨_, rfl⟩
  rw [← hn] at hnl hnz
  refine AFun.mk fol J0s Try.func24 rfl (ac := a24) (by kernel_rfl) rfl rfl ?_
  apply vm_start
  unfold a24
  simp only [init_eq, initE]
  repeat first
    | (refine hK _ ?_; clear hK K)
    | ((first | refine vm_reg (fun K hK => ?_) | refine vm_dreg (fun K hK => ?_)); simp (disch := (first | omega | assumption)) only [S1, ↓reduceIte, Nat.reduceEqDiff, Nat.reduceAdd, Nat.reduceMul, Nat.reduceDiv, AOp.sb, AOp.mut, ↓Bool.false_eq_true, beq_self_eq_true, ite_self, Nat.reduceLeDiff, Int.reduceEq, Int.reduceSub, Int.reduceAdd, Int.reduceNeg, Int.reduceLT, Int.reduceLE, Nat.reduceLT, bz_G7, hnl]; refine hK _ ?_; clear hK K)
    | simp only [Sv, ↓reduceIte, Nat.reduceEqDiff]
  refine vm_loopA [(4, 3, 1)] Nat (fun i => ⟨[(4, .ow 1 0 i), (13, .l 2 (NC zs)), (14, .i .i64 (n : Int)), (15, .i .i64 (i : Int))],
      [(0, some ⟨3, 1, I64 ((zs.take i).map ei), true, false⟩)], 1⟩)
    (fun i => i ≤ n ∧ ∀ j, j < i → eiE (zs.getD j (0, 0)) = 0) (fun i => n - i) 0 ⟨Nat.zero_le _, fun j h => by omega⟩ (by simp (disch := (first | omega | assumption)) only [Sl, Sa, Sw, ↓reduceIte, Nat.reduceEqDiff, Nat.reduceLT, List.all_nil, List.all_cons, Nat.reduceBneDiff, Nat.reduceAdd, bne_iff_ne, ne_eq, reduceCtorEq, not_false_eq_true, not_true_eq_false, Bool.and_true, Bool.true_and, and_true, true_and, and_self]) (by
    simp (disch := (first | omega | assumption)) only [Sl, Sa, Sw, ↓reduceIte, Nat.reduceEqDiff, Nat.reduceLT, List.all_nil, List.all_cons, Nat.reduceBneDiff, Nat.reduceAdd, bne_iff_ne, ne_eq, reduceCtorEq, not_false_eq_true, not_true_eq_false, Bool.and_true, Bool.true_and, and_true, true_and, and_self, i_eq]
    repeat' first | rfl | omega | (simp only [List.length_append, List.length_cons, List.length_nil]; done) | apply And.intro) ?_
  rintro i ⟨hi, hj⟩ Q' hQ he hr
  by_cases h : (i : Int) < (n : Int)
  · have hiz : i < zs.length := by omega
    have row := NC_row zs i hiz
    have hvi := geiS (zs.getD i (0, 0))
    have hsn := GZ_snoc zs i hiz
    have hjn : eiE (zs.getD i (0, 0)) = 0 → ∀ j, j < i + 1 → eiE (zs.getD j (0, 0)) = 0 := fun h0 j h1 => by
      rcases Nat.lt_or_ge j i with h2 | h2
      · exact hj j h2
      · obtain rfl : j = i := by omega
        exact h0
    have hfe := esE_first zs i hj hiz
    generalize zs.getD i (0, 0) = z at *
    simp only [nV] at hvi
    by_cases hok : eiE z = 0
    · rw [show eiF z = ei z from if_pos hok, hok] at hvi
      have hap := I64_app1 ((zs.take i).map ei) (ei z)
      have hap2 : (zs.take i).map ei ++ [ei z] = (zs.take (i + 1)).map ei := by rw [hsn, List.map_append]; rfl
      rw [hap2] at hap
      have l0 := I64_len ((zs.take i).map ei)
      have l1 := I64_len ((zs.take (i + 1)).map ei)
      rw [List.length_map, List.length_take] at l0 l1
      have zc1 := hvi
      repeat first | (refine hK _ ?_; clear hK K) | simp only [Sv, ↓reduceIte, Nat.reduceEqDiff] | ((first | refine vm_reg (fun K hK => ?_) | refine vm_dreg (fun K hK => ?_) | refine clp_q ?_ | refine clq_mk (by assumption) ?_); simp (disch := (first | omega | assumption)) only [S1, ↓reduceIte, Nat.reduceEqDiff, Nat.reduceAdd, Nat.reduceMul, Nat.reduceDiv, AOp.sb, AOp.mut, ↓Bool.false_eq_true, beq_self_eq_true, ite_self, Nat.reduceLeDiff, Int.reduceEq, Int.reduceSub, Int.reduceAdd, Int.reduceNeg, Int.reduceLT, Int.reduceLE, Nat.reduceLT, bz_G7, h, hnz, row, hap])
      refine hQ _ (i + 1) ⟨by omega, hjn hok⟩ (by omega) ?_
      simp (disch := (first | omega | assumption)) only [Sl, Sa, Sw, ↓reduceIte, Nat.reduceEqDiff, Nat.reduceLT, List.all_nil, List.all_cons, Nat.reduceBneDiff, Nat.reduceAdd, bne_iff_ne, ne_eq, reduceCtorEq, not_false_eq_true, not_true_eq_false, Bool.and_true, Bool.true_and, and_true, true_and, and_self, i_eq]
      repeat' first | rfl | omega | (simp only [List.length_append, List.length_cons, List.length_nil]; done) | apply And.intro
    · have hes := hfe hok
      obtain rfl : e = eiE z := by rw [he0]; unfold tuE; rw [hes, if_neg hok]
      obtain rfl : R = 0 := by rw [hR]; unfold tuF; rw [← he0, if_neg hok]
      have zc2 := hvi
      repeat first | (refine hK _ ?_; clear hK K) | simp only [Sv, ↓reduceIte, Nat.reduceEqDiff] | ((first | refine vm_reg (fun K hK => ?_) | refine vm_dreg (fun K hK => ?_) | refine clp_q ?_ | refine clq_mk (by assumption) ?_); simp (disch := (first | omega | assumption)) only [S1, ↓reduceIte, Nat.reduceEqDiff, Nat.reduceAdd, Nat.reduceMul, Nat.reduceDiv, AOp.sb, AOp.mut, ↓Bool.false_eq_true, beq_self_eq_true, ite_self, Nat.reduceLeDiff, Int.reduceEq, Int.reduceSub, Int.reduceAdd, Int.reduceNeg, Int.reduceLT, Int.reduceLE, Nat.reduceLT, bz_G7, h, hnz, row, hok])
      refine hr _ ?_
      simp (disch := (first | omega | assumption)) only [retOk, retN, ret1, retF, ret1F, V.okArg, and_true, true_and, S1, ↓reduceIte, Nat.reduceEqDiff, Nat.reduceAdd, Nat.reduceMul, Nat.reduceDiv, AOp.sb, AOp.mut, ↓Bool.false_eq_true, beq_self_eq_true, ite_self, Nat.reduceLeDiff, Int.reduceEq, Int.reduceSub, Int.reduceAdd, Int.reduceNeg, Int.reduceLT, Int.reduceLE, Nat.reduceLT, bz_G7]
  · obtain rfl : i = n := by omega
    have hall := esE_all zs fun j h => hj j (by omega)
    rw [show zs.take i = zs from by rw [hn, List.take_length]]
    have el : (zs.map ei).length = i := by rw [List.length_map, hn]
    have eb : ∀ j, 0 ≤ (zs.map ei).getD j 0 ∧ (zs.map ei).getD j 0 ≤ 7 := fun j => by
      rcases Nat.lt_or_ge j zs.length with h1 | h1
      · rw [getD_map_ei zs j h1]; exact ei_bnd _
      · rw [List.getD_eq_getElem?_getD, List.getElem?_eq_none (by rw [List.length_map]; exact h1)]; decide
    have te : e = if 4 ∈ stps (zs.map ei) i then 3 else 0 := by rw [he0]; unfold tuE; rw [hall, if_pos rfl, ← hn]
    have tr : e = 0 → R = (isum (stps (zs.map ei) i)).tdiv 8 := fun h => by rw [hR]; unfold tuF; rw [← he0, h, if_pos rfl, ← hn]
    have tr3 : e = 3 → R = 0 := fun h => by rw [hR]; unfold tuF; rw [← he0, h]; rfl
    generalize zs.map ei = es at *
    have lI := I64_len es
    rw [el] at lI
    repeat first
      | (refine hK _ ?_; clear hK K)
      | ((first | refine vm_reg (fun K hK => ?_) | refine vm_dreg (fun K hK => ?_)); simp (disch := (first | omega | assumption)) only [S1, ↓reduceIte, Nat.reduceEqDiff, Nat.reduceAdd, Nat.reduceMul, Nat.reduceDiv, AOp.sb, AOp.mut, ↓Bool.false_eq_true, beq_self_eq_true, ite_self, Nat.reduceLeDiff, Int.reduceEq, Int.reduceSub, Int.reduceAdd, Int.reduceNeg, Int.reduceLT, Int.reduceLE, Nat.reduceLT, bz_G7, h]; refine hK _ ?_; clear hK K)
      | simp only [Sv, ↓reduceIte, Nat.reduceEqDiff]
    refine he _ _ ?_
    repeat first
      | (refine hK _ ?_; clear hK K)
      | ((first | refine vm_reg (fun K hK => ?_) | refine vm_dreg (fun K hK => ?_)); simp (disch := (first | omega | assumption)) only [S1, ↓reduceIte, Nat.reduceEqDiff, Nat.reduceAdd, Nat.reduceMul, Nat.reduceDiv, AOp.sb, AOp.mut, ↓Bool.false_eq_true, beq_self_eq_true, ite_self, Nat.reduceLeDiff, Int.reduceEq, Int.reduceSub, Int.reduceAdd, Int.reduceNeg, Int.reduceLT, Int.reduceLE, Nat.reduceLT, bz_G7]; refine hK _ ?_; clear hK K)
      | simp only [Sv, ↓reduceIte, Nat.reduceEqDiff]
    refine vm_loopA [] Nat (fun k => ⟨[(4, .ow 1 0 i), (9, .i .i64 (isum (stps es k))), (32, .ow 1 0 i), (33, .i .i64 (i : Int)), (34, .i .i64 (k : Int))],
        [(0, some ⟨3, 1, I64 es, true, false⟩)], 1⟩)
      (fun k => k ≤ i ∧ ∀ j, j < k → stp8 es j ≠ 4) (fun k => i - k) 0 ⟨Nat.zero_le _, fun j h => by omega⟩ (by simp (disch := (first | omega | assumption)) only [Sl, Sa, Sw, ↓reduceIte, Nat.reduceEqDiff, Nat.reduceLT, List.all_nil, List.all_cons, Nat.reduceBneDiff, Nat.reduceAdd, bne_iff_ne, ne_eq, reduceCtorEq, not_false_eq_true, not_true_eq_false, Bool.and_true, Bool.true_and, and_true, true_and, and_self]) (by
      simp (disch := (first | omega | assumption)) only [Sl, Sa, Sw, ↓reduceIte, Nat.reduceEqDiff, Nat.reduceLT, List.all_nil, List.all_cons, Nat.reduceBneDiff, Nat.reduceAdd, bne_iff_ne, ne_eq, reduceCtorEq, not_false_eq_true, not_true_eq_false, Bool.and_true, Bool.true_and, and_true, true_and, and_self, i_eq]
      repeat' first | rfl | omega | (simp only [List.length_append, List.length_cons, List.length_nil]; done) | apply And.intro) ?_
    rintro k ⟨hk, hjk⟩ Q2 hQ2 he2 hr2
    by_cases hki : (k : Int) < (i : Int)
    · have hmod : ((k : Int) + 1).tmod (i : Int) = (((k + 1) % i : Nat) : Int) := by
        rw [show (k : Int) + 1 = ((k + 1 : Nat) : Int) from rfl]; rfl
      have hmlt : (k + 1) % i < i := Nat.mod_lt _ (by omega)
      have g1 := I64_get es k (by omega)
      have g2 := I64_get es ((k + 1) % i) (by omega)
      have b1 := eb k
      have b2 := eb ((k + 1) % i)
      have hst : stp8 es k = dd (es.getD k 0) (es.getD ((k + 1) % i) 0) := by unfold stp8; rw [el]
      have hss := isum_stps_succ es k
      have hsb := isum_stps_bnd es k
      have hdb := dd_bnd (es.getD k 0) (es.getD ((k + 1) % i) 0)
      have hmem : stp8 es k = 4 → e = 3 := fun h => by
        rw [te]
        exact if_pos (List.mem_map.2 ⟨k, List.mem_range.2 (by omega), h⟩)
      have hjk2 : stp8 es k ≠ 4 → ∀ j, j < k + 1 → stp8 es j ≠ 4 := fun h0 j h1 => by
        rcases Nat.lt_or_ge j k with h2 | h2
        · exact hjk j h2
        · obtain rfl : j = k := by omega
          exact h0
      obtain ⟨hd0, hcs⟩ := dd_cases (es.getD k 0) (es.getD ((k + 1) % i) 0) b1 b2
      have i0 : ¬ (i : Int) = 0 := by omega
      have mnn : (0 : Int) ≤ (((k + 1) % i : Nat) : Int) := by omega
      generalize es.getD k 0 = x at *
      generalize es.getD ((k + 1) % i) 0 = y at *
      generalize (k + 1) % i = k' at *
      rcases hcs with ⟨c1, c2⟩ | ⟨c1, c2, c3, c4⟩ | ⟨c1, c2, c3, c4⟩
      · obtain rfl : e = 3 := hmem (by rw [hst, c2])
        obtain rfl : R = 0 := tr3 rfl
        repeat first
          | (refine hK _ ?_; clear hK K)
          | ((first | refine vm_reg (fun K hK => ?_) | refine vm_dreg (fun K hK => ?_)); simp (disch := (first | omega | assumption)) only [S1, ↓reduceIte, Nat.reduceEqDiff, Nat.reduceAdd, Nat.reduceMul, Nat.reduceDiv, AOp.sb, AOp.mut, ↓Bool.false_eq_true, beq_self_eq_true, ite_self, Nat.reduceLeDiff, Int.reduceEq, Int.reduceSub, Int.reduceAdd, Int.reduceNeg, Int.reduceLT, Int.reduceLE, Nat.reduceLT, bz_G7, hki, g1, g2, hmod, lI, i0, hd0, c1]; refine hK _ ?_; clear hK K)
          | simp only [Sv, ↓reduceIte, Nat.reduceEqDiff]
        refine hr2 _ ?_
        simp (disch := (first | omega | assumption)) only [retOk, retN, ret1, retF, ret1F, V.okArg, and_true, true_and, S1, ↓reduceIte, Nat.reduceEqDiff, Nat.reduceAdd, Nat.reduceMul, Nat.reduceDiv, AOp.sb, AOp.mut, ↓Bool.false_eq_true, beq_self_eq_true, ite_self, Nat.reduceLeDiff, Int.reduceEq, Int.reduceSub, Int.reduceAdd, Int.reduceNeg, Int.reduceLT, Int.reduceLE, Nat.reduceLT, bz_G7]
      · rw [hst] at hss hjk2
        rw [c3] at hss
        have ws : IntKind.i64.wrap (isum (stps es k) + ((y - x + 8) % 8 - 8)) = isum (stps es (k + 1)) := by rw [hss]; exact wi (by omega)
        repeat first
          | (refine hK _ ?_; clear hK K)
          | ((first | refine vm_reg (fun K hK => ?_) | refine vm_dreg (fun K hK => ?_)); simp (disch := (first | omega | assumption)) only [S1, ↓reduceIte, Nat.reduceEqDiff, Nat.reduceAdd, Nat.reduceMul, Nat.reduceDiv, AOp.sb, AOp.mut, ↓Bool.false_eq_true, beq_self_eq_true, ite_self, Nat.reduceLeDiff, Int.reduceEq, Int.reduceSub, Int.reduceAdd, Int.reduceNeg, Int.reduceLT, Int.reduceLE, Nat.reduceLT, bz_G7, hki, g1, g2, hmod, lI, i0, hd0, c1, c2, ws]; refine hK _ ?_; clear hK K)
          | simp only [Sv, ↓reduceIte, Nat.reduceEqDiff]
        refine hQ2 _ (k + 1) ⟨by omega, hjk2 c4⟩ (by omega) ?_
        simp (disch := (first | omega | assumption)) only [Sl, Sa, Sw, ↓reduceIte, Nat.reduceEqDiff, Nat.reduceLT, List.all_nil, List.all_cons, Nat.reduceBneDiff, Nat.reduceAdd, bne_iff_ne, ne_eq, reduceCtorEq, not_false_eq_true, not_true_eq_false, Bool.and_true, Bool.true_and, and_true, true_and, and_self, i_eq]
        repeat' first | rfl | omega | (simp only [List.length_append, List.length_cons, List.length_nil]; done) | apply And.intro
      · rw [hst] at hss hjk2
        rw [c3] at hss
        have ws : IntKind.i64.wrap (isum (stps es k) + (y - x + 8) % 8) = isum (stps es (k + 1)) := by rw [hss]; exact wi (by omega)
        repeat first
          | (refine hK _ ?_; clear hK K)
          | ((first | refine vm_reg (fun K hK => ?_) | refine vm_dreg (fun K hK => ?_)); simp (disch := (first | omega | assumption)) only [S1, ↓reduceIte, Nat.reduceEqDiff, Nat.reduceAdd, Nat.reduceMul, Nat.reduceDiv, AOp.sb, AOp.mut, ↓Bool.false_eq_true, beq_self_eq_true, ite_self, Nat.reduceLeDiff, Int.reduceEq, Int.reduceSub, Int.reduceAdd, Int.reduceNeg, Int.reduceLT, Int.reduceLE, Nat.reduceLT, bz_G7, hki, g1, g2, hmod, lI, i0, hd0, c1, c2, ws]; refine hK _ ?_; clear hK K)
          | simp only [Sv, ↓reduceIte, Nat.reduceEqDiff]
        refine hQ2 _ (k + 1) ⟨by omega, hjk2 c4⟩ (by omega) ?_
        simp (disch := (first | omega | assumption)) only [Sl, Sa, Sw, ↓reduceIte, Nat.reduceEqDiff, Nat.reduceLT, List.all_nil, List.all_cons, Nat.reduceBneDiff, Nat.reduceAdd, bne_iff_ne, ne_eq, reduceCtorEq, not_false_eq_true, not_true_eq_false, Bool.and_true, Bool.true_and, and_true, true_and, and_self, i_eq]
        repeat' first | rfl | omega | (simp only [List.length_append, List.length_cons, List.length_nil]; done) | apply And.intro
    · obtain rfl : k = i := by omega
      have hn4 : ¬ 4 ∈ stps es k := fun h => by
        obtain ⟨j, hj1, hj2⟩ := List.mem_map.1 h
        exact hjk j (List.mem_range.1 hj1) hj2
      obtain rfl : e = 0 := by rw [te]; exact if_neg hn4
      have hRR := tr rfl
      have hsb := isum_stps_bnd es k
      have htd : IntKind.i64.wrap ((isum (stps es k)).tdiv 8) = R := by
        rw [hRR]; refine wi ?_
        have h1 := Int.natAbs_tdiv (isum (stps es k)) 8
        generalize isum (stps es k) = s at *
        have h2 : s.natAbs / (8 : Int).natAbs ≤ s.natAbs := Nat.div_le_self _ _
        have h3 : (s.tdiv 8).natAbs ≤ s.natAbs := by rw [h1]; exact h2
        omega
      repeat first
        | (refine hK _ ?_; clear hK K)
        | ((first | refine vm_reg (fun K hK => ?_) | refine vm_dreg (fun K hK => ?_)); simp (disch := (first | omega | assumption)) only [S1, ↓reduceIte, Nat.reduceEqDiff, Nat.reduceAdd, Nat.reduceMul, Nat.reduceDiv, AOp.sb, AOp.mut, ↓Bool.false_eq_true, beq_self_eq_true, ite_self, Nat.reduceLeDiff, Int.reduceEq, Int.reduceSub, Int.reduceAdd, Int.reduceNeg, Int.reduceLT, Int.reduceLE, Nat.reduceLT, bz_G7, hki]; refine hK _ ?_; clear hK K)
        | simp only [Sv, ↓reduceIte, Nat.reduceEqDiff]
      refine he2 _ _ ?_
      repeat first
        | (refine hK _ ?_; clear hK K)
        | ((first | refine vm_reg (fun K hK => ?_) | refine vm_dreg (fun K hK => ?_)); simp (disch := (first | omega | assumption)) only [S1, ↓reduceIte, Nat.reduceEqDiff, Nat.reduceAdd, Nat.reduceMul, Nat.reduceDiv, AOp.sb, AOp.mut, ↓Bool.false_eq_true, beq_self_eq_true, ite_self, Nat.reduceLeDiff, Int.reduceEq, Int.reduceSub, Int.reduceAdd, Int.reduceNeg, Int.reduceLT, Int.reduceLE, Nat.reduceLT, bz_G7, htd]; refine hK _ ?_; clear hK K)
        | simp only [Sv, ↓reduceIte, Nat.reduceEqDiff]
      simp (disch := (first | omega | assumption)) only [retOk, retN, ret1, retF, ret1F, V.okArg, and_true, true_and, S1, ↓reduceIte, Nat.reduceEqDiff, Nat.reduceAdd, Nat.reduceMul, Nat.reduceDiv, AOp.sb, AOp.mut, ↓Bool.false_eq_true, beq_self_eq_true, ite_self, Nat.reduceLeDiff, Int.reduceEq, Int.reduceSub, Int.reduceAdd, Int.reduceNeg, Int.reduceLT, Int.reduceLE, Nat.reduceLT, bz_G7]
end Go.Proofs.Ytfkldohgiifgbaa
