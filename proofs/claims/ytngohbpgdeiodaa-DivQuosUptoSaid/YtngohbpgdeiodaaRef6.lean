/-
  surdref02: rows of bits.
-/
import Derived.Test.YtngohbpgdeiodaaRef4
namespace Go.Proofs.Ytngohbpgdeiodaa
open Go Go.RowKit Ab
set_option linter.unusedSimpArgs false
set_option linter.unusedVariables false
set_option maxHeartbeats 10000000

/-- Bits, as truths. -/
def Bl (a : List Nat) : List V := a.map fun x : Nat => .b (decide (x = 1))
theorem Bl_len (a : List Nat) : (Bl a).length = a.length := by simp [Bl]
theorem Bl_nil : Bl [] = [] := rfl
theorem Bl_get (a : List Nat) (i : Nat) (h : i < a.length) : (Bl a).getD i .un = .b (decide (a.getD i 0 = 1)) := by simp [Bl, List.getD_eq_getElem?_getD, h]
theorem Bl_take (a : List Nat) (i : Nat) : (Bl a).take i = Bl (a.take i) := by simp [Bl]
theorem Bl_drop (a : List Nat) (i : Nat) : (Bl a).drop i = Bl (a.drop i) := by simp [Bl]
theorem Bl_app (a b : List Nat) : Bl a ++ Bl b = Bl (a ++ b) := by simp [Bl]
theorem Bl_cell (a : List Nat) : (Bl a).all V.cell = true := by simp [Bl, V.cell]
theorem Bl_nf (a : List Nat) : anyNF (Bl a) = false := by
  induction a with
  | nil => rfl
  | cons x r ih => simpa [Bl, anyNF, V.nf] using ih
theorem Bl_app1 (a : List Nat) (x : Nat) : Bl a ++ [V.b (decide (((x : Nat) : Int) = 1))] = Bl (a ++ [x]) := by
  have : decide (((x : Nat) : Int) = 1) = decide (x = 1) := by congr 1; simp only [eq_iff_iff]; omega
  rw [this]; simp [Bl]
theorem tmod_2 (a : Nat) : (a : Int).tmod 2 = ((a % 2 : Nat) : Int) := rfl
theorem tdiv_2 (a : Nat) : (a : Int).tdiv 2 = ((a / 2 : Nat) : Int) := rfl
theorem p256 (i : Nat) : 256 ^ i = 2 ^ (8 * i) := by rw [Nat.pow_mul]
theorem bit_of {l : List Nat} (h : Lt 2 l) (i : Nat) : l.getD i 0 = 0 ∨ l.getD i 0 = 1 := by have := Lt_get h (by decide) i; omega

-- surd/surdref02.Row
def a53 : AC := .seq (.reg [⟨some 2, none, .mv (.k .nl)⟩])
  (.seq (.reg [⟨some 8, none, .mv (.t 0)⟩, 
      ⟨some 9, none, .call 52 [(1, (.t 8))]⟩, 
      ⟨some 3, none, .mv (.t 9)⟩])
  (.seq (.reg [⟨some 4, none, .mv (.k .nl)⟩])
  (.seq (.seq (.reg [⟨some 5, none, .mv (.k (.i .i64 0))⟩])
    (.blk 0
    (.loop
      (.seq (.seq (.reg [⟨some 10, none, .mv (.t 5)⟩, 
              ⟨some 11, none, .mv (.t 3)⟩, 
              ⟨some 12, none, .len (.t 11)⟩, 
              ⟨some 13, none, .bin .lss (.t 10) (.t 12)⟩])
          (.cond (.t 13)
          (.skip)
          (.exit 0)))
        (.seq (.blk 1
          (.seq (.reg [⟨some 16, none, .mv (.t 3)⟩, 
                ⟨some 17, none, .mv (.t 5)⟩, 
                ⟨some 18, none, .idx 1 (.t 16) (.t 17)⟩, 
                ⟨some 19, none, .ld false 1 (.t 18)⟩, 
                ⟨some 6, none, .mv (.t 19)⟩])
            (.seq (.reg [⟨some 7, none, .mv (.k (.i .i64 0))⟩])
            (.blk 2
            (.loop
              (.seq (.seq (.reg [⟨some 20, none, .mv (.t 7)⟩, 
                      ⟨some 21, none, .bin .lss (.t 20) (.k (.i .i64 8))⟩])
                  (.cond (.t 21)
                  (.skip)
                  (.exit 2)))
                (.seq (.blk 3
                  (.seq (.reg [⟨some 24, none, .mv (.t 4)⟩, 
                        ⟨some 25, none, .mv (.t 6)⟩, 
                        ⟨some 26, none, .bin .rem (.t 25) (.k (.i .i64 2))⟩, 
                        ⟨some 27, none, .bin .eql (.t 26) (.k (.i .i64 1))⟩, 
                        ⟨some 28, none, .bsl 4 1 1 [(.b false)] [(0, (.t 27))]⟩, 
                        ⟨some 29, none, .app 4 1 1 (.t 24) (.t 28)⟩, 
                        ⟨some 4, none, .mv (.t 29)⟩])
                    (.reg [⟨some 30, none, .mv (.t 6)⟩, 
                      ⟨some 31, none, .bin .quo (.t 30) (.k (.i .i64 2))⟩, 
                      ⟨some 6, none, .mv (.t 31)⟩])))
                (.reg [⟨some 22, none, .mv (.t 7)⟩, 
                  ⟨some 23, none, .bin .add (.t 22) (.k (.i .i64 1))⟩, 
                  ⟨some 7, none, .mv (.t 23)⟩]))))))))
        (.reg [⟨some 14, none, .mv (.t 5)⟩, 
          ⟨some 15, none, .bin .add (.t 14) (.k (.i .i64 1))⟩, 
          ⟨some 5, none, .mv (.t 15)⟩]))))))
  (.seq (.blk 4
    (.loop
      (.seq (.seq (.reg [⟨some 32, none, .mv (.t 4)⟩, 
              ⟨some 33, none, .len (.t 32)⟩, 
              ⟨some 34, none, .bin .gtr (.t 33) (.k (.i .i64 0))⟩, 
              ⟨some 35, none, .mv (.t 34)⟩, 
              ⟨some 36, some (35, true), .mv (.t 4)⟩, 
              ⟨some 37, some (35, true), .mv (.t 4)⟩, 
              ⟨some 38, some (35, true), .len (.t 37)⟩, 
              ⟨some 39, some (35, true), .bin .sub (.t 38) (.k (.i .i64 1))⟩, 
              ⟨some 40, some (35, true), .idx 1 (.t 36) (.t 39)⟩, 
              ⟨some 41, some (35, true), .ld false 1 (.t 40)⟩, 
              ⟨some 42, some (35, true), .un .not (.t 41)⟩, 
              ⟨some 43, none, .pick (.t 35) (.t 42) (.k (.b false))⟩])
          (.cond (.t 43)
          (.skip)
          (.exit 4)))
        (.blk 5
        (.reg [⟨some 44, none, .mv (.t 4)⟩, 
            ⟨some 45, none, .mv (.t 4)⟩, 
            ⟨some 46, none, .len (.t 45)⟩, 
            ⟨some 47, none, .bin .sub (.t 46) (.k (.i .i64 1))⟩, 
            ⟨some 48, none, .sub 1 (.t 44) none (some (.t 47))⟩, 
            ⟨some 4, none, .mv (.t 48)⟩])))))
  (.seq (.reg [⟨some 49, none, .mv (.t 4)⟩, 
      ⟨some 2, none, .mv (.t 49)⟩])
  (.ret))))))
theorem row_spec (a : List Nat) (ha : Wd a) (la : a.length ≤ 10000000000) : AFun Try.prog J0 53 [.l 1 (W a)] (.l 1 (Bl (dg 2 (nv B a)))) := by
  refine AFun.mk fol J0s Try.func53 rfl (ac := a53) (by kernel_rfl) rfl rfl ?_
  apply vm_start
  unfold a53
  simp only [init_eq, initE]
  obtain ⟨d, hd⟩ : ∃ d, d = dg 256 (nv B a) := ⟨_, rfl⟩
  have hld := dg256_len ha
  have hdl : Lt 256 d := by rw [hd]; exact dg_Lt (by decide) _
  have hdv : nv 256 d = nv B a := by rw [hd, nv_dg D2]
  rw [← hd] at hld
  have hspec := digits_spec a ha (by omega)
  rw [← hd] at hspec
  rw [← hdv]
  have zc1 := hspec
  repeat first | (refine hK _ ?_; clear hK K) | simp only [Sv, ↓reduceIte, Nat.reduceEqDiff] | ((first | refine vm_reg (fun K hK => ?_) | refine vm_dreg (fun K hK => ?_) | refine clp_q ?_ | refine clq_mk (by assumption) ?_); simp (disch := (first | omega | assumption)) only [S1, ↓reduceIte, Nat.reduceEqDiff, Nat.reduceAdd, Nat.reduceMul, Nat.reduceDiv, AOp.sb, AOp.mut, ↓Bool.false_eq_true, beq_self_eq_true, ite_self, Nat.reduceLeDiff, Int.reduceEq, Int.reduceSub, Int.reduceAdd, Int.reduceNeg, Int.reduceLT, Int.reduceLE, Nat.reduceLT, W_len, D_len, Bl_len, Nat.div_one, Nat.mul_one, tn_nat, W_nf, D_nf, Bl_nf, W_nil, D_nil, Bl_nil, wi])
  refine vm_loopA [(4, 4, 1)] Nat (fun i => ⟨[(3, .l 1 (D d)), (4, .ow 1 0 (8 * i)), (5, .i .i64 (i : Int))], [(0, some ⟨4, 1, Bl (fl 2 (8 * i) (nv 256 (d.take i))), true, false⟩)], 1⟩)
    (fun i => i ≤ d.length) (fun i => d.length - i) 0 (Nat.zero_le _) (by simp (disch := (first | omega | assumption)) only [Sl, Sa, Sw, ↓reduceIte, Nat.reduceEqDiff, Nat.reduceLT, List.all_nil, List.all_cons, Nat.reduceBneDiff, Nat.reduceAdd, bne_iff_ne, ne_eq, reduceCtorEq, not_false_eq_true, not_true_eq_false, Bool.and_true, Bool.true_and, and_true, true_and, and_self]) (by
    simp (disch := (first | omega | assumption)) only [Sl, Sa, Sw, ↓reduceIte, Nat.reduceEqDiff, Nat.reduceLT, List.all_nil, List.all_cons, Nat.reduceBneDiff, Nat.reduceAdd, bne_iff_ne, ne_eq, reduceCtorEq, not_false_eq_true, not_true_eq_false, Bool.and_true, Bool.true_and, and_true, true_and, and_self, i_eq]
    repeat' first | rfl | omega | (simp only [List.length_append, List.length_cons, List.length_nil]; done) | apply And.intro) ?_
  intro i hi Q' hQ he hr
  by_cases h : (i : Int) < d.length
  · have hdi := Lt_get hdl (by decide) i
    repeat first
      | (refine hK _ ?_; clear hK K)
      | ((first | refine vm_reg (fun K hK => ?_) | refine vm_dreg (fun K hK => ?_)); simp (disch := (first | omega | assumption)) only [S1, ↓reduceIte, Nat.reduceEqDiff, Nat.reduceAdd, Nat.reduceMul, Nat.reduceDiv, AOp.sb, AOp.mut, ↓Bool.false_eq_true, beq_self_eq_true, ite_self, Nat.reduceLeDiff, Int.reduceEq, Int.reduceSub, Int.reduceAdd, Int.reduceNeg, Int.reduceLT, Int.reduceLE, Nat.reduceLT, W_len, D_len, Bl_len, Nat.div_one, Nat.mul_one, tn_nat, W_nf, D_nf, Bl_nf, W_nil, D_nil, Bl_nil, wi, h, D_get]; refine hK _ ?_; clear hK K)
      | simp only [Sv, ↓reduceIte, Nat.reduceEqDiff]
    refine vm_loopA [] Nat (fun k => ⟨[(3, .l 1 (D d)), (4, .ow 1 0 (8 * i + k)), (5, .i .i64 (i : Int)), (6, .i .i64 ((d.getD i 0 / 2 ^ k : Nat) : Int)), (7, .i .i64 (k : Int))], [(0, some ⟨4, 1, Bl (fl 2 (8 * i) (nv 256 (d.take i)) ++ fl 2 k (d.getD i 0)), true, false⟩)], 1⟩)
      (fun k => k ≤ 8) (fun k => 8 - k) 0 (Nat.zero_le _) (by simp (disch := (first | omega | assumption)) only [Sl, Sa, Sw, ↓reduceIte, Nat.reduceEqDiff, Nat.reduceLT, List.all_nil, List.all_cons, Nat.reduceBneDiff, Nat.reduceAdd, bne_iff_ne, ne_eq, reduceCtorEq, not_false_eq_true, not_true_eq_false, Bool.and_true, Bool.true_and, and_true, true_and, and_self]) (by
      simp (disch := (first | omega | assumption)) only [Sl, Sa, Sw, ↓reduceIte, Nat.reduceEqDiff, Nat.reduceLT, List.all_nil, List.all_cons, Nat.reduceBneDiff, Nat.reduceAdd, bne_iff_ne, ne_eq, reduceCtorEq, not_false_eq_true, not_true_eq_false, Bool.and_true, Bool.true_and, and_true, true_and, and_self, i_eq]
      simp [fl]) ?_
    intro k hk Q'' hQ' he' hr'
    by_cases h1 : (k : Int) < 8
    · have hq : d.getD i 0 / 2 ^ k < 256 := Nat.lt_of_le_of_lt (Nat.div_le_self _ _) hdi
      generalize hqq : d.getD i 0 / 2 ^ k = q at hq ⊢
      repeat first
        | (refine hK _ ?_; clear hK K)
        | ((first | refine vm_reg (fun K hK => ?_) | refine vm_dreg (fun K hK => ?_)); simp (disch := (first | omega | assumption)) only [S1, ↓reduceIte, Nat.reduceEqDiff, Nat.reduceAdd, Nat.reduceMul, Nat.reduceDiv, AOp.sb, AOp.mut, ↓Bool.false_eq_true, beq_self_eq_true, ite_self, Nat.reduceLeDiff, Int.reduceEq, Int.reduceSub, Int.reduceAdd, Int.reduceNeg, Int.reduceLT, Int.reduceLE, Nat.reduceLT, W_len, D_len, Bl_len, Nat.div_one, Nat.mul_one, tn_nat, W_nf, D_nf, Bl_nf, W_nil, D_nil, Bl_nil, wi, h1, tmod_2, tdiv_2, Bl_app1]; refine hK _ ?_; clear hK K)
        | simp only [Sv, ↓reduceIte, Nat.reduceEqDiff]
      refine hQ' _ (k + 1) (by omega) (by omega) ?_
      simp (disch := (first | omega | assumption)) only [Sl, Sa, Sw, ↓reduceIte, Nat.reduceEqDiff, Nat.reduceLT, List.all_nil, List.all_cons, Nat.reduceBneDiff, Nat.reduceAdd, bne_iff_ne, ne_eq, reduceCtorEq, not_false_eq_true, not_true_eq_false, Bool.and_true, Bool.true_and, and_true, true_and, and_self, i_eq]
      exact ⟨⟨by omega, by rw [Nat.pow_succ, ← Nat.div_div_eq_div_mul, hqq], by omega⟩, by rw [fl_succ, hqq, List.append_assoc]⟩
    · obtain rfl : k = 8 := by omega
      repeat first
        | (refine hK _ ?_; clear hK K)
        | ((first | refine vm_reg (fun K hK => ?_) | refine vm_dreg (fun K hK => ?_)); simp (disch := (first | omega | assumption)) only [S1, ↓reduceIte, Nat.reduceEqDiff, Nat.reduceAdd, Nat.reduceMul, Nat.reduceDiv, AOp.sb, AOp.mut, ↓Bool.false_eq_true, beq_self_eq_true, ite_self, Nat.reduceLeDiff, Int.reduceEq, Int.reduceSub, Int.reduceAdd, Int.reduceNeg, Int.reduceLT, Int.reduceLE, Nat.reduceLT, W_len, D_len, Bl_len, Nat.div_one, Nat.mul_one, tn_nat, W_nf, D_nf, Bl_nf, W_nil, D_nil, Bl_nil, wi, h1]; refine hK _ ?_; clear hK K)
        | simp only [Sv, ↓reduceIte, Nat.reduceEqDiff]
      refine he' _ _ ?_
      repeat first
        | (refine hK _ ?_; clear hK K)
        | ((first | refine vm_reg (fun K hK => ?_) | refine vm_dreg (fun K hK => ?_)); simp (disch := (first | omega | assumption)) only [S1, ↓reduceIte, Nat.reduceEqDiff, Nat.reduceAdd, Nat.reduceMul, Nat.reduceDiv, AOp.sb, AOp.mut, ↓Bool.false_eq_true, beq_self_eq_true, ite_self, Nat.reduceLeDiff, Int.reduceEq, Int.reduceSub, Int.reduceAdd, Int.reduceNeg, Int.reduceLT, Int.reduceLE, Nat.reduceLT, W_len, D_len, Bl_len, Nat.div_one, Nat.mul_one, tn_nat, W_nf, D_nf, Bl_nf, W_nil, D_nil, Bl_nil, wi]; refine hK _ ?_; clear hK K)
        | simp only [Sv, ↓reduceIte, Nat.reduceEqDiff]
      refine hQ _ (i + 1) (by omega) (by omega) ?_
      simp (disch := (first | omega | assumption)) only [Sl, Sa, Sw, ↓reduceIte, Nat.reduceEqDiff, Nat.reduceLT, List.all_nil, List.all_cons, Nat.reduceBneDiff, Nat.reduceAdd, bne_iff_ne, ne_eq, reduceCtorEq, not_false_eq_true, not_true_eq_false, Bool.and_true, Bool.true_and, and_true, true_and, and_self, i_eq]
      refine ⟨by omega, ?_⟩
      have hlt := nv_take_lt (b := 256) (by decide) hdl i
      rw [p256] at hlt
      rw [show 8 * (i + 1) = 8 * i + 8 from by omega, fl_add, nv_take_succ', p256, Nat.add_mul_div_left _ _ (Nat.pow_pos (by decide)), Nat.div_eq_of_lt hlt, Nat.zero_add,
        fl_congr (b := 2) (by decide) (n := 8 * i) (v := nv 256 (d.take i) + 2 ^ (8 * i) * d.getD i 0) (u := nv 256 (d.take i)) (by rw [Nat.add_mul_mod_self_left])]
  · obtain rfl : i = d.length := by omega
    repeat first
      | (refine hK _ ?_; clear hK K)
      | ((first | refine vm_reg (fun K hK => ?_) | refine vm_dreg (fun K hK => ?_)); simp (disch := (first | omega | assumption)) only [S1, ↓reduceIte, Nat.reduceEqDiff, Nat.reduceAdd, Nat.reduceMul, Nat.reduceDiv, AOp.sb, AOp.mut, ↓Bool.false_eq_true, beq_self_eq_true, ite_self, Nat.reduceLeDiff, Int.reduceEq, Int.reduceSub, Int.reduceAdd, Int.reduceNeg, Int.reduceLT, Int.reduceLE, Nat.reduceLT, W_len, D_len, Bl_len, Nat.div_one, Nat.mul_one, tn_nat, W_nf, D_nf, Bl_nf, W_nil, D_nil, Bl_nil, wi, h]; refine hK _ ?_; clear hK K)
      | simp only [Sv, ↓reduceIte, Nat.reduceEqDiff]
    refine he _ _ ?_
    rw [List.take_length]
    obtain ⟨row, hrow⟩ : ∃ row, row = fl 2 (8 * d.length) (nv 256 d) := ⟨_, rfl⟩
    have hrl : row.length = 8 * d.length := by rw [hrow, fl_len]
    have hr2 : Lt 2 row := by rw [hrow]; exact fl_Lt (by decide) _ _
    have htz : tz row = dg 2 (nv 256 d) := by rw [hrow]; exact dg_fl (by decide) (by rw [← p256]; exact nv_lt hdl)
    rw [← hrow, ← hrl, ← htz]
    repeat first
      | (refine hK _ ?_; clear hK K)
      | ((first | refine vm_reg (fun K hK => ?_) | refine vm_dreg (fun K hK => ?_)); simp (disch := (first | omega | assumption)) only [S1, ↓reduceIte, Nat.reduceEqDiff, Nat.reduceAdd, Nat.reduceMul, Nat.reduceDiv, AOp.sb, AOp.mut, ↓Bool.false_eq_true, beq_self_eq_true, ite_self, Nat.reduceLeDiff, Int.reduceEq, Int.reduceSub, Int.reduceAdd, Int.reduceNeg, Int.reduceLT, Int.reduceLE, Nat.reduceLT, W_len, D_len, Bl_len, Nat.div_one, Nat.mul_one, tn_nat, W_nf, D_nf, Bl_nf, W_nil, D_nil, Bl_nil, wi]; refine hK _ ?_; clear hK K)
      | simp only [Sv, ↓reduceIte, Nat.reduceEqDiff]
    refine vm_loopA [] Nat (fun m => ⟨[(4, .sl 1 0 0 m)], [(0, some ⟨4, 1, Bl row, true, false⟩)], 1⟩) (fun m => m ≤ row.length ∧ tz row = tz (row.take m)) (fun m => m) row.length ⟨Nat.le_refl _, by rw [List.take_length]⟩ (by simp (disch := (first | omega | assumption)) only [Sl, Sa, Sw, ↓reduceIte, Nat.reduceEqDiff, Nat.reduceLT, List.all_nil, List.all_cons, Nat.reduceBneDiff, Nat.reduceAdd, bne_iff_ne, ne_eq, reduceCtorEq, not_false_eq_true, not_true_eq_false, Bool.and_true, Bool.true_and, and_true, true_and, and_self]) (by simp (disch := (first | omega | assumption)) only [Sl, Sa, Sw, ↓reduceIte, Nat.reduceEqDiff, Nat.reduceLT, List.all_nil, List.all_cons, Nat.reduceBneDiff, Nat.reduceAdd, bne_iff_ne, ne_eq, reduceCtorEq, not_false_eq_true, not_true_eq_false, Bool.and_true, Bool.true_and, and_true, true_and, and_self]) ?_
    intro m ⟨hm, ht⟩ Q2 hQ2 he2 hr3
    by_cases h0 : 0 < (m : Int)
    · obtain ⟨k, rfl⟩ : ∃ k, m = k + 1 := ⟨m - 1, by omega⟩
      rcases bit_of hr2 k with hb | hb
      · have hb' : ¬ row.getD k 0 = 1 := by omega
        repeat first
          | (refine hK _ ?_; clear hK K)
          | ((first | refine vm_reg (fun K hK => ?_) | refine vm_dreg (fun K hK => ?_)); simp (disch := (first | omega | assumption)) only [S1, ↓reduceIte, Nat.reduceEqDiff, Nat.reduceAdd, Nat.reduceMul, Nat.reduceDiv, AOp.sb, AOp.mut, ↓Bool.false_eq_true, beq_self_eq_true, ite_self, Nat.reduceLeDiff, Int.reduceEq, Int.reduceSub, Int.reduceAdd, Int.reduceNeg, Int.reduceLT, Int.reduceLE, Nat.reduceLT, W_len, D_len, Bl_len, Nat.div_one, Nat.mul_one, tn_nat, W_nf, D_nf, Bl_nf, W_nil, D_nil, Bl_nil, wi, h0, hb', Bl_get, tn_sub1, Nat.add_sub_cancel, Nat.zero_add]; refine hK _ ?_; clear hK K)
          | simp only [Sv, ↓reduceIte, Nat.reduceEqDiff]
        refine hQ2 _ k ⟨by omega, ?_⟩ (by omega) ?_
        · rw [ht]; exact tz_zero row k (by omega) hb
        · simp (disch := (first | omega | assumption)) only [Sl, Sa, Sw, ↓reduceIte, Nat.reduceEqDiff, Nat.reduceLT, List.all_nil, List.all_cons, Nat.reduceBneDiff, Nat.reduceAdd, bne_iff_ne, ne_eq, reduceCtorEq, not_false_eq_true, not_true_eq_false, Bool.and_true, Bool.true_and, and_true, true_and, and_self, i_eq]
          try omega
      · repeat first
          | (refine hK _ ?_; clear hK K)
          | ((first | refine vm_reg (fun K hK => ?_) | refine vm_dreg (fun K hK => ?_)); simp (disch := (first | omega | assumption)) only [S1, ↓reduceIte, Nat.reduceEqDiff, Nat.reduceAdd, Nat.reduceMul, Nat.reduceDiv, AOp.sb, AOp.mut, ↓Bool.false_eq_true, beq_self_eq_true, ite_self, Nat.reduceLeDiff, Int.reduceEq, Int.reduceSub, Int.reduceAdd, Int.reduceNeg, Int.reduceLT, Int.reduceLE, Nat.reduceLT, W_len, D_len, Bl_len, Nat.div_one, Nat.mul_one, tn_nat, W_nf, D_nf, Bl_nf, W_nil, D_nil, Bl_nil, wi, h0, hb, Bl_get, tn_sub1, Nat.add_sub_cancel, Nat.zero_add]; refine hK _ ?_; clear hK K)
          | simp only [Sv, ↓reduceIte, Nat.reduceEqDiff]
        refine he2 _ _ ?_
        have e := tz_take row
        rw [ht, tz_top row k (by omega) (by omega)] at e
        have e2 : row.take (k + 1) = tz row := by rw [ht]; exact e
        repeat first
          | (refine hK _ ?_; clear hK K)
          | ((first | refine vm_reg (fun K hK => ?_) | refine vm_dreg (fun K hK => ?_)); simp (disch := (first | omega | assumption)) only [S1, ↓reduceIte, Nat.reduceEqDiff, Nat.reduceAdd, Nat.reduceMul, Nat.reduceDiv, AOp.sb, AOp.mut, ↓Bool.false_eq_true, beq_self_eq_true, ite_self, Nat.reduceLeDiff, Int.reduceEq, Int.reduceSub, Int.reduceAdd, Int.reduceNeg, Int.reduceLT, Int.reduceLE, Nat.reduceLT, W_len, D_len, Bl_len, Nat.div_one, Nat.mul_one, tn_nat, W_nf, D_nf, Bl_nf, W_nil, D_nil, Bl_nil, wi]; refine hK _ ?_; clear hK K)
          | simp only [Sv, ↓reduceIte, Nat.reduceEqDiff]
        simp (disch := (first | omega | assumption)) only [retOk, retN, ret1, retF, ret1F, V.okArg, and_true, true_and, S1, ↓reduceIte, Nat.reduceEqDiff, Nat.reduceAdd, Nat.reduceMul, Nat.reduceDiv, AOp.sb, AOp.mut, ↓Bool.false_eq_true, beq_self_eq_true, ite_self, Nat.reduceLeDiff, Int.reduceEq, Int.reduceSub, Int.reduceAdd, Int.reduceNeg, Int.reduceLT, Int.reduceLE, Nat.reduceLT, W_len, D_len, Bl_len, Nat.div_one, Nat.mul_one, tn_nat, W_nf, D_nf, Bl_nf, W_nil, D_nil, Bl_nil, wi, Bl_take, e2]
        omega
    · obtain rfl : m = 0 := by omega
      repeat first
        | (refine hK _ ?_; clear hK K)
        | ((first | refine vm_reg (fun K hK => ?_) | refine vm_dreg (fun K hK => ?_)); simp (disch := (first | omega | assumption)) only [S1, ↓reduceIte, Nat.reduceEqDiff, Nat.reduceAdd, Nat.reduceMul, Nat.reduceDiv, AOp.sb, AOp.mut, ↓Bool.false_eq_true, beq_self_eq_true, ite_self, Nat.reduceLeDiff, Int.reduceEq, Int.reduceSub, Int.reduceAdd, Int.reduceNeg, Int.reduceLT, Int.reduceLE, Nat.reduceLT, W_len, D_len, Bl_len, Nat.div_one, Nat.mul_one, tn_nat, W_nf, D_nf, Bl_nf, W_nil, D_nil, Bl_nil, wi, h0]; refine hK _ ?_; clear hK K)
        | simp only [Sv, ↓reduceIte, Nat.reduceEqDiff]
      refine he2 _ _ ?_
      repeat first
        | (refine hK _ ?_; clear hK K)
        | ((first | refine vm_reg (fun K hK => ?_) | refine vm_dreg (fun K hK => ?_)); simp (disch := (first | omega | assumption)) only [S1, ↓reduceIte, Nat.reduceEqDiff, Nat.reduceAdd, Nat.reduceMul, Nat.reduceDiv, AOp.sb, AOp.mut, ↓Bool.false_eq_true, beq_self_eq_true, ite_self, Nat.reduceLeDiff, Int.reduceEq, Int.reduceSub, Int.reduceAdd, Int.reduceNeg, Int.reduceLT, Int.reduceLE, Nat.reduceLT, W_len, D_len, Bl_len, Nat.div_one, Nat.mul_one, tn_nat, W_nf, D_nf, Bl_nf, W_nil, D_nil, Bl_nil, wi]; refine hK _ ?_; clear hK K)
        | simp only [Sv, ↓reduceIte, Nat.reduceEqDiff]
      simp (disch := (first | omega | assumption)) only [retOk, retN, ret1, retF, ret1F, V.okArg, and_true, true_and, S1, ↓reduceIte, Nat.reduceEqDiff, Nat.reduceAdd, Nat.reduceMul, Nat.reduceDiv, AOp.sb, AOp.mut, ↓Bool.false_eq_true, beq_self_eq_true, ite_self, Nat.reduceLeDiff, Int.reduceEq, Int.reduceSub, Int.reduceAdd, Int.reduceNeg, Int.reduceLT, Int.reduceLE, Nat.reduceLT, W_len, D_len, Bl_len, Nat.div_one, Nat.mul_one, tn_nat, W_nf, D_nf, Bl_nf, W_nil, D_nil, Bl_nil, wi, ht, Nat.zero_mul]
      exact ⟨Nat.zero_le _, rfl⟩

-- surd/surdref02.OfRow
def a55 : AC := .seq (.reg [⟨some 2, none, .mv (.k .nl)⟩])
  (.seq (.reg [⟨some 3, none, .mv (.k .nl)⟩])
  (.seq (.seq (.reg [⟨some 4, none, .mv (.k (.i .i64 0))⟩])
    (.blk 0
    (.loop
      (.seq (.seq (.reg [⟨some 7, none, .mv (.t 4)⟩, 
              ⟨some 8, none, .mv (.t 0)⟩, 
              ⟨some 9, none, .len (.t 8)⟩, 
              ⟨some 10, none, .bin .lss (.t 7) (.t 9)⟩])
          (.cond (.t 10)
          (.skip)
          (.exit 0)))
        (.seq (.blk 1
          (.seq (.reg [⟨some 5, none, .mv (.k (.i .i64 0))⟩])
            (.seq (.seq (.reg [⟨some 6, none, .mv (.k (.i .i64 7))⟩])
              (.blk 2
              (.loop
                (.seq (.seq (.reg [⟨some 13, none, .mv (.t 6)⟩, 
                        ⟨some 14, none, .bin .geq (.t 13) (.k (.i .i64 0))⟩])
                    (.cond (.t 14)
                    (.skip)
                    (.exit 2)))
                  (.seq (.blk 3
                    (.seq (.reg [⟨some 17, none, .mv (.t 5)⟩, 
                          ⟨some 18, none, .bin .mul (.k (.i .i64 2)) (.t 17)⟩, 
                          ⟨some 5, none, .mv (.t 18)⟩])
                      (.seq (.reg [⟨some 19, none, .mv (.t 4)⟩, 
                          ⟨some 20, none, .mv (.t 6)⟩, 
                          ⟨some 21, none, .bin .add (.t 19) (.t 20)⟩, 
                          ⟨some 22, none, .mv (.t 0)⟩, 
                          ⟨some 23, none, .len (.t 22)⟩, 
                          ⟨some 24, none, .bin .lss (.t 21) (.t 23)⟩, 
                          ⟨some 25, none, .mv (.t 24)⟩, 
                          ⟨some 26, some (25, true), .mv (.t 0)⟩, 
                          ⟨some 27, some (25, true), .mv (.t 4)⟩, 
                          ⟨some 28, some (25, true), .mv (.t 6)⟩, 
                          ⟨some 29, some (25, true), .bin .add (.t 27) (.t 28)⟩, 
                          ⟨some 30, some (25, true), .idx 1 (.t 26) (.t 29)⟩, 
                          ⟨some 31, some (25, true), .ld false 1 (.t 30)⟩, 
                          ⟨some 32, none, .pick (.t 25) (.t 31) (.k (.b false))⟩])
                      (.cond (.t 32)
                      (.reg [⟨some 33, none, .mv (.t 5)⟩, 
                          ⟨some 34, none, .bin .add (.t 33) (.k (.i .i64 1))⟩, 
                          ⟨some 5, none, .mv (.t 34)⟩])
                      (.skip)))))
                  (.reg [⟨some 15, none, .mv (.t 6)⟩, 
                    ⟨some 16, none, .bin .sub (.t 15) (.k (.i .i64 1))⟩, 
                    ⟨some 6, none, .mv (.t 16)⟩]))))))
            (.reg [⟨some 35, none, .mv (.t 3)⟩, 
              ⟨some 36, none, .mv (.t 5)⟩, 
              ⟨some 37, none, .bsl 3 1 1 [(.i .i64 0)] [(0, (.t 36))]⟩, 
              ⟨some 38, none, .app 3 1 8 (.t 35) (.t 37)⟩, 
              ⟨some 3, none, .mv (.t 38)⟩]))))
        (.reg [⟨some 11, none, .mv (.t 4)⟩, 
          ⟨some 12, none, .bin .add (.t 11) (.k (.i .i64 8))⟩, 
          ⟨some 4, none, .mv (.t 12)⟩]))))))
  (.seq (.reg [⟨some 39, none, .mv (.t 3)⟩, 
      ⟨some 40, none, .call 56 [(1, (.t 39))]⟩, 
      ⟨some 2, none, .mv (.t 40)⟩])
  (.ret))))
theorem ofRow_spec (l : List Nat) (hl : Lt 2 l) (ll : l.length ≤ 1000000000000) : AFun Try.prog J0 55 [.l 1 (Bl l)] (.o 29 1 (W (dg B (nv 2 l)))) := by
  refine AFun.mk fol J0s Try.func55 rfl (ac := a55) (by kernel_rfl) rfl rfl ?_
  apply vm_start
  unfold a55
  simp only [init_eq, initE]
  obtain ⟨v, hv⟩ : ∃ v, v = nv 2 l := ⟨_, rfl⟩
  repeat first
    | (refine hK _ ?_; clear hK K)
    | ((first | refine vm_reg (fun K hK => ?_) | refine vm_dreg (fun K hK => ?_)); simp (disch := (first | omega | assumption)) only [S1, ↓reduceIte, Nat.reduceEqDiff, Nat.reduceAdd, Nat.reduceMul, Nat.reduceDiv, AOp.sb, AOp.mut, ↓Bool.false_eq_true, beq_self_eq_true, ite_self, Nat.reduceLeDiff, Int.reduceEq, Int.reduceSub, Int.reduceAdd, Int.reduceNeg, Int.reduceLT, Int.reduceLE, Nat.reduceLT, W_len, D_len, Bl_len, Nat.div_one, Nat.mul_one, tn_nat, W_nf, D_nf, Bl_nf, W_nil, D_nil, Bl_nil, wi]; refine hK _ ?_; clear hK K)
    | simp only [Sv, ↓reduceIte, Nat.reduceEqDiff]
  refine vm_loopA [(3, 3, 1)] Nat (fun i => ⟨[(0, .l 1 (Bl l)), (3, .ow 1 0 i), (4, .i .i64 ((8 * i : Nat) : Int))], [(0, some ⟨3, 1, D (fl 256 i v), true, false⟩)], 1⟩)
    (fun i => 8 * i < l.length + 8) (fun i => l.length + 8 - 8 * i) 0 (by omega) (by simp (disch := (first | omega | assumption)) only [Sl, Sa, Sw, ↓reduceIte, Nat.reduceEqDiff, Nat.reduceLT, List.all_nil, List.all_cons, Nat.reduceBneDiff, Nat.reduceAdd, bne_iff_ne, ne_eq, reduceCtorEq, not_false_eq_true, not_true_eq_false, Bool.and_true, Bool.true_and, and_true, true_and, and_self]) (by
    simp (disch := (first | omega | assumption)) only [Sl, Sa, Sw, ↓reduceIte, Nat.reduceEqDiff, Nat.reduceLT, List.all_nil, List.all_cons, Nat.reduceBneDiff, Nat.reduceAdd, bne_iff_ne, ne_eq, reduceCtorEq, not_false_eq_true, not_true_eq_false, Bool.and_true, Bool.true_and, and_true, true_and, and_self, i_eq]
    repeat' first | rfl | omega | (simp only [List.length_append, List.length_cons, List.length_nil]; done) | apply And.intro) ?_
  intro i hi Q' hQ he hr
  by_cases h : ((8 * i : Nat) : Int) < l.length
  · obtain ⟨w, hw⟩ : ∃ w, w = v / 256 ^ i % 256 := ⟨_, rfl⟩
    have hwl : w < 256 := by rw [hw]; exact Nat.mod_lt _ (by decide)
    repeat first
      | (refine hK _ ?_; clear hK K)
      | ((first | refine vm_reg (fun K hK => ?_) | refine vm_dreg (fun K hK => ?_)); simp (disch := (first | omega | assumption)) only [S1, ↓reduceIte, Nat.reduceEqDiff, Nat.reduceAdd, Nat.reduceMul, Nat.reduceDiv, AOp.sb, AOp.mut, ↓Bool.false_eq_true, beq_self_eq_true, ite_self, Nat.reduceLeDiff, Int.reduceEq, Int.reduceSub, Int.reduceAdd, Int.reduceNeg, Int.reduceLT, Int.reduceLE, Nat.reduceLT, W_len, D_len, Bl_len, Nat.div_one, Nat.mul_one, tn_nat, W_nf, D_nf, Bl_nf, W_nil, D_nil, Bl_nil, wi, h]; refine hK _ ?_; clear hK K)
      | simp only [Sv, ↓reduceIte, Nat.reduceEqDiff]
    refine vm_loopA [] Nat (fun k => ⟨[(0, .l 1 (Bl l)), (3, .ow 1 0 i), (4, .i .i64 ((8 * i : Nat) : Int)), (5, .i .i64 ((w / 2 ^ k : Nat) : Int)), (6, .i .i64 ((k : Int) - 1))], [(0, some ⟨3, 1, D (fl 256 i v), true, false⟩)], 1⟩)
      (fun k => k ≤ 8) (fun k => k) 8 (by omega) (by simp (disch := (first | omega | assumption)) only [Sl, Sa, Sw, ↓reduceIte, Nat.reduceEqDiff, Nat.reduceLT, List.all_nil, List.all_cons, Nat.reduceBneDiff, Nat.reduceAdd, bne_iff_ne, ne_eq, reduceCtorEq, not_false_eq_true, not_true_eq_false, Bool.and_true, Bool.true_and, and_true, true_and, and_self]) (by
      simp (disch := (first | omega | assumption)) only [Sl, Sa, Sw, ↓reduceIte, Nat.reduceEqDiff, Nat.reduceLT, List.all_nil, List.all_cons, Nat.reduceBneDiff, Nat.reduceAdd, bne_iff_ne, ne_eq, reduceCtorEq, not_false_eq_true, not_true_eq_false, Bool.and_true, Bool.true_and, and_true, true_and, and_self, i_eq]
      omega) ?_
    intro k hk Q'' hQ' he' hr'
    by_cases h1 : (0 : Int) ≤ (k : Int) - 1
    · obtain ⟨n, rfl⟩ : ∃ n, k = n + 1 := ⟨k - 1, by omega⟩
      have e : ((n + 1 : Nat) : Int) - 1 = (n : Int) := by omega
      have h1 : (0 : Int) ≤ (n : Int) := by omega
      have dig : l.getD (8 * i + n) 0 = w / 2 ^ n % 2 := by
        rw [nv_digit (b := 2) (by decide) hl, hw, ← hv, Nat.pow_add, ← Nat.div_div_eq_div_mul, ← p256]
        rw [show 256 = 2 ^ n * 2 ^ (8 - n) from by rw [← Nat.pow_add, show n + (8 - n) = 8 from by omega], Nat.mod_mul_right_div_self]
        rw [show 2 ^ (8 - n) = 2 * 2 ^ (7 - n) from by rw [Nat.mul_comm, ← Nat.pow_succ]; congr 1; omega, Nat.mod_mul_right_mod]
      have hx : w / 2 ^ n < 256 := Nat.lt_of_le_of_lt (Nat.div_le_self _ _) hwl
      obtain ⟨x, hx0⟩ : ∃ x, x = w / 2 ^ n := ⟨_, rfl⟩
      rw [Nat.pow_succ, ← Nat.div_div_eq_div_mul, ← hx0]
      rw [← hx0] at dig hx
      simp only [e]
      by_cases h2 : ((8 * i : Nat) : Int) + (n : Int) < l.length
      · have tn : (((8 * i : Nat) : Int) + (n : Int)).toNat = 8 * i + n := by omega
        rcases bit_of hl (8 * i + n) with hb | hb
        · have hb' : ¬ l.getD (8 * i + n) 0 = 1 := by omega
          repeat first
            | (refine hK _ ?_; clear hK K)
            | ((first | refine vm_reg (fun K hK => ?_) | refine vm_dreg (fun K hK => ?_)); simp (disch := (first | omega | assumption)) only [S1, ↓reduceIte, Nat.reduceEqDiff, Nat.reduceAdd, Nat.reduceMul, Nat.reduceDiv, AOp.sb, AOp.mut, ↓Bool.false_eq_true, beq_self_eq_true, ite_self, Nat.reduceLeDiff, Int.reduceEq, Int.reduceSub, Int.reduceAdd, Int.reduceNeg, Int.reduceLT, Int.reduceLE, Nat.reduceLT, W_len, D_len, Bl_len, Nat.div_one, Nat.mul_one, tn_nat, W_nf, D_nf, Bl_nf, W_nil, D_nil, Bl_nil, wi, h1, h2, tn, Bl_get, hb']; refine hK _ ?_; clear hK K)
            | simp only [Sv, ↓reduceIte, Nat.reduceEqDiff]
          refine hQ' _ n (by omega) (by omega) ?_
          simp (disch := (first | omega | assumption)) only [Sl, Sa, Sw, ↓reduceIte, Nat.reduceEqDiff, Nat.reduceLT, List.all_nil, List.all_cons, Nat.reduceBneDiff, Nat.reduceAdd, bne_iff_ne, ne_eq, reduceCtorEq, not_false_eq_true, not_true_eq_false, Bool.and_true, Bool.true_and, and_true, true_and, and_self, i_eq]
          rw [← hx0]; omega
        · repeat first
            | (refine hK _ ?_; clear hK K)
            | ((first | refine vm_reg (fun K hK => ?_) | refine vm_dreg (fun K hK => ?_)); simp (disch := (first | omega | assumption)) only [S1, ↓reduceIte, Nat.reduceEqDiff, Nat.reduceAdd, Nat.reduceMul, Nat.reduceDiv, AOp.sb, AOp.mut, ↓Bool.false_eq_true, beq_self_eq_true, ite_self, Nat.reduceLeDiff, Int.reduceEq, Int.reduceSub, Int.reduceAdd, Int.reduceNeg, Int.reduceLT, Int.reduceLE, Nat.reduceLT, W_len, D_len, Bl_len, Nat.div_one, Nat.mul_one, tn_nat, W_nf, D_nf, Bl_nf, W_nil, D_nil, Bl_nil, wi, h1, h2, tn, Bl_get, hb]; refine hK _ ?_; clear hK K)
            | simp only [Sv, ↓reduceIte, Nat.reduceEqDiff]
          refine hQ' _ n (by omega) (by omega) ?_
          simp (disch := (first | omega | assumption)) only [Sl, Sa, Sw, ↓reduceIte, Nat.reduceEqDiff, Nat.reduceLT, List.all_nil, List.all_cons, Nat.reduceBneDiff, Nat.reduceAdd, bne_iff_ne, ne_eq, reduceCtorEq, not_false_eq_true, not_true_eq_false, Bool.and_true, Bool.true_and, and_true, true_and, and_self, i_eq]
          rw [← hx0]; omega
      · rw [List.getD_eq_getElem?_getD, List.getElem?_eq_none (by omega)] at dig
        repeat first
          | (refine hK _ ?_; clear hK K)
          | ((first | refine vm_reg (fun K hK => ?_) | refine vm_dreg (fun K hK => ?_)); simp (disch := (first | omega | assumption)) only [S1, ↓reduceIte, Nat.reduceEqDiff, Nat.reduceAdd, Nat.reduceMul, Nat.reduceDiv, AOp.sb, AOp.mut, ↓Bool.false_eq_true, beq_self_eq_true, ite_self, Nat.reduceLeDiff, Int.reduceEq, Int.reduceSub, Int.reduceAdd, Int.reduceNeg, Int.reduceLT, Int.reduceLE, Nat.reduceLT, W_len, D_len, Bl_len, Nat.div_one, Nat.mul_one, tn_nat, W_nf, D_nf, Bl_nf, W_nil, D_nil, Bl_nil, wi, h1, h2]; refine hK _ ?_; clear hK K)
          | simp only [Sv, ↓reduceIte, Nat.reduceEqDiff]
        refine hQ' _ n (by omega) (by omega) ?_
        simp (disch := (first | omega | assumption)) only [Sl, Sa, Sw, ↓reduceIte, Nat.reduceEqDiff, Nat.reduceLT, List.all_nil, List.all_cons, Nat.reduceBneDiff, Nat.reduceAdd, bne_iff_ne, ne_eq, reduceCtorEq, not_false_eq_true, not_true_eq_false, Bool.and_true, Bool.true_and, and_true, true_and, and_self, i_eq]
        rw [← hx0]; simp at dig; omega
    · obtain rfl : k = 0 := by omega
      repeat first
        | (refine hK _ ?_; clear hK K)
        | ((first | refine vm_reg (fun K hK => ?_) | refine vm_dreg (fun K hK => ?_)); simp (disch := (first | omega | assumption)) only [S1, ↓reduceIte, Nat.reduceEqDiff, Nat.reduceAdd, Nat.reduceMul, Nat.reduceDiv, AOp.sb, AOp.mut, ↓Bool.false_eq_true, beq_self_eq_true, ite_self, Nat.reduceLeDiff, Int.reduceEq, Int.reduceSub, Int.reduceAdd, Int.reduceNeg, Int.reduceLT, Int.reduceLE, Nat.reduceLT, W_len, D_len, Bl_len, Nat.div_one, Nat.mul_one, tn_nat, W_nf, D_nf, Bl_nf, W_nil, D_nil, Bl_nil, wi, h1]; refine hK _ ?_; clear hK K)
        | simp only [Sv, ↓reduceIte, Nat.reduceEqDiff]
      refine he' _ _ ?_
      repeat first
        | (refine hK _ ?_; clear hK K)
        | ((first | refine vm_reg (fun K hK => ?_) | refine vm_dreg (fun K hK => ?_)); simp (disch := (first | omega | assumption)) only [S1, ↓reduceIte, Nat.reduceEqDiff, Nat.reduceAdd, Nat.reduceMul, Nat.reduceDiv, AOp.sb, AOp.mut, ↓Bool.false_eq_true, beq_self_eq_true, ite_self, Nat.reduceLeDiff, Int.reduceEq, Int.reduceSub, Int.reduceAdd, Int.reduceNeg, Int.reduceLT, Int.reduceLE, Nat.reduceLT, W_len, D_len, Bl_len, Nat.div_one, Nat.mul_one, tn_nat, W_nf, D_nf, Bl_nf, W_nil, D_nil, Bl_nil, wi, D_app1]; refine hK _ ?_; clear hK K)
        | simp only [Sv, ↓reduceIte, Nat.reduceEqDiff]
      refine hQ _ (i + 1) (by omega) (by omega) ?_
      simp (disch := (first | omega | assumption)) only [Sl, Sa, Sw, ↓reduceIte, Nat.reduceEqDiff, Nat.reduceLT, List.all_nil, List.all_cons, Nat.reduceBneDiff, Nat.reduceAdd, bne_iff_ne, ne_eq, reduceCtorEq, not_false_eq_true, not_true_eq_false, Bool.and_true, Bool.true_and, and_true, true_and, and_self, i_eq]
      refine ⟨by omega, by rw [fl_succ, ← hw]; simp⟩
  · have e : nv 256 (fl 256 i v) = v := by
      rw [nv_fl, Nat.mod_eq_of_lt]
      rw [hv, p256]
      exact Nat.lt_of_lt_of_le (nv_lt hl) (Nat.pow_le_pow_right (by decide) (by omega))
    have hof := of_spec (fl 256 i v) (fl_Lt (by decide) _ _) (by rw [fl_len]; omega)
    rw [e, hv] at hof
    repeat first
      | (refine hK _ ?_; clear hK K)
      | ((first | refine vm_reg (fun K hK => ?_) | refine vm_dreg (fun K hK => ?_)); simp (disch := (first | omega | assumption)) only [S1, ↓reduceIte, Nat.reduceEqDiff, Nat.reduceAdd, Nat.reduceMul, Nat.reduceDiv, AOp.sb, AOp.mut, ↓Bool.false_eq_true, beq_self_eq_true, ite_self, Nat.reduceLeDiff, Int.reduceEq, Int.reduceSub, Int.reduceAdd, Int.reduceNeg, Int.reduceLT, Int.reduceLE, Nat.reduceLT, W_len, D_len, Bl_len, Nat.div_one, Nat.mul_one, tn_nat, W_nf, D_nf, Bl_nf, W_nil, D_nil, Bl_nil, wi, h]; refine hK _ ?_; clear hK K)
      | simp only [Sv, ↓reduceIte, Nat.reduceEqDiff]
    refine he _ _ ?_
    rw [hv]
    have zc2 := hof
    repeat first | (refine hK _ ?_; clear hK K) | simp only [Sv, ↓reduceIte, Nat.reduceEqDiff] | ((first | refine vm_reg (fun K hK => ?_) | refine vm_dreg (fun K hK => ?_) | refine clp_q ?_ | refine clq_mk (by assumption) ?_); simp (disch := (first | omega | assumption)) only [S1, ↓reduceIte, Nat.reduceEqDiff, Nat.reduceAdd, Nat.reduceMul, Nat.reduceDiv, AOp.sb, AOp.mut, ↓Bool.false_eq_true, beq_self_eq_true, ite_self, Nat.reduceLeDiff, Int.reduceEq, Int.reduceSub, Int.reduceAdd, Int.reduceNeg, Int.reduceLT, Int.reduceLE, Nat.reduceLT, W_len, D_len, Bl_len, Nat.div_one, Nat.mul_one, tn_nat, W_nf, D_nf, Bl_nf, W_nil, D_nil, Bl_nil, wi])
    simp (disch := (first | omega | assumption)) only [retOk, retN, ret1, retF, ret1F, V.okArg, and_true, true_and, S1, ↓reduceIte, Nat.reduceEqDiff, Nat.reduceAdd, Nat.reduceMul, Nat.reduceDiv, AOp.sb, AOp.mut, ↓Bool.false_eq_true, beq_self_eq_true, ite_self, Nat.reduceLeDiff, Int.reduceEq, Int.reduceSub, Int.reduceAdd, Int.reduceNeg, Int.reduceLT, Int.reduceLE, Nat.reduceLT, W_len, D_len, Bl_len, Nat.div_one, Nat.mul_one, tn_nat, W_nf, D_nf, Bl_nf, W_nil, D_nil, Bl_nil, wi]
end Go.Proofs.Ytngohbpgdeiodaa
