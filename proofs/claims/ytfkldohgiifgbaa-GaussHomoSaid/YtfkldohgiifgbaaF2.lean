/-
  surdref01, surdref05: words, sums, differences, products.
-/
import Derived.Test.YtfkldohgiifgbaaF1
import Derived.Test.YtfkldohgiifgbaaNM8
import Derived.Test.YtfkldohgiifgbaaGG
namespace Go.Proofs.Ytfkldohgiifgbaa
open Go Go.RowKit Ab
set_option linter.unusedSimpArgs false
set_option linter.unusedVariables false
set_option maxHeartbeats 10000000
theorem bz_F2 : type_of% (And.intro @W_len (And.intro @D_len (And.intro @Nat.div_one (And.intro @Nat.mul_one (And.intro @tn_nat (And.intro @W_nf (And.intro @D_nf (And.intro @W_nil (And.intro @D_nil (And.intro @wi (@D_get))))))))))) := And.intro @W_len (And.intro @D_len (And.intro @Nat.div_one (And.intro @Nat.mul_one (And.intro @tn_nat (And.intro @W_nf (And.intro @D_nf (And.intro @W_nil (And.intro @D_nil (And.intro @wi (@D_get))))))))))

theorem get_mid (l r : List Nat) (x n : Nat) (h : l.length = n) : (l ++ x :: r).getD n 0 = x := by
  rw [List.getD_eq_getElem?_getD, List.getElem?_append_right (by omega), h, Nat.sub_self]; rfl
theorem set_mid (l r : List Nat) (x y n : Nat) (h : l.length = n) : (l ++ x :: r).set n y = l ++ y :: r := by
  rw [List.set_append_right _ _ (by omega), h, Nat.sub_self, List.set_cons_zero]
-- surd/surdref01.Words
def a107 : AC := .seq (.reg [⟨some 4, none, .mv (.k .nl)⟩])
  (.seq (.reg [⟨some 8, none, .mv (.t 1)⟩, 
      ⟨some 9, none, .mk 56 1 8 [(.i .u64 0)] (.t 8) (.t 8)⟩, 
      ⟨some 5, none, .mv (.t 9)⟩])
  (.seq (.seq (.reg [⟨some 6, none, .mv (.k (.i .i64 0))⟩])
    (.blk 0
    (.loop
      (.seq (.seq (.reg [⟨some 10, none, .mv (.t 6)⟩, 
              ⟨some 11, none, .mv (.t 1)⟩, 
              ⟨some 12, none, .bin .lss (.t 10) (.t 11)⟩])
          (.cond (.t 12)
          (.skip)
          (.exit 0)))
        (.seq (.blk 1
          (.seq (.reg [⟨some 7, none, .mv (.k (.i .i64 3))⟩])
            (.blk 2
            (.loop
              (.seq (.seq (.reg [⟨some 15, none, .mv (.t 7)⟩, 
                      ⟨some 16, none, .bin .geq (.t 15) (.k (.i .i64 0))⟩])
                  (.cond (.t 16)
                  (.skip)
                  (.exit 2)))
                (.seq (.blk 3
                  (.dreg [⟨some 19, none, .mv (.t 5)⟩, 
                      ⟨some 20, none, .mv (.t 6)⟩, 
                      ⟨some 21, none, .mv (.t 5)⟩, 
                      ⟨some 22, none, .mv (.t 6)⟩, 
                      ⟨some 23, none, .idx 1 (.t 21) (.t 22)⟩, 
                      ⟨some 24, none, .ld false 1 (.t 23)⟩, 
                      ⟨some 25, none, .bin .mul (.t 24) (.k (.i .u64 65536))⟩, 
                      ⟨some 26, none, .mv (.t 0)⟩, 
                      ⟨some 27, none, .mv (.t 6)⟩, 
                      ⟨some 28, none, .bin .mul (.k (.i .i64 4)) (.t 27)⟩, 
                      ⟨some 29, none, .mv (.t 7)⟩, 
                      ⟨some 30, none, .bin .add (.t 28) (.t 29)⟩, 
                      ⟨some 31, none, .call 109 [(1, (.t 26)), (1, (.t 30))]⟩, 
                      ⟨some 32, none, .cvt .u64 (.t 31)⟩, 
                      ⟨some 33, none, .bin .add (.t 25) (.t 32)⟩, 
                      ⟨some 34, none, .idx 1 (.t 19) (.t 20)⟩, 
                      ⟨none, none, .st 1 (.t 34) (.t 33)⟩]))
                (.reg [⟨some 17, none, .mv (.t 7)⟩, 
                  ⟨some 18, none, .bin .sub (.t 17) (.k (.i .i64 1))⟩, 
                  ⟨some 7, none, .mv (.t 18)⟩])))))))
        (.reg [⟨some 13, none, .mv (.t 6)⟩, 
          ⟨some 14, none, .bin .add (.t 13) (.k (.i .i64 1))⟩, 
          ⟨some 6, none, .mv (.t 14)⟩]))))))
  (.seq (.reg [⟨some 35, none, .mv (.t 5)⟩, 
      ⟨some 4, none, .mv (.t 35)⟩])
  (.ret))))
theorem hwords_spec (d : List Nat) (n : Nat) (hd : Lt 65536 d) (ld : d.length ≤ 1099511627776) (ln : n ≤ 100000000000) :
    AFun Try.prog J0 107 [.l 1 (D d), .i .i64 (n : Int)] (.o 56 1 (W (fl B n (nv 65536 d)))) := by
  have hdi := hdigit_spec d
  have hn0 : (0 : Int) ≤ (n : Int) := by omega
  obtain ⟨v, hv⟩ : ∃ v, v = nv 65536 d := ⟨_, rfl⟩
  rw [← hv]
  refine AFun.mk fol J0s Try.func107 rfl (ac := a107) (by kernel_rfl) rfl rfl ?_
  apply vm_start
  unfold a107
  simp only [init_eq, initE]
  repeat first
    | (refine hK _ ?_; clear hK K)
    | ((first | refine vm_reg (fun K hK => ?_) | refine vm_dreg (fun K hK => ?_)); simp (disch := (first | omega | assumption)) only [S1, ↓reduceIte, Nat.reduceEqDiff, Nat.reduceAdd, Nat.reduceMul, Nat.reduceDiv, AOp.sb, AOp.mut, ↓Bool.false_eq_true, beq_self_eq_true, ite_self, Nat.reduceLeDiff, Int.reduceEq, Int.reduceSub, Int.reduceAdd, Int.reduceNeg, Int.reduceLT, Int.reduceLE, Nat.reduceLT, bz_F2, hn0, mk_W5]; refine hK _ ?_; clear hK K)
    | simp only [Sv, ↓reduceIte, Nat.reduceEqDiff]
  refine vm_loopA [] Nat (fun i => ⟨[(0, .l 1 (D d)), (1, .i .i64 (n : Int)), (5, .ow 1 0 n), (6, .i .i64 (i : Int))], [(0, some ⟨56, 1, W (fl B i v ++ List.replicate (n - i) 0), true, false⟩)], 1⟩)
    (fun i => i ≤ n) (fun i => n - i) 0 (Nat.zero_le _) (by simp (disch := (first | omega | assumption)) only [Sl, Sa, Sw, ↓reduceIte, Nat.reduceEqDiff, Nat.reduceLT, List.all_nil, List.all_cons, Nat.reduceBneDiff, Nat.reduceAdd, bne_iff_ne, ne_eq, reduceCtorEq, not_false_eq_true, not_true_eq_false, Bool.and_true, Bool.true_and, and_true, true_and, and_self]) (by
    simp (disch := (first | omega | assumption)) only [Sl, Sa, Sw, ↓reduceIte, Nat.reduceEqDiff, Nat.reduceLT, List.all_nil, List.all_cons, Nat.reduceBneDiff, Nat.reduceAdd, bne_iff_ne, ne_eq, reduceCtorEq, not_false_eq_true, not_true_eq_false, Bool.and_true, Bool.true_and, and_true, true_and, and_self, i_eq]
    repeat' first | rfl | omega | (simp only [List.length_append, List.length_cons, List.length_nil]; done) | apply And.intro) ?_
  intro i hi Q' hQ he hr
  by_cases h : (i : Int) < (n : Int)
  · obtain ⟨w, hw⟩ : ∃ w, w = v / B ^ i % B := ⟨_, rfl⟩
    have hwl : w < 18446744073709551616 := by rw [hw]; exact Nat.mod_lt _ B0
    obtain ⟨r, hr0⟩ : ∃ r, r = List.replicate (n - (i + 1)) 0 := ⟨_, rfl⟩
    have hrl : r.length = n - (i + 1) := by rw [hr0, List.length_replicate]
    have fli : (fl B i v).length = i := fl_len _ _
    have er : List.replicate (n - i) 0 = 0 :: r := by rw [hr0, show n - i = (n - (i + 1)) + 1 from by omega, List.replicate_succ]
    repeat first
      | (refine hK _ ?_; clear hK K)
      | ((first | refine vm_reg (fun K hK => ?_) | refine vm_dreg (fun K hK => ?_)); simp (disch := (first | omega | assumption)) only [S1, ↓reduceIte, Nat.reduceEqDiff, Nat.reduceAdd, Nat.reduceMul, Nat.reduceDiv, AOp.sb, AOp.mut, ↓Bool.false_eq_true, beq_self_eq_true, ite_self, Nat.reduceLeDiff, Int.reduceEq, Int.reduceSub, Int.reduceAdd, Int.reduceNeg, Int.reduceLT, Int.reduceLE, Nat.reduceLT, bz_F2, h]; refine hK _ ?_; clear hK K)
      | simp only [Sv, ↓reduceIte, Nat.reduceEqDiff]
    refine vm_loopA [] Nat (fun k => ⟨[(0, .l 1 (D d)), (1, .i .i64 (n : Int)), (5, .ow 1 0 n), (6, .i .i64 (i : Int)), (7, .i .i64 ((k : Int) - 1))], [(0, some ⟨56, 1, W (fl B i v ++ (w / 65536 ^ k) :: r), true, false⟩)], 1⟩)
      (fun k => k ≤ 4) (fun k => k) 4 (by omega) (by simp (disch := (first | omega | assumption)) only [Sl, Sa, Sw, ↓reduceIte, Nat.reduceEqDiff, Nat.reduceLT, List.all_nil, List.all_cons, Nat.reduceBneDiff, Nat.reduceAdd, bne_iff_ne, ne_eq, reduceCtorEq, not_false_eq_true, not_true_eq_false, Bool.and_true, Bool.true_and, and_true, true_and, and_self]) (by
      simp (disch := (first | omega | assumption)) only [Sl, Sa, Sw, ↓reduceIte, Nat.reduceEqDiff, Nat.reduceLT, List.all_nil, List.all_cons, Nat.reduceBneDiff, Nat.reduceAdd, bne_iff_ne, ne_eq, reduceCtorEq, not_false_eq_true, not_true_eq_false, Bool.and_true, Bool.true_and, and_true, true_and, and_self, i_eq]
      rw [er, Nat.div_eq_of_lt hwl]
      repeat' first | rfl | omega | (simp only [List.length_append, List.length_cons, List.length_nil]; done) | apply And.intro) ?_
    intro k hk Q'' hQ' he' hr'
    have lenk : ∀ x, (fl B i v ++ x :: r).length = n := fun x => by rw [List.length_append, fli, List.length_cons, hrl]; omega
    by_cases h1 : (0 : Int) ≤ (k : Int) - 1
    · obtain ⟨m, rfl⟩ : ∃ m, k = m + 1 := ⟨k - 1, by omega⟩
      have e : ((m + 1 : Nat) : Int) - 1 = (m : Int) := by omega
      have h1 : (0 : Int) ≤ (m : Int) := by omega
      have dig : d.getD (4 * i + m) 0 = w / 65536 ^ m % 65536 := by
        rw [nv_digit (b := 65536) (by decide) hd, hw, ← hv, Nat.pow_add, ← Nat.div_div_eq_div_mul, ← B_H]
        rw [show B = 65536 ^ m * 65536 ^ (4 - m) from by rw [← Nat.pow_add, show m + (4 - m) = 4 from by omega]; rfl, Nat.mod_mul_right_div_self]
        rw [show 65536 ^ (4 - m) = 65536 * 65536 ^ (3 - m) from by rw [Nat.mul_comm, ← Nat.pow_succ]; congr 1; omega, Nat.mod_mul_right_mod]
      have hx : w / 65536 ^ m < 18446744073709551616 := Nat.lt_of_le_of_lt (Nat.div_le_self _ _) hwl
      have hdm := hdi (4 * i + m)
      rw [dig] at hdm
      have ei : (4 : Int) * (i : Int) + (m : Int) = ((4 * i + m : Nat) : Int) := by omega
      have w4 : IntKind.i64.wrap (4 * (i : Int)) = 4 * (i : Int) := wi (by omega)
      have gm := get_mid (fl B i v) r (w / 65536 ^ (m + 1)) i fli
      have sm := fun y => set_mid (fl B i v) r (w / 65536 ^ (m + 1)) y i fli
      have lk := lenk (w / 65536 ^ (m + 1))
      have ex : w / 65536 ^ (m + 1) = w / 65536 ^ m / 65536 := by rw [Nat.pow_succ, Nat.div_div_eq_div_mul]
      obtain ⟨x, hx0⟩ : ∃ x, x = w / 65536 ^ m := ⟨_, rfl⟩
      rw [← hx0] at hdm hx ex
      rw [ex] at gm sm lk ⊢
      simp only [e]
      have wd : IntKind.u64.wrap ((x % 65536 : Nat) : Int) = ((x % 65536 : Nat) : Int) := wu (by omega)
      have wm : IntKind.u64.wrap (((x / 65536 : Nat) : Int) * 65536) = ((x / 65536 : Nat) : Int) * 65536 := wu (by omega)
      have ws : IntKind.u64.wrap (((x / 65536 : Nat) : Int) * 65536 + ((x % 65536 : Nat) : Int)) = (x : Int) := by rw [wu (by omega)]; omega
      have zc1 := hdm
      repeat first | (refine hK _ ?_; clear hK K) | simp only [Sv, ↓reduceIte, Nat.reduceEqDiff] | ((first | refine vm_reg (fun K hK => ?_) | refine vm_dreg (fun K hK => ?_) | refine clp_q ?_ | refine clq_mk (by assumption) ?_); simp (disch := (first | omega | assumption)) only [S1, ↓reduceIte, Nat.reduceEqDiff, Nat.reduceAdd, Nat.reduceMul, Nat.reduceDiv, AOp.sb, AOp.mut, ↓Bool.false_eq_true, beq_self_eq_true, ite_self, Nat.reduceLeDiff, Int.reduceEq, Int.reduceSub, Int.reduceAdd, Int.reduceNeg, Int.reduceLT, Int.reduceLE, Nat.reduceLT, bz_F2, h1, W_get, gm, lk, w4, ei, wd, wm, ws, W_set, sm])
      refine hQ' _ m (by omega) (by omega) ?_
      simp (disch := (first | omega | assumption)) only [Sl, Sa, Sw, ↓reduceIte, Nat.reduceEqDiff, Nat.reduceLT, List.all_nil, List.all_cons, Nat.reduceBneDiff, Nat.reduceAdd, bne_iff_ne, ne_eq, reduceCtorEq, not_false_eq_true, not_true_eq_false, Bool.and_true, Bool.true_and, and_true, true_and, and_self, i_eq]
      try rw [hx0]
      repeat' first | rfl | omega | (simp only [List.length_append, List.length_cons, List.length_nil]; done) | apply And.intro
    · obtain rfl : k = 0 := by omega
      repeat first
        | (refine hK _ ?_; clear hK K)
        | ((first | refine vm_reg (fun K hK => ?_) | refine vm_dreg (fun K hK => ?_)); simp (disch := (first | omega | assumption)) only [S1, ↓reduceIte, Nat.reduceEqDiff, Nat.reduceAdd, Nat.reduceMul, Nat.reduceDiv, AOp.sb, AOp.mut, ↓Bool.false_eq_true, beq_self_eq_true, ite_self, Nat.reduceLeDiff, Int.reduceEq, Int.reduceSub, Int.reduceAdd, Int.reduceNeg, Int.reduceLT, Int.reduceLE, Nat.reduceLT, bz_F2, h1]; refine hK _ ?_; clear hK K)
        | simp only [Sv, ↓reduceIte, Nat.reduceEqDiff]
      refine he' _ _ ?_
      repeat first
        | (refine hK _ ?_; clear hK K)
        | ((first | refine vm_reg (fun K hK => ?_) | refine vm_dreg (fun K hK => ?_)); simp (disch := (first | omega | assumption)) only [S1, ↓reduceIte, Nat.reduceEqDiff, Nat.reduceAdd, Nat.reduceMul, Nat.reduceDiv, AOp.sb, AOp.mut, ↓Bool.false_eq_true, beq_self_eq_true, ite_self, Nat.reduceLeDiff, Int.reduceEq, Int.reduceSub, Int.reduceAdd, Int.reduceNeg, Int.reduceLT, Int.reduceLE, Nat.reduceLT, bz_F2]; refine hK _ ?_; clear hK K)
        | simp only [Sv, ↓reduceIte, Nat.reduceEqDiff]
      refine hQ _ (i + 1) (by omega) (by omega) ?_
      simp (disch := (first | omega | assumption)) only [Sl, Sa, Sw, ↓reduceIte, Nat.reduceEqDiff, Nat.reduceLT, List.all_nil, List.all_cons, Nat.reduceBneDiff, Nat.reduceAdd, bne_iff_ne, ne_eq, reduceCtorEq, not_false_eq_true, not_true_eq_false, Bool.and_true, Bool.true_and, and_true, true_and, and_self, i_eq]
      rw [fl_succ, ← hw, List.append_assoc]
      refine ⟨by omega, ?_⟩
      rw [Nat.pow_zero, Nat.div_one, hr0]; rfl
  · obtain rfl : i = n := by omega
    repeat first
      | (refine hK _ ?_; clear hK K)
      | ((first | refine vm_reg (fun K hK => ?_) | refine vm_dreg (fun K hK => ?_)); simp (disch := (first | omega | assumption)) only [S1, ↓reduceIte, Nat.reduceEqDiff, Nat.reduceAdd, Nat.reduceMul, Nat.reduceDiv, AOp.sb, AOp.mut, ↓Bool.false_eq_true, beq_self_eq_true, ite_self, Nat.reduceLeDiff, Int.reduceEq, Int.reduceSub, Int.reduceAdd, Int.reduceNeg, Int.reduceLT, Int.reduceLE, Nat.reduceLT, bz_F2, h]; refine hK _ ?_; clear hK K)
      | simp only [Sv, ↓reduceIte, Nat.reduceEqDiff]
    refine he _ _ ?_
    repeat first
      | (refine hK _ ?_; clear hK K)
      | ((first | refine vm_reg (fun K hK => ?_) | refine vm_dreg (fun K hK => ?_)); simp (disch := (first | omega | assumption)) only [S1, ↓reduceIte, Nat.reduceEqDiff, Nat.reduceAdd, Nat.reduceMul, Nat.reduceDiv, AOp.sb, AOp.mut, ↓Bool.false_eq_true, beq_self_eq_true, ite_self, Nat.reduceLeDiff, Int.reduceEq, Int.reduceSub, Int.reduceAdd, Int.reduceNeg, Int.reduceLT, Int.reduceLE, Nat.reduceLT, bz_F2]; refine hK _ ?_; clear hK K)
      | simp only [Sv, ↓reduceIte, Nat.reduceEqDiff]
    simp (disch := (first | omega | assumption)) only [retOk, retN, ret1, retF, ret1F, V.okArg, and_true, true_and, S1, ↓reduceIte, Nat.reduceEqDiff, Nat.reduceAdd, Nat.reduceMul, Nat.reduceDiv, AOp.sb, AOp.mut, ↓Bool.false_eq_true, beq_self_eq_true, ite_self, Nat.reduceLeDiff, Int.reduceEq, Int.reduceSub, Int.reduceAdd, Int.reduceNeg, Int.reduceLT, Int.reduceLE, Nat.reduceLT, bz_F2]
    rw [Nat.sub_self]; simp

theorem words_of {d : List Nat} (hd : Lt 65536 d) : fl B (((tz d).length + 3) / 4) (nv 65536 d) = dg B (nv 65536 d) := by
  have h0 : nv 65536 (tz d) = nv 65536 d := nv_tz d
  have ht := tz_tz d
  have hl := Lt_tz hd
  have h1 := nv_lt hl
  rw [h0] at h1
  generalize tz d = t at *
  generalize hi : (t.length + 3) / 4 = i
  refine fl_full B2 ?_ ?_
  · rcases Nat.eq_zero_or_pos i with h | h
    · exact .inl h
    · refine .inr ?_
      have h3 : t ≠ [] := fun h4 => by rw [h4] at hi; simp at hi; omega
      have h4 := nv_top (b := 65536) ht h3
      rw [h0] at h4
      rw [B_H]
      exact Nat.le_trans (Nat.pow_le_pow_right (by decide) (by omega)) h4
  · rw [B_H]
    exact Nat.lt_of_lt_of_le h1 (Nat.pow_le_pow_right (by decide) (by omega))
-- surd/surdref05.number
def a84 : AC := .seq (.reg [⟨some 2, none, .mv (.k .nl)⟩])
  (.seq (.reg [⟨some 3, none, .mv (.t 0)⟩, 
      ⟨some 4, none, .call 105 [(1, (.t 3))]⟩, 
      ⟨some 0, none, .mv (.t 4)⟩])
  (.seq (.reg [⟨some 5, none, .mv (.t 0)⟩, 
      ⟨some 6, none, .mv (.t 0)⟩, 
      ⟨some 7, none, .len (.t 6)⟩, 
      ⟨some 8, none, .bin .add (.t 7) (.k (.i .i64 3))⟩, 
      ⟨some 9, none, .bin .quo (.t 8) (.k (.i .i64 4))⟩, 
      ⟨some 10, none, .call 107 [(1, (.t 5)), (1, (.t 9))]⟩, 
      ⟨some 2, none, .mv (.t 10)⟩])
  (.ret)))
theorem hnumber_spec (d : List Nat) (hd : Lt 65536 d) (ld : d.length ≤ 100000000000) : AFun Try.prog J0 84 [.l 1 (D d)] (.o 56 1 (W (dg B (nv 65536 d)))) := by
  have h1 := hcut_spec d (by omega)
  have hl := tz_len d
  have h2 := hwords_spec (tz d) (((tz d).length + 3) / 4) (Lt_tz hd) (by omega) (by omega)
  rw [nv_tz, words_of hd] at h2
  have e1 : (((tz d).length : Int) + 3).tdiv 4 = ((((tz d).length + 3) / 4 : Nat) : Int) := by
    rw [show ((tz d).length : Int) + 3 = (((tz d).length + 3 : Nat) : Int) from rfl]; rfl
  have w1 : IntKind.i64.wrap ((((tz d).length + 3) / 4 : Nat) : Int) = ((((tz d).length + 3) / 4 : Nat) : Int) := wi (by omega)
  generalize tz d = t at *
  refine AFun.mk fol J0s Try.func84 rfl (ac := a84) (by kernel_rfl) rfl rfl ?_
  apply vm_start
  unfold a84
  simp only [init_eq, initE]
  have zc2 := h1
  have zc3 := h2
  repeat first | (refine hK _ ?_; clear hK K) | simp only [Sv, ↓reduceIte, Nat.reduceEqDiff] | ((first | refine vm_reg (fun K hK => ?_) | refine vm_dreg (fun K hK => ?_) | refine clp_q ?_ | refine clq_mk (by assumption) ?_); simp (disch := (first | omega | assumption)) only [S1, ↓reduceIte, Nat.reduceEqDiff, Nat.reduceAdd, Nat.reduceMul, Nat.reduceDiv, AOp.sb, AOp.mut, ↓Bool.false_eq_true, beq_self_eq_true, ite_self, Nat.reduceLeDiff, Int.reduceEq, Int.reduceSub, Int.reduceAdd, Int.reduceNeg, Int.reduceLT, Int.reduceLE, Nat.reduceLT, bz_F2, e1, w1])
  simp (disch := (first | omega | assumption)) only [retOk, retN, ret1, retF, ret1F, V.okArg, and_true, true_and, S1, ↓reduceIte, Nat.reduceEqDiff, Nat.reduceAdd, Nat.reduceMul, Nat.reduceDiv, AOp.sb, AOp.mut, ↓Bool.false_eq_true, beq_self_eq_true, ite_self, Nat.reduceLeDiff, Int.reduceEq, Int.reduceSub, Int.reduceAdd, Int.reduceNeg, Int.reduceLT, Int.reduceLE, Nat.reduceLT, bz_F2, e1, w1]
-- surd/surdref05.Norm
def a96 : AC := .seq (.reg [⟨some 2, none, .mv (.k .nl)⟩])
  (.seq (.reg [⟨some 3, none, .mv (.t 0)⟩, 
      ⟨some 4, none, .call 83 [(1, (.t 3))]⟩, 
      ⟨some 5, none, .call 84 [(1, (.t 4))]⟩, 
      ⟨some 2, none, .mv (.t 5)⟩])
  (.ret))
theorem hnorm_spec (a : List Nat) (ha : Wd a) (la : a.length ≤ 10000000000) : AFun Try.prog J0 96 [.l 1 (W a)] (.o 56 1 (W (dg B (nv B a)))) := by
  have h1 := hdigits_spec a ha (by omega)
  have hl := dgH_len ha
  have h2 := hnumber_spec (dg 65536 (nv B a)) (dg_Lt (by decide) _) (by omega)
  rw [nv_dg H2] at h2
  refine AFun.mk fol J0s Try.func96 rfl (ac := a96) (by kernel_rfl) rfl rfl ?_
  apply vm_start
  unfold a96
  simp only [init_eq, initE]
  have zc4 := h1
  have zc5 := h2
  repeat first | (refine hK _ ?_; clear hK K) | simp only [Sv, ↓reduceIte, Nat.reduceEqDiff] | ((first | refine vm_reg (fun K hK => ?_) | refine vm_dreg (fun K hK => ?_) | refine clp_q ?_ | refine clq_mk (by assumption) ?_); simp (disch := (first | omega | assumption)) only [S1, ↓reduceIte, Nat.reduceEqDiff, Nat.reduceAdd, Nat.reduceMul, Nat.reduceDiv, AOp.sb, AOp.mut, ↓Bool.false_eq_true, beq_self_eq_true, ite_self, Nat.reduceLeDiff, Int.reduceEq, Int.reduceSub, Int.reduceAdd, Int.reduceNeg, Int.reduceLT, Int.reduceLE, Nat.reduceLT, bz_F2])
  simp (disch := (first | omega | assumption)) only [retOk, retN, ret1, retF, ret1F, V.okArg, and_true, true_and, S1, ↓reduceIte, Nat.reduceEqDiff, Nat.reduceAdd, Nat.reduceMul, Nat.reduceDiv, AOp.sb, AOp.mut, ↓Bool.false_eq_true, beq_self_eq_true, ite_self, Nat.reduceLeDiff, Int.reduceEq, Int.reduceSub, Int.reduceAdd, Int.reduceNeg, Int.reduceLT, Int.reduceLE, Nat.reduceLT, bz_F2]
theorem dgH_z {v : Nat} : ((((dg 65536 v).length : Nat) : Int) = 0) = (v = 0) := propext ⟨fun h => (dg_nil H2).1 (List.eq_nil_of_length_eq_zero (by omega)), fun h => by rw [h]; rfl⟩
-- surd/surdref05.Word
def a56 : AC := .seq (.reg [⟨some 2, none, .mv (.k .nl)⟩])
  (.seq (.reg [⟨some 3, none, .mv (.t 0)⟩, 
      ⟨some 4, none, .bin .rem (.t 3) (.k (.i .i64 65536))⟩, 
      ⟨some 5, none, .mv (.t 0)⟩, 
      ⟨some 6, none, .bin .quo (.t 5) (.k (.i .i64 65536))⟩, 
      ⟨some 7, none, .bin .rem (.t 6) (.k (.i .i64 65536))⟩, 
      ⟨some 8, none, .mv (.t 0)⟩, 
      ⟨some 9, none, .bin .quo (.t 8) (.k (.i .i64 65536))⟩, 
      ⟨some 10, none, .bin .quo (.t 9) (.k (.i .i64 65536))⟩, 
      ⟨some 11, none, .bin .rem (.t 10) (.k (.i .i64 65536))⟩, 
      ⟨some 12, none, .mv (.t 0)⟩, 
      ⟨some 13, none, .bin .quo (.t 12) (.k (.i .i64 65536))⟩, 
      ⟨some 14, none, .bin .quo (.t 13) (.k (.i .i64 65536))⟩, 
      ⟨some 15, none, .bin .quo (.t 14) (.k (.i .i64 65536))⟩, 
      ⟨some 16, none, .bsl 3 1 4 [(.i .i64 0), (.i .i64 0), (.i .i64 0), (.i .i64 0)] [(0, (.t 4)), (1, (.t 7)), (2, (.t 11)), (3, (.t 15))]⟩, 
      ⟨some 17, none, .call 84 [(1, (.t 16))]⟩, 
      ⟨some 2, none, .mv (.t 17)⟩])
  (.ret))
theorem hword_spec (n : Nat) (hn : n < 9223372036854775808) : AFun Try.prog J0 56 [.i .i64 (n : Int)] (.o 56 1 (W (dg B n))) := by
  obtain ⟨a, ha⟩ : ∃ a, a = n / 65536 := ⟨_, rfl⟩
  obtain ⟨b, hb⟩ : ∃ b, b = a / 65536 := ⟨_, rfl⟩
  obtain ⟨c, hc⟩ : ∃ c, c = b / 65536 := ⟨_, rfl⟩
  have h1 := hnumber_spec [n % 65536, a % 65536, b % 65536, c] (by
    intro x hx
    simp only [List.mem_cons, List.not_mem_nil, or_false] at hx
    omega) (by simp)
  rw [show nv 65536 [n % 65536, a % 65536, b % 65536, c] = n from by simp only [nv]; omega] at h1
  have e : D [n % 65536, a % 65536, b % 65536, c] = [.i .i64 ((n % 65536 : Nat) : Int), .i .i64 ((a % 65536 : Nat) : Int), .i .i64 ((b % 65536 : Nat) : Int), .i .i64 (c : Int)] := rfl
  have wa : IntKind.i64.wrap (((n / 65536 : Nat)) : Int) = (a : Int) := by rw [← ha]; exact wi (by omega)
  have wb : IntKind.i64.wrap (((a / 65536 : Nat)) : Int) = (b : Int) := by rw [← hb]; exact wi (by omega)
  have wc : IntKind.i64.wrap (((b / 65536 : Nat)) : Int) = (c : Int) := by rw [← hc]; exact wi (by omega)
  rw [e] at h1
  refine AFun.mk fol J0s Try.func56 rfl (ac := a56) (by kernel_rfl) rfl rfl ?_
  apply vm_start
  unfold a56
  simp only [init_eq, initE]
  have zc6 := h1
  repeat first | (refine hK _ ?_; clear hK K) | simp only [Sv, ↓reduceIte, Nat.reduceEqDiff] | ((first | refine vm_reg (fun K hK => ?_) | refine vm_dreg (fun K hK => ?_) | refine clp_q ?_ | refine clq_mk (by assumption) ?_); simp (disch := (first | omega | assumption)) only [S1, ↓reduceIte, Nat.reduceEqDiff, Nat.reduceAdd, Nat.reduceMul, Nat.reduceDiv, AOp.sb, AOp.mut, ↓Bool.false_eq_true, beq_self_eq_true, ite_self, Nat.reduceLeDiff, Int.reduceEq, Int.reduceSub, Int.reduceAdd, Int.reduceNeg, Int.reduceLT, Int.reduceLE, Nat.reduceLT, bz_F2, tmod_H, tdiv_H, wa, wb, wc])
  simp (disch := (first | omega | assumption)) only [retOk, retN, ret1, retF, ret1F, V.okArg, and_true, true_and, S1, ↓reduceIte, Nat.reduceEqDiff, Nat.reduceAdd, Nat.reduceMul, Nat.reduceDiv, AOp.sb, AOp.mut, ↓Bool.false_eq_true, beq_self_eq_true, ite_self, Nat.reduceLeDiff, Int.reduceEq, Int.reduceSub, Int.reduceAdd, Int.reduceNeg, Int.reduceLT, Int.reduceLE, Nat.reduceLT, bz_F2, tmod_H, tdiv_H, wa, wb, wc]
theorem one_val {a : List Nat} {m : Nat} (ha : Wd a) (h : tz a = tz (a.take (m + 1))) (hm : m < a.length) (h1 : a.getD m 0 ≠ 0) :
    a.getD 0 0 = nv B a % B ∧ (decide (((m + 1 : Nat) : Int) = 1)) = decide (nv B a < 18446744073709551616) := by
  have h0 := nv_digit (b := B) (by decide) ha 0
  rw [Nat.pow_zero, Nat.div_one] at h0
  refine ⟨h0, ?_⟩
  have e : nv B a = nv B (a.take (m + 1)) := by rw [← nv_tz, h, nv_tz]
  have ht : tz (a.take (m + 1)) = a.take (m + 1) := by
    have h2 := tz_top a m hm h1
    have h3 := tz_take (a.take (m + 1))
    rw [h2, List.take_take, Nat.min_self] at h3
    exact h3.symm
  have hne : a.take (m + 1) ≠ [] := fun h => by have := congrArg List.length h; rw [List.length_take, List.length_nil] at this; omega
  have h4 := nv_top (b := B) ht hne
  rw [List.length_take, Nat.min_eq_left (by omega), Nat.add_sub_cancel, ← e] at h4
  have h5 := nv_take_lt (b := B) (by decide) ha (m + 1)
  rw [← e] at h5
  rcases Nat.eq_zero_or_pos m with h6 | h6
  · subst h6
    rw [decide_eq_true (by omega), decide_eq_true]
    exact h5
  · rw [decide_eq_false (by omega), decide_eq_false]
    have h7 : B ^ 1 ≤ B ^ m := Nat.pow_le_pow_right (by decide) h6
    rw [Nat.pow_one] at h7
    have : B = 18446744073709551616 := rfl
    omega
/-- both small, and their words -/
theorem shr_zero (x m : Nat) : ((((x / 2 ^ m : Nat)) : Int) = 0) = (x < 2 ^ m) := propext ⟨fun h => by
  rcases Nat.lt_or_ge x (2 ^ m) with h1 | h1
  · exact h1
  · have := (Nat.le_div_iff_mul_le (Nat.pow_pos (by decide : 0 < 2))).2 (by rw [Nat.one_mul]; exact h1 : 1 * 2 ^ m ≤ x)
    omega, fun h => by rw [Nat.div_eq_of_lt h]; rfl⟩
end Go.Proofs.Ytfkldohgiifgbaa
