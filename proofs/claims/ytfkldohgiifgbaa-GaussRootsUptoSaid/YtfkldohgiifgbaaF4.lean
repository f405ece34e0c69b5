/-
  surdref05: plain arithmetic.
-/
import Derived.Test.YtfkldohgiifgbaaF3
namespace Go.Proofs.Ytfkldohgiifgbaa
open Go Go.RowKit Ab
set_option linter.unusedSimpArgs false
set_option linter.unusedVariables false
set_option maxHeartbeats 10000000
theorem bz_F4 : type_of% (And.intro @W_len (And.intro @D_len (And.intro @Nat.div_one (And.intro @Nat.mul_one (And.intro @tn_nat (And.intro @W_nf (And.intro @D_nf (And.intro @W_nil (And.intro @D_nil (And.intro @wi (@D_get))))))))))) := And.intro @W_len (And.intro @D_len (And.intro @Nat.div_one (And.intro @Nat.mul_one (And.intro @tn_nat (And.intro @W_nf (And.intro @D_nf (And.intro @W_nil (And.intro @D_nil (And.intro @wi (@D_get))))))))))

theorem addh_len (x y : List Nat) : addh x y ≤ max x.length y.length + 1 := by unfold addh; split <;> omega
theorem addh_val {x y : List Nat} (kx : Lt 65536 x) (ky : Lt 65536 y) : nv 65536 (fl 65536 (addh x y) (nv 65536 x + nv 65536 y)) = nv 65536 x + nv 65536 y := by
  rw [nv_fl, Nat.mod_eq_of_lt]
  unfold addh
  have h1 := nv_lt kx
  have h2 := nv_lt ky
  have h3 : 65536 ^ x.length ≤ 65536 ^ max x.length y.length := Nat.pow_le_pow_right (by decide) (by omega)
  have h4 : 65536 ^ y.length ≤ 65536 ^ max x.length y.length := Nat.pow_le_pow_right (by decide) (by omega)
  split
  · rename_i h
    rcases Nat.lt_or_ge (nv 65536 x + nv 65536 y) (65536 ^ max x.length y.length) with h5 | h5
    · exact h5
    · have := (Nat.le_div_iff_mul_le (Nat.pow_pos (by decide : 0 < 65536))).2 (by rw [Nat.one_mul]; exact h5 : 1 * 65536 ^ max x.length y.length ≤ _)
      omega
  · rw [Nat.pow_succ]; omega
theorem hsub_val {x y : List Nat} (hx : Lt 65536 x) (h : nv 65536 y ≤ nv 65536 x) (t : tz y = y) : nv 65536 (fl 65536 x.length (nv 65536 x + 65536 ^ x.length - nv 65536 (y.take x.length))) = nv 65536 x - nv 65536 y := by
  have h1 := nv_lt hx
  have hl : y.length ≤ x.length := by
    rcases Nat.eq_zero_or_pos y.length with h0 | h0
    · omega
    · have h2 := nv_top (b := 65536) t (fun h => by rw [h] at h0; simp at h0)
      have h3 : 65536 ^ (y.length - 1) < 65536 ^ x.length := by omega
      have := (Nat.pow_lt_pow_iff_right (by decide : 1 < 65536)).1 h3
      omega
  rw [nv_fl, List.take_of_length_le hl, show nv 65536 x + 65536 ^ x.length - nv 65536 y = (nv 65536 x - nv 65536 y) + 65536 ^ x.length from by omega, Nat.add_mod_right, Nat.mod_eq_of_lt (by omega)]
-- surd/surdref05.Plus
def a57 : AC := .seq (.reg [⟨some 4, none, .mv (.k .nl)⟩])
  (.seq (.reg [⟨some 9, none, .mv (.t 0)⟩, 
      ⟨some 10, none, .mv (.t 1)⟩, 
      ⟨some 11, none, .call 85 [(1, (.t 9)), (1, (.t 10)), (1, (.k (.i .i64 63)))]⟩, 
      ⟨some 8, none, .mv (.t 11)⟩, 
      ⟨some 12, none, .ext (.t 8) 0⟩, 
      ⟨some 13, none, .ext (.t 8) 1⟩, 
      ⟨some 14, none, .ext (.t 8) 2⟩, 
      ⟨some 5, none, .mv (.t 12)⟩, 
      ⟨some 6, none, .mv (.t 13)⟩, 
      ⟨some 7, none, .mv (.t 14)⟩])
  (.seq (.seq (.reg [⟨some 15, none, .mv (.t 7)⟩])
    (.cond (.t 15)
    (.seq (.reg [⟨some 16, none, .mv (.t 5)⟩, 
          ⟨some 17, none, .mv (.t 6)⟩, 
          ⟨some 18, none, .bin .add (.t 16) (.t 17)⟩, 
          ⟨some 19, none, .call 86 [(1, (.t 18))]⟩, 
          ⟨some 4, none, .mv (.t 19)⟩])
      (.ret))
    (.skip)))
  (.seq (.reg [⟨some 20, none, .mv (.t 0)⟩, 
      ⟨some 21, none, .call 83 [(1, (.t 20))]⟩, 
      ⟨some 22, none, .mv (.t 1)⟩, 
      ⟨some 23, none, .call 83 [(1, (.t 22))]⟩, 
      ⟨some 24, none, .call 87 [(1, (.t 21)), (1, (.t 23))]⟩, 
      ⟨some 25, none, .call 84 [(1, (.t 24))]⟩, 
      ⟨some 4, none, .mv (.t 25)⟩])
  (.ret))))
theorem hadd_spec (a b : List Nat) (ha : Wd a) (hb : Wd b) (la : a.length ≤ 1000000000) (lb : b.length ≤ 1000000000) : AFun Try.prog J0 57 [.l 1 (W a), .l 1 (W b)] (.o 56 1 (W (dg B (nv B a + nv B b)))) := by
  have ho := hones_spec a b 63 (by decide) ha hb (by omega) (by omega)
  have d1 := hdigits_spec a ha (by omega)
  have d2 := hdigits_spec b hb (by omega)
  have l1 := dgH_len ha
  have l2 := dgH_len hb
  have e1 := nv_dg H2 (nv B a)
  have e2 := nv_dg H2 (nv B b)
  have k1 := dg_Lt (b := 65536) (by decide) (nv B a)
  have k2 := dg_Lt (b := 65536) (by decide) (nv B b)
  generalize dg 65536 (nv B a) = x at *
  generalize dg 65536 (nv B b) = y at *
  generalize nv B a = u at *
  generalize nv B b = v at *
  have hB : B = 18446744073709551616 := rfl
  have hal := addh_len x y
  have hp := (hplus_spec x y k1 k2 (by omega) (by omega)).frozen
  have hn := hnumber_spec (fl 65536 (addh x y) (nv 65536 x + nv 65536 y)) (fl_Lt (by decide) _ _) (by rw [fl_len]; omega)
  rw [addh_val k1 k2, e1, e2] at hn
  rw [e1, e2] at hp
  by_cases h : u < 9223372036854775808 ∧ v < 9223372036854775808
  · rw [decide_eq_true (show u < 2 ^ 63 ∧ v < 2 ^ 63 from h), Nat.mod_eq_of_lt (by omega : u < B), Nat.mod_eq_of_lt (by omega : v < B)] at ho
    have hof := hof_spec (u + v) (by omega)
    have w1 : IntKind.u64.wrap ((u : Int) + (v : Int)) = ((u + v : Nat) : Int) := by rw [wu (by omega)]; rfl
    refine AFun.mk fol J0s Try.func57 rfl (ac := a57) (by kernel_rfl) rfl rfl ?_
    apply vm_start
    unfold a57
    simp only [init_eq, initE]
    have zc1 := ho
    have zc2 := hof
    repeat first | (refine hK _ ?_; clear hK K) | simp only [Sv, ↓reduceIte, Nat.reduceEqDiff] | ((first | refine vm_reg (fun K hK => ?_) | refine vm_dreg (fun K hK => ?_) | refine clp_q ?_ | refine clq_mk (by assumption) ?_); simp (disch := (first | omega | assumption)) only [S1, ↓reduceIte, Nat.reduceEqDiff, Nat.reduceAdd, Nat.reduceMul, Nat.reduceDiv, AOp.sb, AOp.mut, ↓Bool.false_eq_true, beq_self_eq_true, ite_self, Nat.reduceLeDiff, Int.reduceEq, Int.reduceSub, Int.reduceAdd, Int.reduceNeg, Int.reduceLT, Int.reduceLE, Nat.reduceLT, bz_F4, w1])
    simp (disch := (first | omega | assumption)) only [retOk, retN, ret1, retF, ret1F, V.okArg, and_true, true_and, S1, ↓reduceIte, Nat.reduceEqDiff, Nat.reduceAdd, Nat.reduceMul, Nat.reduceDiv, AOp.sb, AOp.mut, ↓Bool.false_eq_true, beq_self_eq_true, ite_self, Nat.reduceLeDiff, Int.reduceEq, Int.reduceSub, Int.reduceAdd, Int.reduceNeg, Int.reduceLT, Int.reduceLE, Nat.reduceLT, bz_F4, w1]
  · rw [decide_eq_false (show ¬ (u < 2 ^ 63 ∧ v < 2 ^ 63) from h)] at ho
    refine AFun.mk fol J0s Try.func57 rfl (ac := a57) (by kernel_rfl) rfl rfl ?_
    apply vm_start
    unfold a57
    simp only [init_eq, initE]
    have zc3 := ho
    have zc4 := d1
    have zc5 := d2
    have zc6 := hp
    have zc7 := hn
    repeat first | (refine hK _ ?_; clear hK K) | simp only [Sv, ↓reduceIte, Nat.reduceEqDiff] | ((first | refine vm_reg (fun K hK => ?_) | refine vm_dreg (fun K hK => ?_) | refine clp_q ?_ | refine clq_mk (by assumption) ?_); simp (disch := (first | omega | assumption)) only [S1, ↓reduceIte, Nat.reduceEqDiff, Nat.reduceAdd, Nat.reduceMul, Nat.reduceDiv, AOp.sb, AOp.mut, ↓Bool.false_eq_true, beq_self_eq_true, ite_self, Nat.reduceLeDiff, Int.reduceEq, Int.reduceSub, Int.reduceAdd, Int.reduceNeg, Int.reduceLT, Int.reduceLE, Nat.reduceLT, bz_F4])
    simp (disch := (first | omega | assumption)) only [retOk, retN, ret1, retF, ret1F, V.okArg, and_true, true_and, S1, ↓reduceIte, Nat.reduceEqDiff, Nat.reduceAdd, Nat.reduceMul, Nat.reduceDiv, AOp.sb, AOp.mut, ↓Bool.false_eq_true, beq_self_eq_true, ite_self, Nat.reduceLeDiff, Int.reduceEq, Int.reduceSub, Int.reduceAdd, Int.reduceNeg, Int.reduceLT, Int.reduceLE, Nat.reduceLT, bz_F4]
-- surd/surdref05.Minus
def a110 : AC := .seq (.reg [⟨some 4, none, .mv (.k .nl)⟩])
  (.seq (.reg [⟨some 9, none, .mv (.t 0)⟩, 
      ⟨some 10, none, .mv (.t 1)⟩, 
      ⟨some 11, none, .call 85 [(1, (.t 9)), (1, (.t 10)), (1, (.k (.i .i64 63)))]⟩, 
      ⟨some 8, none, .mv (.t 11)⟩, 
      ⟨some 12, none, .ext (.t 8) 0⟩, 
      ⟨some 13, none, .ext (.t 8) 1⟩, 
      ⟨some 14, none, .ext (.t 8) 2⟩, 
      ⟨some 5, none, .mv (.t 12)⟩, 
      ⟨some 6, none, .mv (.t 13)⟩, 
      ⟨some 7, none, .mv (.t 14)⟩])
  (.seq (.seq (.reg [⟨some 15, none, .mv (.t 7)⟩])
    (.cond (.t 15)
    (.seq (.reg [⟨some 16, none, .mv (.t 5)⟩, 
          ⟨some 17, none, .mv (.t 6)⟩, 
          ⟨some 18, none, .bin .sub (.t 16) (.t 17)⟩, 
          ⟨some 19, none, .call 86 [(1, (.t 18))]⟩, 
          ⟨some 4, none, .mv (.t 19)⟩])
      (.ret))
    (.skip)))
  (.seq (.reg [⟨some 20, none, .mv (.t 0)⟩, 
      ⟨some 21, none, .call 83 [(1, (.t 20))]⟩, 
      ⟨some 22, none, .mv (.t 1)⟩, 
      ⟨some 23, none, .call 83 [(1, (.t 22))]⟩, 
      ⟨some 24, none, .call 119 [(1, (.t 21)), (1, (.t 23))]⟩, 
      ⟨some 25, none, .call 84 [(1, (.t 24))]⟩, 
      ⟨some 4, none, .mv (.t 25)⟩])
  (.ret))))
theorem hsub_spec (a b : List Nat) (ha : Wd a) (hb : Wd b) (la : a.length ≤ 1000000000) (lb : b.length ≤ 1000000000) (hle : nv B b ≤ nv B a) : AFun Try.prog J0 110 [.l 1 (W a), .l 1 (W b)] (.o 56 1 (W (dg B (nv B a - nv B b)))) := by
  have ho := hones_spec a b 63 (by decide) ha hb (by omega) (by omega)
  have d1 := hdigits_spec a ha (by omega)
  have d2 := hdigits_spec b hb (by omega)
  have l1 := dgH_len ha
  have l2 := dgH_len hb
  have e1 := nv_dg H2 (nv B a)
  have e2 := nv_dg H2 (nv B b)
  have t2 := tz_dg' (b := 65536) (nv B b)
  have k1 := dg_Lt (b := 65536) (by decide) (nv B a)
  have k2 := dg_Lt (b := 65536) (by decide) (nv B b)
  generalize dg 65536 (nv B a) = x at *
  generalize dg 65536 (nv B b) = y at *
  generalize nv B a = u at *
  generalize nv B b = v at *
  have hB : B = 18446744073709551616 := rfl
  have hp := (hminus_spec x y k1 k2 (by omega)).frozen
  have hn := hnumber_spec (fl 65536 x.length (nv 65536 x + 65536 ^ x.length - nv 65536 (y.take x.length))) (fl_Lt (by decide) _ _) (by rw [fl_len]; omega)
  rw [hsub_val k1 (by omega) t2, e1, e2] at hn
  rw [e1] at hp
  by_cases h : u < 9223372036854775808 ∧ v < 9223372036854775808
  · rw [decide_eq_true (show u < 2 ^ 63 ∧ v < 2 ^ 63 from h), Nat.mod_eq_of_lt (by omega : u < B), Nat.mod_eq_of_lt (by omega : v < B)] at ho
    have hof := hof_spec (u - v) (by omega)
    have w1 : IntKind.u64.wrap ((u : Int) - (v : Int)) = ((u - v : Nat) : Int) := by rw [wu (by omega)]; omega
    refine AFun.mk fol J0s Try.func110 rfl (ac := a110) (by kernel_rfl) rfl rfl ?_
    apply vm_start
    unfold a110
    simp only [init_eq, initE]
    have zc8 := ho
    have zc9 := hof
    repeat first | (refine hK _ ?_; clear hK K) | simp only [Sv, ↓reduceIte, Nat.reduceEqDiff] | ((first | refine vm_reg (fun K hK => ?_) | refine vm_dreg (fun K hK => ?_) | refine clp_q ?_ | refine clq_mk (by assumption) ?_); simp (disch := (first | omega | assumption)) only [S1, ↓reduceIte, Nat.reduceEqDiff, Nat.reduceAdd, Nat.reduceMul, Nat.reduceDiv, AOp.sb, AOp.mut, ↓Bool.false_eq_true, beq_self_eq_true, ite_self, Nat.reduceLeDiff, Int.reduceEq, Int.reduceSub, Int.reduceAdd, Int.reduceNeg, Int.reduceLT, Int.reduceLE, Nat.reduceLT, bz_F4, w1])
    simp (disch := (first | omega | assumption)) only [retOk, retN, ret1, retF, ret1F, V.okArg, and_true, true_and, S1, ↓reduceIte, Nat.reduceEqDiff, Nat.reduceAdd, Nat.reduceMul, Nat.reduceDiv, AOp.sb, AOp.mut, ↓Bool.false_eq_true, beq_self_eq_true, ite_self, Nat.reduceLeDiff, Int.reduceEq, Int.reduceSub, Int.reduceAdd, Int.reduceNeg, Int.reduceLT, Int.reduceLE, Nat.reduceLT, bz_F4, w1]
  · rw [decide_eq_false (show ¬ (u < 2 ^ 63 ∧ v < 2 ^ 63) from h)] at ho
    refine AFun.mk fol J0s Try.func110 rfl (ac := a110) (by kernel_rfl) rfl rfl ?_
    apply vm_start
    unfold a110
    simp only [init_eq, initE]
    have zc10 := ho
    have zc11 := d1
    have zc12 := d2
    have zc13 := hp
    have zc14 := hn
    repeat first | (refine hK _ ?_; clear hK K) | simp only [Sv, ↓reduceIte, Nat.reduceEqDiff] | ((first | refine vm_reg (fun K hK => ?_) | refine vm_dreg (fun K hK => ?_) | refine clp_q ?_ | refine clq_mk (by assumption) ?_); simp (disch := (first | omega | assumption)) only [S1, ↓reduceIte, Nat.reduceEqDiff, Nat.reduceAdd, Nat.reduceMul, Nat.reduceDiv, AOp.sb, AOp.mut, ↓Bool.false_eq_true, beq_self_eq_true, ite_self, Nat.reduceLeDiff, Int.reduceEq, Int.reduceSub, Int.reduceAdd, Int.reduceNeg, Int.reduceLT, Int.reduceLE, Nat.reduceLT, bz_F4])
    simp (disch := (first | omega | assumption)) only [retOk, retN, ret1, retF, ret1F, V.okArg, and_true, true_and, S1, ↓reduceIte, Nat.reduceEqDiff, Nat.reduceAdd, Nat.reduceMul, Nat.reduceDiv, AOp.sb, AOp.mut, ↓Bool.false_eq_true, beq_self_eq_true, ite_self, Nat.reduceLeDiff, Int.reduceEq, Int.reduceSub, Int.reduceAdd, Int.reduceNeg, Int.reduceLT, Int.reduceLE, Nat.reduceLT, bz_F4]
theorem times_bnd {s x y c : Nat} (hs : s < 65536) (hx : x < 65536) (hy : y < 65536) (hc : c < 65536) : c + (s + x * y) < 4294967296 := by
  have h1 : x * y ≤ 65535 * 65535 := Nat.mul_le_mul (by omega) (by omega)
  omega
theorem drop_zero_of {l : List Nat} {i : Nat} (h : ∀ j, i ≤ j → l.getD j 0 = 0) : nv 65536 l = nv 65536 (l.take i) := by
  have h1 := nv_eq_of (B := 65536) (l := l) (r := l.take i) i (fun j hj => by
    rw [h j hj, List.getD_eq_getElem?_getD, List.getElem?_take, if_neg (by omega)]; rfl)
  exact h1.2.1 (by rw [List.take_take, Nat.min_self])
-- surd/surdref05.times
def a88 : AC := .seq (.reg [⟨some 4, none, .mv (.k .nl)⟩])
  (.seq (.reg [⟨some 9, none, .mv (.t 0)⟩, 
      ⟨some 10, none, .len (.t 9)⟩, 
      ⟨some 11, none, .mv (.t 1)⟩, 
      ⟨some 12, none, .len (.t 11)⟩, 
      ⟨some 13, none, .bin .add (.t 10) (.t 12)⟩, 
      ⟨some 14, none, .mk 3 1 8 [(.i .i64 0)] (.t 13) (.t 13)⟩, 
      ⟨some 5, none, .mv (.t 14)⟩])
  (.seq (.seq (.reg [⟨some 6, none, .mv (.k (.i .i64 0))⟩])
    (.blk 0
    (.loop
      (.seq (.seq (.reg [⟨some 15, none, .mv (.t 6)⟩, 
              ⟨some 16, none, .mv (.t 0)⟩, 
              ⟨some 17, none, .len (.t 16)⟩, 
              ⟨some 18, none, .bin .lss (.t 15) (.t 17)⟩])
          (.cond (.t 18)
          (.skip)
          (.exit 0)))
        (.seq (.blk 1
          (.seq (.reg [⟨some 7, none, .mv (.k (.i .i64 0))⟩])
            (.seq (.seq (.reg [⟨some 8, none, .mv (.k (.i .i64 0))⟩])
              (.blk 2
              (.loop
                (.seq (.seq (.reg [⟨some 21, none, .mv (.t 8)⟩, 
                        ⟨some 22, none, .mv (.t 1)⟩, 
                        ⟨some 23, none, .len (.t 22)⟩, 
                        ⟨some 24, none, .bin .lss (.t 21) (.t 23)⟩])
                    (.cond (.t 24)
                    (.skip)
                    (.exit 2)))
                  (.seq (.blk 3
                    (.seq (.dreg [⟨some 27, none, .mv (.t 7)⟩, 
                          ⟨some 28, none, .mv (.t 5)⟩, 
                          ⟨some 29, none, .mv (.t 6)⟩, 
                          ⟨some 30, none, .mv (.t 8)⟩, 
                          ⟨some 31, none, .bin .add (.t 29) (.t 30)⟩, 
                          ⟨some 32, none, .idx 1 (.t 28) (.t 31)⟩, 
                          ⟨some 33, none, .ld false 1 (.t 32)⟩, 
                          ⟨some 34, none, .mv (.t 0)⟩, 
                          ⟨some 35, none, .mv (.t 6)⟩, 
                          ⟨some 36, none, .idx 1 (.t 34) (.t 35)⟩, 
                          ⟨some 37, none, .ld false 1 (.t 36)⟩, 
                          ⟨some 38, none, .mv (.t 1)⟩, 
                          ⟨some 39, none, .mv (.t 8)⟩, 
                          ⟨some 40, none, .idx 1 (.t 38) (.t 39)⟩, 
                          ⟨some 41, none, .ld false 1 (.t 40)⟩, 
                          ⟨some 42, none, .bin .mul (.t 37) (.t 41)⟩, 
                          ⟨some 43, none, .bin .add (.t 33) (.t 42)⟩, 
                          ⟨some 44, none, .bin .add (.t 27) (.t 43)⟩, 
                          ⟨some 7, none, .mv (.t 44)⟩])
                      (.seq (.reg [⟨some 45, none, .mv (.t 5)⟩, 
                          ⟨some 46, none, .mv (.t 6)⟩, 
                          ⟨some 47, none, .mv (.t 8)⟩, 
                          ⟨some 48, none, .bin .add (.t 46) (.t 47)⟩, 
                          ⟨some 49, none, .mv (.t 7)⟩, 
                          ⟨some 50, none, .bin .rem (.t 49) (.k (.i .i64 65536))⟩, 
                          ⟨some 51, none, .idx 1 (.t 45) (.t 48)⟩, 
                          ⟨none, none, .st 1 (.t 51) (.t 50)⟩])
                      (.reg [⟨some 52, none, .mv (.t 7)⟩, 
                        ⟨some 53, none, .bin .quo (.t 52) (.k (.i .i64 65536))⟩, 
                        ⟨some 7, none, .mv (.t 53)⟩]))))
                  (.reg [⟨some 25, none, .mv (.t 8)⟩, 
                    ⟨some 26, none, .bin .add (.t 25) (.k (.i .i64 1))⟩, 
                    ⟨some 8, none, .mv (.t 26)⟩]))))))
            (.reg [⟨some 54, none, .mv (.t 5)⟩, 
              ⟨some 55, none, .mv (.t 6)⟩, 
              ⟨some 56, none, .mv (.t 1)⟩, 
              ⟨some 57, none, .len (.t 56)⟩, 
              ⟨some 58, none, .bin .add (.t 55) (.t 57)⟩, 
              ⟨some 59, none, .mv (.t 7)⟩, 
              ⟨some 60, none, .idx 1 (.t 54) (.t 58)⟩, 
              ⟨none, none, .st 1 (.t 60) (.t 59)⟩]))))
        (.reg [⟨some 19, none, .mv (.t 6)⟩, 
          ⟨some 20, none, .bin .add (.t 19) (.k (.i .i64 1))⟩, 
          ⟨some 6, none, .mv (.t 20)⟩]))))))
  (.seq (.reg [⟨some 61, none, .mv (.t 5)⟩, 
      ⟨some 4, none, .mv (.t 61)⟩])
  (.ret))))
theorem htimes_spec (x y : List Nat) (hx : Lt 65536 x) (hy : Lt 65536 y) (lx : x.length ≤ 10000000000) (ly : y.length ≤ 10000000000) :
    AFun Try.prog J0 88 [.l 1 (D x), .l 1 (D y)] (.o 3 1 (D (fl 65536 (x.length + y.length) (nv 65536 x * nv 65536 y)))) := by
  obtain ⟨p, hp⟩ : ∃ p, p = x.length := ⟨_, rfl⟩
  obtain ⟨q, hq⟩ : ∃ q, q = y.length := ⟨_, rfl⟩
  obtain ⟨n, hn⟩ : ∃ n, n = p + q := ⟨_, rfl⟩
  have hnI : (p : Int) + (q : Int) = (n : Int) := by omega
  have hn0 : (0 : Int) ≤ (n : Int) := by omega
  obtain ⟨T, hT⟩ : ∃ T, T = nv 65536 x * nv 65536 y := ⟨_, rfl⟩
  rw [← hp, ← hq, ← hn, ← hT]
  refine AFun.mk fol J0s Try.func88 rfl (ac := a88) (by kernel_rfl) rfl rfl ?_
  apply vm_start
  unfold a88
  simp only [init_eq, initE]
  repeat first
    | (refine hK _ ?_; clear hK K)
    | ((first | refine vm_reg (fun K hK => ?_) | refine vm_dreg (fun K hK => ?_)); simp (disch := (first | omega | assumption)) only [S1, ↓reduceIte, Nat.reduceEqDiff, Nat.reduceAdd, Nat.reduceMul, Nat.reduceDiv, AOp.sb, AOp.mut, ↓Bool.false_eq_true, beq_self_eq_true, ite_self, Nat.reduceLeDiff, Int.reduceEq, Int.reduceSub, Int.reduceAdd, Int.reduceNeg, Int.reduceLT, Int.reduceLE, Nat.reduceLT, bz_F4, ← hp, ← hq, hnI, mk_D5]; refine hK _ ?_; clear hK K)
    | simp only [Sv, ↓reduceIte, Nat.reduceEqDiff]
  refine vm_loopA [] (Nat × List Nat) (fun s => ⟨[(0, .l 1 (D x)), (1, .l 1 (D y)), (5, .ow 1 0 n), (6, .i .i64 (s.1 : Int))],
      [(0, some ⟨3, 1, D s.2, true, false⟩)], 1⟩)
    (fun s => s.1 ≤ p ∧ s.2.length = n ∧ nv 65536 s.2 = nv 65536 (x.take s.1) * nv 65536 y ∧ Lt 65536 s.2 ∧ ∀ j, s.1 + q ≤ j → s.2.getD j 0 = 0) (fun s => p - s.1) (0, List.replicate n 0)
    ⟨Nat.zero_le _, by simp, by rw [nv_rep, List.take_zero, show nv 65536 [] = 0 from rfl, Nat.zero_mul], Lt_rep (by decide), fun j hj => by simp only [List.getD_eq_getElem?_getD, List.getElem?_replicate]; split <;> simp⟩ (by simp (disch := (first | omega | assumption)) only [Sl, Sa, Sw, ↓reduceIte, Nat.reduceEqDiff, Nat.reduceLT, List.all_nil, List.all_cons, Nat.reduceBneDiff, Nat.reduceAdd, bne_iff_ne, ne_eq, reduceCtorEq, not_false_eq_true, not_true_eq_false, Bool.and_true, Bool.true_and, and_true, true_and, and_self]) (by
    simp (disch := (first | omega | assumption)) only [Sl, Sa, Sw, ↓reduceIte, Nat.reduceEqDiff, Nat.reduceLT, List.all_nil, List.all_cons, Nat.reduceBneDiff, Nat.reduceAdd, bne_iff_ne, ne_eq, reduceCtorEq, not_false_eq_true, not_true_eq_false, Bool.and_true, Bool.true_and, and_true, true_and, and_self, i_eq]
    repeat' first | rfl | omega | (simp only [List.length_append, List.length_cons, List.length_nil]; done) | apply And.intro) ?_
  rintro ⟨i, S⟩ ⟨hi, lS, vS, wS, zS⟩ Q' hQ he hr
  simp only [] at hi lS vS wS zS ⊢
  by_cases hil : (i : Int) < (p : Int)
  · have hxi := Lt_get hx (by decide) i
    repeat first
      | (refine hK _ ?_; clear hK K)
      | ((first | refine vm_reg (fun K hK => ?_) | refine vm_dreg (fun K hK => ?_)); simp (disch := (first | omega | assumption)) only [S1, ↓reduceIte, Nat.reduceEqDiff, Nat.reduceAdd, Nat.reduceMul, Nat.reduceDiv, AOp.sb, AOp.mut, ↓Bool.false_eq_true, beq_self_eq_true, ite_self, Nat.reduceLeDiff, Int.reduceEq, Int.reduceSub, Int.reduceAdd, Int.reduceNeg, Int.reduceLT, Int.reduceLE, Nat.reduceLT, bz_F4, hil, ← hp, ← hq]; refine hK _ ?_; clear hK K)
      | simp only [Sv, ↓reduceIte, Nat.reduceEqDiff]
    refine vm_loopA [] (Nat × Nat × List Nat) (fun s => ⟨[(0, .l 1 (D x)), (1, .l 1 (D y)), (5, .ow 1 0 n), (6, .i .i64 (i : Int)), (7, .i .i64 (s.2.1 : Int)), (8, .i .i64 (s.1 : Int))],
        [(0, some ⟨3, 1, D s.2.2, true, false⟩)], 1⟩)
      (fun s => s.1 ≤ q ∧ s.2.2.length = n ∧ s.2.1 < 65536 ∧ nv 65536 s.2.2 + 65536 ^ (i + s.1) * s.2.1 = nv 65536 (x.take i) * nv 65536 y + 65536 ^ i * (x.getD i 0 * nv 65536 (y.take s.1)) ∧ Lt 65536 s.2.2 ∧ ∀ j, i + q ≤ j → s.2.2.getD j 0 = 0) (fun s => q - s.1) (0, 0, S)
      ⟨Nat.zero_le _, lS, by simp only; omega, by simp only [List.take_zero, show nv 65536 [] = 0 from rfl, Nat.mul_zero, Nat.add_zero]; exact vS, wS, zS⟩ (by simp (disch := (first | omega | assumption)) only [Sl, Sa, Sw, ↓reduceIte, Nat.reduceEqDiff, Nat.reduceLT, List.all_nil, List.all_cons, Nat.reduceBneDiff, Nat.reduceAdd, bne_iff_ne, ne_eq, reduceCtorEq, not_false_eq_true, not_true_eq_false, Bool.and_true, Bool.true_and, and_true, true_and, and_self]) (by
      simp (disch := (first | omega | assumption)) only [Sl, Sa, Sw, ↓reduceIte, Nat.reduceEqDiff, Nat.reduceLT, List.all_nil, List.all_cons, Nat.reduceBneDiff, Nat.reduceAdd, bne_iff_ne, ne_eq, reduceCtorEq, not_false_eq_true, not_true_eq_false, Bool.and_true, Bool.true_and, and_true, true_and, and_self, i_eq]
      repeat' first | rfl | omega | (simp only [List.length_append, List.length_cons, List.length_nil]; done) | apply And.intro) ?_
    rintro ⟨k, c, U⟩ ⟨hk, lU, hc, vU, wU, zU⟩ Q'' hQ' he' hr'
    simp only [] at hk lU hc vU wU zU ⊢
    by_cases hkl : (k : Int) < (q : Int)
    · have hyk := Lt_get hy (by decide) k
      have hUk := Lt_get wU (by decide) (i + k)
      have hb := times_bnd hUk hxi hyk hc
      have htk := nv_take_succ (b := 65536) y k (by omega)
      obtain ⟨z, hz⟩ : ∃ z, z = x.getD i 0 * y.getD k 0 := ⟨_, rfl⟩
      have hzI : ((x.getD i 0 : Nat) : Int) * ((y.getD k 0 : Nat) : Int) = (z : Int) := by rw [hz, Int.natCast_mul]
      rw [← hz] at hb
      obtain ⟨m, hm⟩ : ∃ m, m = c + (U.getD (i + k) 0 + z) := ⟨_, rfl⟩
      have hmI : (c : Int) + (((U.getD (i + k) 0 : Nat) : Int) + (z : Int)) = (m : Int) := by omega
      have hst := nv_set (b := 65536) U (i + k) (m % 65536) (by omega)
      have tpq : ((i : Int) + (k : Int)).toNat = i + k := by omega
      repeat first
        | (refine hK _ ?_; clear hK K)
        | ((first | refine vm_reg (fun K hK => ?_) | refine vm_dreg (fun K hK => ?_)); simp (disch := (first | omega | assumption)) only [S1, ↓reduceIte, Nat.reduceEqDiff, Nat.reduceAdd, Nat.reduceMul, Nat.reduceDiv, AOp.sb, AOp.mut, ↓Bool.false_eq_true, beq_self_eq_true, ite_self, Nat.reduceLeDiff, Int.reduceEq, Int.reduceSub, Int.reduceAdd, Int.reduceNeg, Int.reduceLT, Int.reduceLE, Nat.reduceLT, bz_F4, hkl, ← hp, ← hq, tpq, lU, hzI, hmI, D_set5, tmod_H, tdiv_H]; refine hK _ ?_; clear hK K)
        | simp only [Sv, ↓reduceIte, Nat.reduceEqDiff]
      refine hQ' _ (k + 1, m / 65536, U.set (i + k) (m % 65536)) ⟨by simp only; omega, by simp only [List.length_set]; exact lU, by simp only; omega, ?_, Lt_set wU _ _ (Nat.mod_lt _ (by decide)), fun j hj => ?_⟩ (by simp only; omega) ?_
      · simp only []
        have e : 65536 ^ i * (x.getD i 0 * (65536 ^ k * y.getD k 0)) = 65536 ^ (i + k) * z := by rw [hz, Nat.pow_add, Nat.mul_assoc, Nat.mul_left_comm (x.getD i 0)]
        have e2 : 65536 ^ (i + (k + 1)) * (m / 65536) + 65536 ^ (i + k) * (m % 65536) = 65536 ^ (i + k) * m := by
          rw [← Nat.add_assoc, Nat.pow_succ, Nat.mul_assoc, ← Nat.mul_add, Nat.div_add_mod]
        rw [htk, Nat.mul_add, Nat.mul_add, e]
        have e3 : 65536 ^ (i + k) * m = 65536 ^ (i + k) * c + 65536 ^ (i + k) * U.getD (i + k) 0 + 65536 ^ (i + k) * z := by rw [hm, Nat.mul_add, Nat.mul_add, Nat.add_assoc]
        omega
      · simp only [] at hj ⊢
        rw [getD_set_ne _ _ _ _ (by omega)]; exact zU j hj
      · simp (disch := (first | omega | assumption)) only [Sl, Sa, Sw, ↓reduceIte, Nat.reduceEqDiff, Nat.reduceLT, List.all_nil, List.all_cons, Nat.reduceBneDiff, Nat.reduceAdd, bne_iff_ne, ne_eq, reduceCtorEq, not_false_eq_true, not_true_eq_false, Bool.and_true, Bool.true_and, and_true, true_and, and_self, i_eq]
        repeat' first | rfl | omega | (simp only [List.length_append, List.length_cons, List.length_nil]; done) | apply And.intro
    · obtain rfl : k = q := by omega
      rw [show y.take k = y from by rw [hq, List.take_length]] at vU
      have hst := nv_set (b := 65536) U (i + k) c (by omega)
      rw [zU (i + k) (by omega), Nat.mul_zero, Nat.add_zero] at hst
      have tpq : ((i : Int) + (k : Int)).toNat = i + k := by omega
      repeat first
        | (refine hK _ ?_; clear hK K)
        | ((first | refine vm_reg (fun K hK => ?_) | refine vm_dreg (fun K hK => ?_)); simp (disch := (first | omega | assumption)) only [S1, ↓reduceIte, Nat.reduceEqDiff, Nat.reduceAdd, Nat.reduceMul, Nat.reduceDiv, AOp.sb, AOp.mut, ↓Bool.false_eq_true, beq_self_eq_true, ite_self, Nat.reduceLeDiff, Int.reduceEq, Int.reduceSub, Int.reduceAdd, Int.reduceNeg, Int.reduceLT, Int.reduceLE, Nat.reduceLT, bz_F4, hkl, ← hp, ← hq]; refine hK _ ?_; clear hK K)
        | simp only [Sv, ↓reduceIte, Nat.reduceEqDiff]
      refine he' _ _ ?_
      repeat first
        | (refine hK _ ?_; clear hK K)
        | ((first | refine vm_reg (fun K hK => ?_) | refine vm_dreg (fun K hK => ?_)); simp (disch := (first | omega | assumption)) only [S1, ↓reduceIte, Nat.reduceEqDiff, Nat.reduceAdd, Nat.reduceMul, Nat.reduceDiv, AOp.sb, AOp.mut, ↓Bool.false_eq_true, beq_self_eq_true, ite_self, Nat.reduceLeDiff, Int.reduceEq, Int.reduceSub, Int.reduceAdd, Int.reduceNeg, Int.reduceLT, Int.reduceLE, Nat.reduceLT, bz_F4, ← hp, ← hq, tpq, lU, D_set5]; refine hK _ ?_; clear hK K)
        | simp only [Sv, ↓reduceIte, Nat.reduceEqDiff]
      refine hQ _ (i + 1, U.set (i + k) c) ⟨by simp only; omega, by simp only [List.length_set]; exact lU, ?_, Lt_set wU _ _ hc, fun j hj => ?_⟩ (by simp only; omega) ?_
      · simp only []
        rw [hst, vU, nv_take_succ (b := 65536) x i (by omega), Nat.add_mul, Nat.mul_assoc]
      · simp only [] at hj ⊢
        rw [getD_set_ne _ _ _ _ (by omega)]; exact zU j (by omega)
      · simp (disch := (first | omega | assumption)) only [Sl, Sa, Sw, ↓reduceIte, Nat.reduceEqDiff, Nat.reduceLT, List.all_nil, List.all_cons, Nat.reduceBneDiff, Nat.reduceAdd, bne_iff_ne, ne_eq, reduceCtorEq, not_false_eq_true, not_true_eq_false, Bool.and_true, Bool.true_and, and_true, true_and, and_self, i_eq]
        repeat' first | rfl | omega | (simp only [List.length_append, List.length_cons, List.length_nil]; done) | apply And.intro
  · obtain rfl : i = p := by omega
    rw [show x.take i = x from by rw [hp, List.take_length], ← hT] at vS
    have e : S = fl 65536 n T := by rw [← vS, ← lS]; exact (fl_nv wS).symm
    repeat first
      | (refine hK _ ?_; clear hK K)
      | ((first | refine vm_reg (fun K hK => ?_) | refine vm_dreg (fun K hK => ?_)); simp (disch := (first | omega | assumption)) only [S1, ↓reduceIte, Nat.reduceEqDiff, Nat.reduceAdd, Nat.reduceMul, Nat.reduceDiv, AOp.sb, AOp.mut, ↓Bool.false_eq_true, beq_self_eq_true, ite_self, Nat.reduceLeDiff, Int.reduceEq, Int.reduceSub, Int.reduceAdd, Int.reduceNeg, Int.reduceLT, Int.reduceLE, Nat.reduceLT, bz_F4, hil, ← hp, ← hq]; refine hK _ ?_; clear hK K)
      | simp only [Sv, ↓reduceIte, Nat.reduceEqDiff]
    refine he _ _ ?_
    repeat first
      | (refine hK _ ?_; clear hK K)
      | ((first | refine vm_reg (fun K hK => ?_) | refine vm_dreg (fun K hK => ?_)); simp (disch := (first | omega | assumption)) only [S1, ↓reduceIte, Nat.reduceEqDiff, Nat.reduceAdd, Nat.reduceMul, Nat.reduceDiv, AOp.sb, AOp.mut, ↓Bool.false_eq_true, beq_self_eq_true, ite_self, Nat.reduceLeDiff, Int.reduceEq, Int.reduceSub, Int.reduceAdd, Int.reduceNeg, Int.reduceLT, Int.reduceLE, Nat.reduceLT, bz_F4]; refine hK _ ?_; clear hK K)
      | simp only [Sv, ↓reduceIte, Nat.reduceEqDiff]
    simp (disch := (first | omega | assumption)) only [retOk, retN, ret1, retF, ret1F, V.okArg, and_true, true_and, S1, ↓reduceIte, Nat.reduceEqDiff, Nat.reduceAdd, Nat.reduceMul, Nat.reduceDiv, AOp.sb, AOp.mut, ↓Bool.false_eq_true, beq_self_eq_true, ite_self, Nat.reduceLeDiff, Int.reduceEq, Int.reduceSub, Int.reduceAdd, Int.reduceNeg, Int.reduceLT, Int.reduceLE, Nat.reduceLT, bz_F4, e]
-- surd/surdref05.Times
def a58 : AC := .seq (.reg [⟨some 4, none, .mv (.k .nl)⟩])
  (.seq (.reg [⟨some 9, none, .mv (.t 0)⟩, 
      ⟨some 10, none, .mv (.t 1)⟩, 
      ⟨some 11, none, .call 85 [(1, (.t 9)), (1, (.t 10)), (1, (.k (.i .i64 32)))]⟩, 
      ⟨some 8, none, .mv (.t 11)⟩, 
      ⟨some 12, none, .ext (.t 8) 0⟩, 
      ⟨some 13, none, .ext (.t 8) 1⟩, 
      ⟨some 14, none, .ext (.t 8) 2⟩, 
      ⟨some 5, none, .mv (.t 12)⟩, 
      ⟨some 6, none, .mv (.t 13)⟩, 
      ⟨some 7, none, .mv (.t 14)⟩])
  (.seq (.seq (.reg [⟨some 15, none, .mv (.t 7)⟩])
    (.cond (.t 15)
    (.seq (.reg [⟨some 16, none, .mv (.t 5)⟩, 
          ⟨some 17, none, .mv (.t 6)⟩, 
          ⟨some 18, none, .bin .mul (.t 16) (.t 17)⟩, 
          ⟨some 19, none, .call 86 [(1, (.t 18))]⟩, 
          ⟨some 4, none, .mv (.t 19)⟩])
      (.ret))
    (.skip)))
  (.seq (.reg [⟨some 20, none, .mv (.t 0)⟩, 
      ⟨some 21, none, .call 83 [(1, (.t 20))]⟩, 
      ⟨some 22, none, .mv (.t 1)⟩, 
      ⟨some 23, none, .call 83 [(1, (.t 22))]⟩, 
      ⟨some 24, none, .call 88 [(1, (.t 21)), (1, (.t 23))]⟩, 
      ⟨some 25, none, .call 84 [(1, (.t 24))]⟩, 
      ⟨some 4, none, .mv (.t 25)⟩])
  (.ret))))
theorem hmul_spec (a b : List Nat) (ha : Wd a) (hb : Wd b) (la : a.length ≤ 1000000000) (lb : b.length ≤ 1000000000) : AFun Try.prog J0 58 [.l 1 (W a), .l 1 (W b)] (.o 56 1 (W (dg B (nv B a * nv B b)))) := by
  have ho := hones_spec a b 32 (by decide) ha hb (by omega) (by omega)
  have d1 := hdigits_spec a ha (by omega)
  have d2 := hdigits_spec b hb (by omega)
  have l1 := dgH_len ha
  have l2 := dgH_len hb
  have e1 := nv_dg H2 (nv B a)
  have e2 := nv_dg H2 (nv B b)
  have k1 := dg_Lt (b := 65536) (by decide) (nv B a)
  have k2 := dg_Lt (b := 65536) (by decide) (nv B b)
  generalize dg 65536 (nv B a) = x at *
  generalize dg 65536 (nv B b) = y at *
  generalize nv B a = u at *
  generalize nv B b = v at *
  have hB : B = 18446744073709551616 := rfl
  have hp := (htimes_spec x y k1 k2 (by omega) (by omega)).frozen
  have hn := hnumber_spec (fl 65536 (x.length + y.length) (nv 65536 x * nv 65536 y)) (fl_Lt (by decide) _ _) (by rw [fl_len]; omega)
  rw [nv_fl, Nat.mod_eq_of_lt (by rw [Nat.pow_add]; exact Nat.mul_lt_mul_of_lt_of_lt (nv_lt k1) (nv_lt k2)), e1, e2] at hn
  rw [e1, e2] at hp
  by_cases h : u < 4294967296 ∧ v < 4294967296
  · rw [decide_eq_true (show u < 2 ^ 32 ∧ v < 2 ^ 32 from h), Nat.mod_eq_of_lt (by omega : u < B), Nat.mod_eq_of_lt (by omega : v < B)] at ho
    have hlt : u * v < 18446744073709551616 := Nat.mul_lt_mul_of_lt_of_lt h.1 h.2
    have hof := hof_spec (u * v) hlt
    have w1 : IntKind.u64.wrap ((u : Int) * (v : Int)) = ((u * v : Nat) : Int) := by rw [← Int.natCast_mul, wu (by omega)]
    refine AFun.mk fol J0s Try.func58 rfl (ac := a58) (by kernel_rfl) rfl rfl ?_
    apply vm_start
    unfold a58
    simp only [init_eq, initE]
    have zc15 := ho
    have zc16 := hof
    repeat first | (refine hK _ ?_; clear hK K) | simp only [Sv, ↓reduceIte, Nat.reduceEqDiff] | ((first | refine vm_reg (fun K hK => ?_) | refine vm_dreg (fun K hK => ?_) | refine clp_q ?_ | refine clq_mk (by assumption) ?_); simp (disch := (first | omega | assumption)) only [S1, ↓reduceIte, Nat.reduceEqDiff, Nat.reduceAdd, Nat.reduceMul, Nat.reduceDiv, AOp.sb, AOp.mut, ↓Bool.false_eq_true, beq_self_eq_true, ite_self, Nat.reduceLeDiff, Int.reduceEq, Int.reduceSub, Int.reduceAdd, Int.reduceNeg, Int.reduceLT, Int.reduceLE, Nat.reduceLT, bz_F4, w1])
    simp (disch := (first | omega | assumption)) only [retOk, retN, ret1, retF, ret1F, V.okArg, and_true, true_and, S1, ↓reduceIte, Nat.reduceEqDiff, Nat.reduceAdd, Nat.reduceMul, Nat.reduceDiv, AOp.sb, AOp.mut, ↓Bool.false_eq_true, beq_self_eq_true, ite_self, Nat.reduceLeDiff, Int.reduceEq, Int.reduceSub, Int.reduceAdd, Int.reduceNeg, Int.reduceLT, Int.reduceLE, Nat.reduceLT, bz_F4, w1]
  · rw [decide_eq_false (show ¬ (u < 2 ^ 32 ∧ v < 2 ^ 32) from h)] at ho
    refine AFun.mk fol J0s Try.func58 rfl (ac := a58) (by kernel_rfl) rfl rfl ?_
    apply vm_start
    unfold a58
    simp only [init_eq, initE]
    have zc17 := ho
    have zc18 := d1
    have zc19 := d2
    have zc20 := hp
    have zc21 := hn
    repeat first | (refine hK _ ?_; clear hK K) | simp only [Sv, ↓reduceIte, Nat.reduceEqDiff] | ((first | refine vm_reg (fun K hK => ?_) | refine vm_dreg (fun K hK => ?_) | refine clp_q ?_ | refine clq_mk (by assumption) ?_); simp (disch := (first | omega | assumption)) only [S1, ↓reduceIte, Nat.reduceEqDiff, Nat.reduceAdd, Nat.reduceMul, Nat.reduceDiv, AOp.sb, AOp.mut, ↓Bool.false_eq_true, beq_self_eq_true, ite_self, Nat.reduceLeDiff, Int.reduceEq, Int.reduceSub, Int.reduceAdd, Int.reduceNeg, Int.reduceLT, Int.reduceLE, Nat.reduceLT, bz_F4])
    simp (disch := (first | omega | assumption)) only [retOk, retN, ret1, retF, ret1F, V.okArg, and_true, true_and, S1, ↓reduceIte, Nat.reduceEqDiff, Nat.reduceAdd, Nat.reduceMul, Nat.reduceDiv, AOp.sb, AOp.mut, ↓Bool.false_eq_true, beq_self_eq_true, ite_self, Nat.reduceLeDiff, Int.reduceEq, Int.reduceSub, Int.reduceAdd, Int.reduceNeg, Int.reduceLT, Int.reduceLE, Nat.reduceLT, bz_F4]
end Go.Proofs.Ytfkldohgiifgbaa
