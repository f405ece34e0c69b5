/-
  nat, surdref02: words, plain ints, bits, how often 2 divides.
-/
import Derived.Test.YtjcmhoiabakclaaDoorCT
import Derived.Test.YtjcmhoiabakclaaDoorZb
import Derived.Test.YtjcmhoiabakclaaDoorGH
namespace Go.Proofs.YtjcmhoiabakclaaDoor
open Go Go.RowKit Ab
set_option linter.unusedSimpArgs false
set_option linter.unusedVariables false
set_option maxHeartbeats 10000000
theorem bz_NB : type_of% (And.intro @wi (And.intro @tn_nat (And.intro @Nat.div_one (And.intro @Nat.mul_one (And.intro @W_len (And.intro @W_nf (And.intro @W_cell (And.intro @W_nil (And.intro @W_get (And.intro @Bl_len (And.intro @Bl_nf (@Bl_nil)))))))))))) := And.intro @wi (And.intro @tn_nat (And.intro @Nat.div_one (And.intro @Nat.mul_one (And.intro @W_len (And.intro @W_nf (And.intro @W_cell (And.intro @W_nil (And.intro @W_get (And.intro @Bl_len (And.intro @Bl_nf (@Bl_nil)))))))))))

-- surd/nat.Word
def a7 : AC := .seq (.reg [⟨some 2, none, .mv (.k (.i .u64 0))⟩, 
      ⟨some 3, none, .mv (.k (.i .i64 0))⟩])
  (.seq (.reg [⟨some 5, none, .mv (.t 0)⟩, 
      ⟨some 6, none, .call 27 [(1, (.t 5))]⟩, 
      ⟨some 4, none, .mv (.t 6)⟩])
  (.seq (.seq (.reg [⟨some 7, none, .mv (.t 4)⟩, 
        ⟨some 8, none, .len (.t 7)⟩])
    (.blk 0
    (.seq (.reg [⟨some 10, none, .bin .eql (.t 8) (.k (.i .i64 0))⟩, 
          ⟨some 9, none, .mv (.t 10)⟩])
      (.cond (.t 9)
      (.seq (.reg [⟨some 2, none, .mv (.k (.i .u64 0))⟩, 
            ⟨some 3, none, .mv (.k (.i .i64 0))⟩])
        (.ret))
      (.seq (.reg [⟨some 12, none, .bin .eql (.t 8) (.k (.i .i64 1))⟩, 
            ⟨some 11, none, .mv (.t 12)⟩])
        (.cond (.t 11)
        (.seq (.reg [⟨some 13, none, .mv (.t 4)⟩, 
              ⟨some 14, none, .idx 1 (.t 13) (.k (.i .i64 0))⟩, 
              ⟨some 15, none, .ld false 1 (.t 14)⟩, 
              ⟨some 2, none, .mv (.t 15)⟩, 
              ⟨some 3, none, .mv (.k (.i .i64 0))⟩])
          (.ret))
        (.skip)))))))
  (.seq (.reg [⟨some 2, none, .mv (.k (.i .u64 0))⟩, 
      ⟨some 3, none, .mv (.k (.i .i64 13))⟩])
  (.ret))))
theorem nword_spec (a : List Nat) (ha : Wd a) (la : a.length ≤ 100000000000) :
    AFun Tryd.prog J0 7 [.l 1 (W a)] (.t [.i .u64 ((wdW (nv B a) : Nat) : Int), .i .i64 (wdE (nv B a))]) := by
  have hn := trim_spec a (by omega)
  rw [tz_dg B2 ha] at hn
  generalize nv B a = u at *
  refine AFun.mk fol J0s Tryd.func7 rfl (ac := a7) (by kernel_rfl) rfl rfl ?_
  apply vm_start
  unfold a7
  simp only [init_eq, initE]
  by_cases h0 : u = 0
  · subst h0
    rw [dg_zero] at hn
    have z1 : wdW 0 = 0 := rfl
    have z2 : wdE 0 = 0 := rfl
    have zc1 := hn
    repeat first | (refine hK _ ?_; clear hK K) | simp only [Sv, ↓reduceIte, Nat.reduceEqDiff] | ((first | refine vm_reg (fun K hK => ?_) | refine vm_dreg (fun K hK => ?_) | refine vm_dregx (fun K hK => ?_) | refine clp_q ?_ | refine clq_mk (by assumption) ?_); simp (disch := (first | omega | assumption)) only [S1, ↓reduceIte, Nat.reduceEqDiff, Nat.reduceAdd, Nat.reduceMul, Nat.reduceDiv, AOp.sb, AOp.mut, ↓Bool.false_eq_true, beq_self_eq_true, ite_self, Nat.reduceLeDiff, Int.reduceEq, Int.reduceSub, Int.reduceAdd, Int.reduceNeg, Int.reduceLT, Int.reduceLE, Nat.reduceLT, bz_NB, List.length_nil, z1, z2])
    simp (disch := (first | omega | assumption)) only [retOk, retN, ret1, retF, ret1F, V.okArg, and_true, true_and, S1, ↓reduceIte, Nat.reduceEqDiff, Nat.reduceAdd, Nat.reduceMul, Nat.reduceDiv, AOp.sb, AOp.mut, ↓Bool.false_eq_true, beq_self_eq_true, ite_self, Nat.reduceLeDiff, Int.reduceEq, Int.reduceSub, Int.reduceAdd, Int.reduceNeg, Int.reduceLT, Int.reduceLE, Nat.reduceLT, bz_NB, List.length_nil, z1, z2]
  · by_cases h1 : u < 18446744073709551616
    · rw [dg_one (by omega) h1] at hn
      rw [show wdW u = u from if_pos h1, show wdE u = 0 from if_pos h1]
      have zc2 := hn
      repeat first | (refine hK _ ?_; clear hK K) | simp only [Sv, ↓reduceIte, Nat.reduceEqDiff] | ((first | refine vm_reg (fun K hK => ?_) | refine vm_dreg (fun K hK => ?_) | refine vm_dregx (fun K hK => ?_) | refine clp_q ?_ | refine clq_mk (by assumption) ?_); simp (disch := (first | omega | assumption)) only [S1, ↓reduceIte, Nat.reduceEqDiff, Nat.reduceAdd, Nat.reduceMul, Nat.reduceDiv, AOp.sb, AOp.mut, ↓Bool.false_eq_true, beq_self_eq_true, ite_self, Nat.reduceLeDiff, Int.reduceEq, Int.reduceSub, Int.reduceAdd, Int.reduceNeg, Int.reduceLT, Int.reduceLE, Nat.reduceLT, bz_NB, List.length_nil, List.length_cons, W1, Int.toNat_zero, getD_z])
      simp (disch := (first | omega | assumption)) only [retOk, retN, ret1, retF, ret1F, V.okArg, and_true, true_and, S1, ↓reduceIte, Nat.reduceEqDiff, Nat.reduceAdd, Nat.reduceMul, Nat.reduceDiv, AOp.sb, AOp.mut, ↓Bool.false_eq_true, beq_self_eq_true, ite_self, Nat.reduceLeDiff, Int.reduceEq, Int.reduceSub, Int.reduceAdd, Int.reduceNeg, Int.reduceLT, Int.reduceLE, Nat.reduceLT, bz_NB, List.length_nil, List.length_cons, W1, Int.toNat_zero, getD_z]
    · have hl := dg_big h1
      have hl2 : ¬ ((dg B u).length : Int) = 0 := by omega
      have hl3 : ¬ ((dg B u).length : Int) = 1 := by omega
      rw [show wdW u = 0 from if_neg h1, show wdE u = 13 from if_neg h1]
      have zc3 := hn
      repeat first | (refine hK _ ?_; clear hK K) | simp only [Sv, ↓reduceIte, Nat.reduceEqDiff] | ((first | refine vm_reg (fun K hK => ?_) | refine vm_dreg (fun K hK => ?_) | refine vm_dregx (fun K hK => ?_) | refine clp_q ?_ | refine clq_mk (by assumption) ?_); simp (disch := (first | omega | assumption)) only [S1, ↓reduceIte, Nat.reduceEqDiff, Nat.reduceAdd, Nat.reduceMul, Nat.reduceDiv, AOp.sb, AOp.mut, ↓Bool.false_eq_true, beq_self_eq_true, ite_self, Nat.reduceLeDiff, Int.reduceEq, Int.reduceSub, Int.reduceAdd, Int.reduceNeg, Int.reduceLT, Int.reduceLE, Nat.reduceLT, bz_NB, List.length_nil, hl2, hl3])
      simp (disch := (first | omega | assumption)) only [retOk, retN, ret1, retF, ret1F, V.okArg, and_true, true_and, S1, ↓reduceIte, Nat.reduceEqDiff, Nat.reduceAdd, Nat.reduceMul, Nat.reduceDiv, AOp.sb, AOp.mut, ↓Bool.false_eq_true, beq_self_eq_true, ite_self, Nat.reduceLeDiff, Int.reduceEq, Int.reduceSub, Int.reduceAdd, Int.reduceNeg, Int.reduceLT, Int.reduceLE, Nat.reduceLT, bz_NB, List.length_nil, hl2, hl3]
-- surd/surdref02.IsNorm
def a15 : AC := .seq (.reg [⟨some 2, none, .mv (.k (.b false))⟩])
  (.seq (.reg [⟨some 3, none, .mv (.t 0)⟩, 
      ⟨some 4, none, .len (.t 3)⟩, 
      ⟨some 5, none, .bin .eql (.t 4) (.k (.i .i64 0))⟩, 
      ⟨some 6, none, .mv (.t 5)⟩, 
      ⟨some 7, some (6, false), .mv (.t 0)⟩, 
      ⟨some 8, some (6, false), .mv (.t 0)⟩, 
      ⟨some 9, some (6, false), .len (.t 8)⟩, 
      ⟨some 10, some (6, false), .bin .sub (.t 9) (.k (.i .i64 1))⟩, 
      ⟨some 11, some (6, false), .idx 1 (.t 7) (.t 10)⟩, 
      ⟨some 12, some (6, false), .ld false 1 (.t 11)⟩, 
      ⟨some 13, some (6, false), .bin .neq (.t 12) (.k (.i .u64 0))⟩, 
      ⟨some 14, none, .pick (.t 6) (.k (.b true)) (.t 13)⟩, 
      ⟨some 2, none, .mv (.t 14)⟩])
  (.ret))
theorem risNorm_spec (a : List Nat) (la : a.length ≤ 1099511627776) : AFun Tryd.prog J0 15 [.l 1 (W a)] (.b (decide (tz a = a))) := by
  refine AFun.mk fol J0s Tryd.func15 rfl (ac := a15) (by kernel_rfl) rfl rfl ?_
  apply vm_start
  unfold a15
  simp only [init_eq, initE]
  by_cases h : (a.length : Int) = 0
  · have e : decide (tz a = a) = true := decide_eq_true (by rw [List.eq_nil_of_length_eq_zero (by omega : a.length = 0)]; rfl)
    rw [e]
    repeat first
      | (refine hK _ ?_; clear hK K)
      | ((first | refine vm_reg (fun K hK => ?_) | refine vm_dreg (fun K hK => ?_) | refine vm_dregx (fun K hK => ?_)); simp (disch := (first | omega | assumption)) only [S1, ↓reduceIte, Nat.reduceEqDiff, Nat.reduceAdd, Nat.reduceMul, Nat.reduceDiv, AOp.sb, AOp.mut, ↓Bool.false_eq_true, beq_self_eq_true, ite_self, Nat.reduceLeDiff, Int.reduceEq, Int.reduceSub, Int.reduceAdd, Int.reduceNeg, Int.reduceLT, Int.reduceLE, Nat.reduceLT, bz_NB, List.length_nil, h]; refine hK _ ?_; clear hK K)
      | simp only [Sv, ↓reduceIte, Nat.reduceEqDiff]
    simp (disch := (first | omega | assumption)) only [retOk, retN, ret1, retF, ret1F, V.okArg, and_true, true_and, S1, ↓reduceIte, Nat.reduceEqDiff, Nat.reduceAdd, Nat.reduceMul, Nat.reduceDiv, AOp.sb, AOp.mut, ↓Bool.false_eq_true, beq_self_eq_true, ite_self, Nat.reduceLeDiff, Int.reduceEq, Int.reduceSub, Int.reduceAdd, Int.reduceNeg, Int.reduceLT, Int.reduceLE, Nat.reduceLT, bz_NB, List.length_nil]
  · have hidx : ((a.length : Int) - 1).toNat = a.length - 1 := by omega
    have key : (tz a = a) = ¬ (((a.getD (a.length - 1) 0 : Nat) : Int) = 0) := by
      refine propext ⟨fun h1 h2 => ?_, fun h1 => ?_⟩
      · have := tz_zero a (a.length - 1) (by omega) (by omega)
        rw [show a.length - 1 + 1 = a.length from by omega, List.take_length, h1] at this
        have h3 := congrArg List.length this
        have h4 := tz_len (a.take (a.length - 1))
        rw [← this, List.length_take] at h4
        omega
      · have := tz_top a (a.length - 1) (by omega) (by omega)
        rw [show a.length - 1 + 1 = a.length from by omega, List.take_length] at this
        have h3 := tz_take a
        rw [this, List.take_length] at h3; exact h3.symm
    repeat first
      | (refine hK _ ?_; clear hK K)
      | ((first | refine vm_reg (fun K hK => ?_) | refine vm_dreg (fun K hK => ?_) | refine vm_dregx (fun K hK => ?_)); simp (disch := (first | omega | assumption)) only [S1, ↓reduceIte, Nat.reduceEqDiff, Nat.reduceAdd, Nat.reduceMul, Nat.reduceDiv, AOp.sb, AOp.mut, ↓Bool.false_eq_true, beq_self_eq_true, ite_self, Nat.reduceLeDiff, Int.reduceEq, Int.reduceSub, Int.reduceAdd, Int.reduceNeg, Int.reduceLT, Int.reduceLE, Nat.reduceLT, bz_NB, List.length_nil, h, hidx]; refine hK _ ?_; clear hK K)
      | simp only [Sv, ↓reduceIte, Nat.reduceEqDiff]
    simp (disch := (first | omega | assumption)) only [retOk, retN, ret1, retF, ret1F, V.okArg, and_true, true_and, S1, ↓reduceIte, Nat.reduceEqDiff, Nat.reduceAdd, Nat.reduceMul, Nat.reduceDiv, AOp.sb, AOp.mut, ↓Bool.false_eq_true, beq_self_eq_true, ite_self, Nat.reduceLeDiff, Int.reduceEq, Int.reduceSub, Int.reduceAdd, Int.reduceNeg, Int.reduceLT, Int.reduceLE, Nat.reduceLT, bz_NB, List.length_nil, key]

theorem bl_dg2 (n : Nat) : (dg 2 n).length = bl n := by
  have B22 : (2 : Nat) ≤ 2 := Nat.le_refl 2
  rcases Nat.eq_zero_or_pos n with h | h
  · rw [h]; rfl
  · have h1 : nv 2 (dg 2 n) < 2 ^ (dg 2 n).length := nv_lt (dg_Lt (b := 2) (by decide) n)
    rw [nv_dg B22] at h1
    have h2 : 2 ^ ((dg 2 n).length - 1) ≤ nv 2 (dg 2 n) := nv_top (b := 2) (tz_dg' n) (fun h0 => by rw [dg_nil B22] at h0; omega)
    rw [nv_dg B22] at h2
    have h3 : (dg 2 n).length ≠ 0 := fun h0 => by rw [h0, Nat.pow_zero] at h1; omega
    have := bl_uniq (k := (dg 2 n).length - 1) h2 (by rw [show (dg 2 n).length - 1 + 1 = (dg 2 n).length from by omega]; exact h1)
    omega
/-! ### plain ints -/
def nsV (u : Nat) : Int := if u < 9223372036854775808 then (u : Int) else 0
def nsE (u : Nat) : Int := if u < 9223372036854775808 then 0 else 13
-- surd/nat.Small
def a9 : AC := .seq (.reg [⟨some 2, none, .mv (.k (.i .i64 0))⟩, 
      ⟨some 3, none, .mv (.k (.i .i64 0))⟩])
  (.seq (.reg [⟨some 7, none, .mv (.t 0)⟩, 
      ⟨some 8, none, .call 7 [(1, (.t 7))]⟩, 
      ⟨some 6, none, .mv (.t 8)⟩, 
      ⟨some 9, none, .ext (.t 6) 0⟩, 
      ⟨some 10, none, .ext (.t 6) 1⟩, 
      ⟨some 4, none, .mv (.t 9)⟩, 
      ⟨some 5, none, .mv (.t 10)⟩])
  (.seq (.seq (.reg [⟨some 11, none, .mv (.t 5)⟩, 
        ⟨some 12, none, .bin .neq (.t 11) (.k (.i .i64 0))⟩, 
        ⟨some 13, none, .mv (.t 12)⟩, 
        ⟨some 14, some (13, false), .mv (.t 4)⟩, 
        ⟨some 15, some (13, false), .bin .geq (.t 14) (.k (.i .u64 9223372036854775808))⟩, 
        ⟨some 16, none, .pick (.t 13) (.k (.b true)) (.t 15)⟩])
    (.cond (.t 16)
    (.seq (.reg [⟨some 2, none, .mv (.k (.i .i64 0))⟩, 
          ⟨some 3, none, .mv (.k (.i .i64 13))⟩])
      (.ret))
    (.skip)))
  (.seq (.reg [⟨some 17, none, .mv (.t 4)⟩, 
      ⟨some 18, none, .cvt .i64 (.t 17)⟩, 
      ⟨some 2, none, .mv (.t 18)⟩, 
      ⟨some 3, none, .mv (.k (.i .i64 0))⟩])
  (.ret))))
theorem nsmall_spec (a : List Nat) (ha : Wd a) (la : a.length ≤ 100000000000) : AFun Tryd.prog J0 9 [.l 1 (W a)] (.t [.i .i64 (nsV (nv B a)), .i .i64 (nsE (nv B a))]) := by
  have hw := nword_spec a ha la
  generalize nv B a = u at *
  by_cases h1 : u < 18446744073709551616
  · rw [show wdW u = u from if_pos h1, show wdE u = 0 from if_pos h1] at hw
    by_cases h2 : u < 9223372036854775808
    · rw [show nsV u = u from if_pos h2, show nsE u = 0 from if_pos h2]
      have h3 : ¬ (9223372036854775808 : Int) ≤ (u : Int) := by omega
      refine AFun.mk fol J0s Tryd.func9 rfl (ac := a9) (by kernel_rfl) rfl rfl ?_
      apply vm_start
      unfold a9
      simp only [init_eq, initE]
      have zc4 := hw
      repeat first | (refine hK _ ?_; clear hK K) | simp only [Sv, ↓reduceIte, Nat.reduceEqDiff] | ((first | refine vm_reg (fun K hK => ?_) | refine vm_dreg (fun K hK => ?_) | refine vm_dregx (fun K hK => ?_) | refine clp_q ?_ | refine clq_mk (by assumption) ?_); simp (disch := (first | omega | assumption)) only [S1, ↓reduceIte, Nat.reduceEqDiff, Nat.reduceAdd, Nat.reduceMul, Nat.reduceDiv, AOp.sb, AOp.mut, ↓Bool.false_eq_true, beq_self_eq_true, ite_self, Nat.reduceLeDiff, Int.reduceEq, Int.reduceSub, Int.reduceAdd, Int.reduceNeg, Int.reduceLT, Int.reduceLE, Nat.reduceLT, bz_NB, List.length_nil, h3])
      simp (disch := (first | omega | assumption)) only [retOk, retN, ret1, retF, ret1F, V.okArg, and_true, true_and, S1, ↓reduceIte, Nat.reduceEqDiff, Nat.reduceAdd, Nat.reduceMul, Nat.reduceDiv, AOp.sb, AOp.mut, ↓Bool.false_eq_true, beq_self_eq_true, ite_self, Nat.reduceLeDiff, Int.reduceEq, Int.reduceSub, Int.reduceAdd, Int.reduceNeg, Int.reduceLT, Int.reduceLE, Nat.reduceLT, bz_NB, List.length_nil, h3]
    · rw [show nsV u = 0 from if_neg h2, show nsE u = 13 from if_neg h2]
      have h3 : (9223372036854775808 : Int) ≤ (u : Int) := by omega
      refine AFun.mk fol J0s Tryd.func9 rfl (ac := a9) (by kernel_rfl) rfl rfl ?_
      apply vm_start
      unfold a9
      simp only [init_eq, initE]
      have zc5 := hw
      repeat first | (refine hK _ ?_; clear hK K) | simp only [Sv, ↓reduceIte, Nat.reduceEqDiff] | ((first | refine vm_reg (fun K hK => ?_) | refine vm_dreg (fun K hK => ?_) | refine vm_dregx (fun K hK => ?_) | refine clp_q ?_ | refine clq_mk (by assumption) ?_); simp (disch := (first | omega | assumption)) only [S1, ↓reduceIte, Nat.reduceEqDiff, Nat.reduceAdd, Nat.reduceMul, Nat.reduceDiv, AOp.sb, AOp.mut, ↓Bool.false_eq_true, beq_self_eq_true, ite_self, Nat.reduceLeDiff, Int.reduceEq, Int.reduceSub, Int.reduceAdd, Int.reduceNeg, Int.reduceLT, Int.reduceLE, Nat.reduceLT, bz_NB, List.length_nil, h3])
      simp (disch := (first | omega | assumption)) only [retOk, retN, ret1, retF, ret1F, V.okArg, and_true, true_and, S1, ↓reduceIte, Nat.reduceEqDiff, Nat.reduceAdd, Nat.reduceMul, Nat.reduceDiv, AOp.sb, AOp.mut, ↓Bool.false_eq_true, beq_self_eq_true, ite_self, Nat.reduceLeDiff, Int.reduceEq, Int.reduceSub, Int.reduceAdd, Int.reduceNeg, Int.reduceLT, Int.reduceLE, Nat.reduceLT, bz_NB, List.length_nil, h3]
  · rw [show wdW u = 0 from if_neg h1, show wdE u = 13 from if_neg h1] at hw
    rw [show nsV u = 0 from if_neg (by omega), show nsE u = 13 from if_neg (by omega)]
    refine AFun.mk fol J0s Tryd.func9 rfl (ac := a9) (by kernel_rfl) rfl rfl ?_
    apply vm_start
    unfold a9
    simp only [init_eq, initE]
    have zc6 := hw
    repeat first | (refine hK _ ?_; clear hK K) | simp only [Sv, ↓reduceIte, Nat.reduceEqDiff] | ((first | refine vm_reg (fun K hK => ?_) | refine vm_dreg (fun K hK => ?_) | refine vm_dregx (fun K hK => ?_) | refine clp_q ?_ | refine clq_mk (by assumption) ?_); simp (disch := (first | omega | assumption)) only [S1, ↓reduceIte, Nat.reduceEqDiff, Nat.reduceAdd, Nat.reduceMul, Nat.reduceDiv, AOp.sb, AOp.mut, ↓Bool.false_eq_true, beq_self_eq_true, ite_self, Nat.reduceLeDiff, Int.reduceEq, Int.reduceSub, Int.reduceAdd, Int.reduceNeg, Int.reduceLT, Int.reduceLE, Nat.reduceLT, bz_NB, List.length_nil])
    simp (disch := (first | omega | assumption)) only [retOk, retN, ret1, retF, ret1F, V.okArg, and_true, true_and, S1, ↓reduceIte, Nat.reduceEqDiff, Nat.reduceAdd, Nat.reduceMul, Nat.reduceDiv, AOp.sb, AOp.mut, ↓Bool.false_eq_true, beq_self_eq_true, ite_self, Nat.reduceLeDiff, Int.reduceEq, Int.reduceSub, Int.reduceAdd, Int.reduceNeg, Int.reduceLT, Int.reduceLE, Nat.reduceLT, bz_NB, List.length_nil]
-- surd/surdref02.Small
def a8 : AC := .seq (.reg [⟨some 2, none, .mv (.k (.i .i64 0))⟩, 
      ⟨some 3, none, .mv (.k (.i .i64 0))⟩])
  (.seq (.reg [⟨some 7, none, .mv (.t 0)⟩, 
      ⟨some 8, none, .call 6 [(1, (.t 7))]⟩, 
      ⟨some 6, none, .mv (.t 8)⟩, 
      ⟨some 9, none, .ext (.t 6) 0⟩, 
      ⟨some 10, none, .ext (.t 6) 1⟩, 
      ⟨some 4, none, .mv (.t 9)⟩, 
      ⟨some 5, none, .mv (.t 10)⟩])
  (.seq (.seq (.reg [⟨some 11, none, .mv (.t 5)⟩, 
        ⟨some 12, none, .bin .neq (.t 11) (.k (.i .i64 0))⟩, 
        ⟨some 13, none, .mv (.t 12)⟩, 
        ⟨some 14, some (13, false), .mv (.t 4)⟩, 
        ⟨some 15, some (13, false), .bin .geq (.t 14) (.k (.i .u64 9223372036854775808))⟩, 
        ⟨some 16, none, .pick (.t 13) (.k (.b true)) (.t 15)⟩])
    (.cond (.t 16)
    (.seq (.reg [⟨some 2, none, .mv (.k (.i .i64 0))⟩, 
          ⟨some 3, none, .mv (.k (.i .i64 13))⟩])
      (.ret))
    (.skip)))
  (.seq (.reg [⟨some 17, none, .mv (.t 4)⟩, 
      ⟨some 18, none, .cvt .i64 (.t 17)⟩, 
      ⟨some 2, none, .mv (.t 18)⟩, 
      ⟨some 3, none, .mv (.k (.i .i64 0))⟩])
  (.ret))))
theorem rsmall_spec (a : List Nat) (ha : Wd a) (la : a.length ≤ 100000000000) : AFun Tryd.prog J0 8 [.l 1 (W a)] (.t [.i .i64 (nsV (nv B a)), .i .i64 (nsE (nv B a))]) := by
  have hw := rword_spec a ha la
  generalize nv B a = u at *
  by_cases h1 : u < 18446744073709551616
  · rw [show wdW u = u from if_pos h1, show wdE u = 0 from if_pos h1] at hw
    by_cases h2 : u < 9223372036854775808
    · rw [show nsV u = u from if_pos h2, show nsE u = 0 from if_pos h2]
      have h3 : ¬ (9223372036854775808 : Int) ≤ (u : Int) := by omega
      refine AFun.mk fol J0s Tryd.func8 rfl (ac := a8) (by kernel_rfl) rfl rfl ?_
      apply vm_start
      unfold a8
      simp only [init_eq, initE]
      have zc7 := hw
      repeat first | (refine hK _ ?_; clear hK K) | simp only [Sv, ↓reduceIte, Nat.reduceEqDiff] | ((first | refine vm_reg (fun K hK => ?_) | refine vm_dreg (fun K hK => ?_) | refine vm_dregx (fun K hK => ?_) | refine clp_q ?_ | refine clq_mk (by assumption) ?_); simp (disch := (first | omega | assumption)) only [S1, ↓reduceIte, Nat.reduceEqDiff, Nat.reduceAdd, Nat.reduceMul, Nat.reduceDiv, AOp.sb, AOp.mut, ↓Bool.false_eq_true, beq_self_eq_true, ite_self, Nat.reduceLeDiff, Int.reduceEq, Int.reduceSub, Int.reduceAdd, Int.reduceNeg, Int.reduceLT, Int.reduceLE, Nat.reduceLT, bz_NB, List.length_nil, h3])
      simp (disch := (first | omega | assumption)) only [retOk, retN, ret1, retF, ret1F, V.okArg, and_true, true_and, S1, ↓reduceIte, Nat.reduceEqDiff, Nat.reduceAdd, Nat.reduceMul, Nat.reduceDiv, AOp.sb, AOp.mut, ↓Bool.false_eq_true, beq_self_eq_true, ite_self, Nat.reduceLeDiff, Int.reduceEq, Int.reduceSub, Int.reduceAdd, Int.reduceNeg, Int.reduceLT, Int.reduceLE, Nat.reduceLT, bz_NB, List.length_nil, h3]
    · rw [show nsV u = 0 from if_neg h2, show nsE u = 13 from if_neg h2]
      have h3 : (9223372036854775808 : Int) ≤ (u : Int) := by omega
      refine AFun.mk fol J0s Tryd.func8 rfl (ac := a8) (by kernel_rfl) rfl rfl ?_
      apply vm_start
      unfold a8
      simp only [init_eq, initE]
      have zc8 := hw
      repeat first | (refine hK _ ?_; clear hK K) | simp only [Sv, ↓reduceIte, Nat.reduceEqDiff] | ((first | refine vm_reg (fun K hK => ?_) | refine vm_dreg (fun K hK => ?_) | refine vm_dregx (fun K hK => ?_) | refine clp_q ?_ | refine clq_mk (by assumption) ?_); simp (disch := (first | omega | assumption)) only [S1, ↓reduceIte, Nat.reduceEqDiff, Nat.reduceAdd, Nat.reduceMul, Nat.reduceDiv, AOp.sb, AOp.mut, ↓Bool.false_eq_true, beq_self_eq_true, ite_self, Nat.reduceLeDiff, Int.reduceEq, Int.reduceSub, Int.reduceAdd, Int.reduceNeg, Int.reduceLT, Int.reduceLE, Nat.reduceLT, bz_NB, List.length_nil, h3])
      simp (disch := (first | omega | assumption)) only [retOk, retN, ret1, retF, ret1F, V.okArg, and_true, true_and, S1, ↓reduceIte, Nat.reduceEqDiff, Nat.reduceAdd, Nat.reduceMul, Nat.reduceDiv, AOp.sb, AOp.mut, ↓Bool.false_eq_true, beq_self_eq_true, ite_self, Nat.reduceLeDiff, Int.reduceEq, Int.reduceSub, Int.reduceAdd, Int.reduceNeg, Int.reduceLT, Int.reduceLE, Nat.reduceLT, bz_NB, List.length_nil, h3]
  · rw [show wdW u = 0 from if_neg h1, show wdE u = 13 from if_neg h1] at hw
    rw [show nsV u = 0 from if_neg (by omega), show nsE u = 13 from if_neg (by omega)]
    refine AFun.mk fol J0s Tryd.func8 rfl (ac := a8) (by kernel_rfl) rfl rfl ?_
    apply vm_start
    unfold a8
    simp only [init_eq, initE]
    have zc9 := hw
    repeat first | (refine hK _ ?_; clear hK K) | simp only [Sv, ↓reduceIte, Nat.reduceEqDiff] | ((first | refine vm_reg (fun K hK => ?_) | refine vm_dreg (fun K hK => ?_) | refine vm_dregx (fun K hK => ?_) | refine clp_q ?_ | refine clq_mk (by assumption) ?_); simp (disch := (first | omega | assumption)) only [S1, ↓reduceIte, Nat.reduceEqDiff, Nat.reduceAdd, Nat.reduceMul, Nat.reduceDiv, AOp.sb, AOp.mut, ↓Bool.false_eq_true, beq_self_eq_true, ite_self, Nat.reduceLeDiff, Int.reduceEq, Int.reduceSub, Int.reduceAdd, Int.reduceNeg, Int.reduceLT, Int.reduceLE, Nat.reduceLT, bz_NB, List.length_nil])
    simp (disch := (first | omega | assumption)) only [retOk, retN, ret1, retF, ret1F, V.okArg, and_true, true_and, S1, ↓reduceIte, Nat.reduceEqDiff, Nat.reduceAdd, Nat.reduceMul, Nat.reduceDiv, AOp.sb, AOp.mut, ↓Bool.false_eq_true, beq_self_eq_true, ite_self, Nat.reduceLeDiff, Int.reduceEq, Int.reduceSub, Int.reduceAdd, Int.reduceNeg, Int.reduceLT, Int.reduceLE, Nat.reduceLT, bz_NB, List.length_nil]

/-! ### bits -/
theorem and1' (x : Nat) (h : x < 18446744073709551616) : bits .and .u64 (x : Int) 1 = ((x % 2 : Nat) : Int) := by
  rw [show (1 : Int) = ((1 : Nat) : Int) from rfl, band64 x 1 h (by decide), Nat.and_one_is_mod]
def bitV (v : Nat) (i : Int) : Nat := if i < 0 then 0 else v / 2 ^ i.toNat % 2
theorem bitV_n (v i : Nat) : bitV v (i : Int) = v / 2 ^ i % 2 := if_neg (by omega)
theorem bitV_neg {v : Nat} {i : Int} (h : i < 0) : bitV v i = 0 := if_pos h
-- surd/limb.Bit
def a33 : AC := .seq (.reg [⟨some 4, none, .mv (.k (.i .u64 0))⟩, 
      ⟨some 5, none, .mv (.k (.i .i64 0))⟩])
  (.seq (.seq (.reg [⟨some 6, none, .mv (.t 1)⟩, 
        ⟨some 7, none, .bin .lss (.t 6) (.k (.i .i64 0))⟩])
    (.cond (.t 7)
    (.seq (.reg [⟨some 4, none, .mv (.k (.i .u64 0))⟩, 
          ⟨some 5, none, .mv (.k (.i .i64 3))⟩])
      (.ret))
    (.skip)))
  (.seq (.reg [⟨some 8, none, .mv (.t 0)⟩, 
      ⟨some 9, none, .mv (.t 1)⟩, 
      ⟨some 10, none, .bin .quo (.t 9) (.k (.i .i64 64))⟩, 
      ⟨some 11, none, .call 44 [(1, (.t 8)), (1, (.t 10))]⟩, 
      ⟨some 12, none, .mv (.t 1)⟩, 
      ⟨some 13, none, .bin .rem (.t 12) (.k (.i .i64 64))⟩, 
      ⟨some 14, none, .cvt .u64 (.t 13)⟩, 
      ⟨some 15, none, .bin .shr (.t 11) (.t 14)⟩, 
      ⟨some 16, none, .bin .and (.t 15) (.k (.i .u64 1))⟩, 
      ⟨some 4, none, .mv (.t 16)⟩, 
      ⟨some 5, none, .mv (.k (.i .i64 0))⟩])
  (.ret)))
theorem limbBit_spec (a : List Nat) (i : Nat) (ha : Wd a) (hi : i < 9223372036854775808) : AFun Tryd.prog J0 33 [.l 1 (W a), .i .i64 (i : Int)] (.t [.i .u64 ((nv B a / 2 ^ i % 2 : Nat) : Int), .i .i64 0]) := by
  have hat := at_spec a (i / 64)
  have hw := Wd_get ha (i / 64)
  have hd := nv_digit (b := B) (by decide) ha (i / 64)
  have e : a.getD (i / 64) 0 / 2 ^ (i % 64) % 2 = nv B a / 2 ^ i % 2 := by
    rw [hd, pow_split i, ← Nat.div_div_eq_div_mul]
    generalize nv B a / B ^ (i / 64) = x
    have h64 : i % 64 < 64 := Nat.mod_lt _ (by decide)
    rw [show B = 2 ^ (i % 64) * 2 ^ (64 - i % 64) from by rw [← Nat.pow_add, show i % 64 + (64 - i % 64) = 64 from by omega]; rfl, Nat.mod_mul_right_div_self]
    rw [show 2 ^ (64 - i % 64) = 2 * 2 ^ (63 - i % 64) from by rw [Nat.mul_comm, ← Nat.pow_succ]; congr 1; omega, Nat.mod_mul_right_mod]
  have hm : i % 64 ≤ 64 := by omega
  have hx : a.getD (i / 64) 0 / 2 ^ (i % 64) < 18446744073709551616 := Nat.lt_of_le_of_lt (Nat.div_le_self _ _) hw
  have ha1 := and1' _ hx
  have hsh := shr64 (a.getD (i / 64) 0) (i % 64) hm
  rw [← e]
  have h64 : ¬ (64 : Int) = 0 := by decide
  have hwm : IntKind.u64.wrap ((i % 64 : Nat) : Int) = ((i % 64 : Nat) : Int) := wu ⟨by omega, by omega⟩
  have hn0 : ¬ (i : Int) < 0 := by omega
  refine AFun.mk fol J0s Tryd.func33 rfl (ac := a33) (by kernel_rfl) rfl rfl ?_
  apply vm_start
  unfold a33
  simp only [init_eq, initE]
  have zc10 := hat
  repeat first | (refine hK _ ?_; clear hK K) | simp only [Sv, ↓reduceIte, Nat.reduceEqDiff] | ((first | refine vm_reg (fun K hK => ?_) | refine vm_dreg (fun K hK => ?_) | refine vm_dregx (fun K hK => ?_) | refine clp_q ?_ | refine clq_mk (by assumption) ?_); simp (disch := (first | omega | assumption)) only [S1, ↓reduceIte, Nat.reduceEqDiff, Nat.reduceAdd, Nat.reduceMul, Nat.reduceDiv, AOp.sb, AOp.mut, ↓Bool.false_eq_true, beq_self_eq_true, ite_self, Nat.reduceLeDiff, Int.reduceEq, Int.reduceSub, Int.reduceAdd, Int.reduceNeg, Int.reduceLT, Int.reduceLE, Nat.reduceLT, bz_NB, List.length_nil, hn0, h64, tdiv_64, tmod_64, hwm, tn_nat, hsh, ha1])
  simp (disch := (first | omega | assumption)) only [retOk, retN, ret1, retF, ret1F, V.okArg, and_true, true_and, S1, ↓reduceIte, Nat.reduceEqDiff, Nat.reduceAdd, Nat.reduceMul, Nat.reduceDiv, AOp.sb, AOp.mut, ↓Bool.false_eq_true, beq_self_eq_true, ite_self, Nat.reduceLeDiff, Int.reduceEq, Int.reduceSub, Int.reduceAdd, Int.reduceNeg, Int.reduceLT, Int.reduceLE, Nat.reduceLT, bz_NB, List.length_nil, hn0, h64, tdiv_64, tmod_64, hwm, tn_nat, hsh, ha1]
theorem limbBitN_spec (a : List Nat) (i : Int) (hi : i < 0) : AFun Tryd.prog J0 33 [.l 1 (W a), .i .i64 i] (.t [.i .u64 0, .i .i64 3]) := by
  refine AFun.mk fol J0s Tryd.func33 rfl (ac := a33) (by kernel_rfl) rfl rfl ?_
  apply vm_start
  unfold a33
  simp only [init_eq, initE]
  repeat first | (refine hK _ ?_; clear hK K) | simp only [Sv, ↓reduceIte, Nat.reduceEqDiff] | ((first | refine vm_reg (fun K hK => ?_) | refine vm_dreg (fun K hK => ?_) | refine vm_dregx (fun K hK => ?_)); simp (disch := (first | omega | assumption)) only [S1, ↓reduceIte, Nat.reduceEqDiff, Nat.reduceAdd, Nat.reduceMul, Nat.reduceDiv, AOp.sb, AOp.mut, ↓Bool.false_eq_true, beq_self_eq_true, ite_self, Nat.reduceLeDiff, Int.reduceEq, Int.reduceSub, Int.reduceAdd, Int.reduceNeg, Int.reduceLT, Int.reduceLE, Nat.reduceLT, bz_NB, List.length_nil, hi])
  simp (disch := (first | omega | assumption)) only [retOk, retN, ret1, retF, ret1F, V.okArg, and_true, true_and, S1, ↓reduceIte, Nat.reduceEqDiff, Nat.reduceAdd, Nat.reduceMul, Nat.reduceDiv, AOp.sb, AOp.mut, ↓Bool.false_eq_true, beq_self_eq_true, ite_self, Nat.reduceLeDiff, Int.reduceEq, Int.reduceSub, Int.reduceAdd, Int.reduceNeg, Int.reduceLT, Int.reduceLE, Nat.reduceLT, bz_NB, List.length_nil, hi]
-- surd/nat.Bit
def a18 : AC := .seq (.reg [⟨some 4, none, .mv (.k (.b false))⟩])
  (.seq (.reg [⟨some 8, none, .mv (.t 0)⟩, 
      ⟨some 9, none, .mv (.t 1)⟩, 
      ⟨some 10, none, .call 33 [(1, (.t 8)), (1, (.t 9))]⟩, 
      ⟨some 7, none, .mv (.t 10)⟩, 
      ⟨some 11, none, .ext (.t 7) 0⟩, 
      ⟨some 12, none, .ext (.t 7) 1⟩, 
      ⟨some 5, none, .mv (.t 11)⟩, 
      ⟨some 6, none, .mv (.t 12)⟩])
  (.seq (.reg [⟨some 13, none, .mv (.t 6)⟩, 
      ⟨some 14, none, .bin .eql (.t 13) (.k (.i .i64 0))⟩, 
      ⟨some 15, none, .mv (.t 14)⟩, 
      ⟨some 16, some (15, true), .mv (.t 5)⟩, 
      ⟨some 17, some (15, true), .bin .eql (.t 16) (.k (.i .u64 1))⟩, 
      ⟨some 18, none, .pick (.t 15) (.t 17) (.k (.b false))⟩, 
      ⟨some 4, none, .mv (.t 18)⟩])
  (.ret)))
theorem natBit_spec (a : List Nat) (i : Int) (ha : Wd a) (hi : i < 9223372036854775808) : AFun Tryd.prog J0 18 [.l 1 (W a), .i .i64 i] (.b (decide (bitV (nv B a) i = 1))) := by
  by_cases h0 : i < 0
  · have h := limbBitN_spec a i h0
    rw [bitV_neg h0]
    refine AFun.mk fol J0s Tryd.func18 rfl (ac := a18) (by kernel_rfl) rfl rfl ?_
    apply vm_start
    unfold a18
    simp only [init_eq, initE]
    have zc11 := h
    repeat first | (refine hK _ ?_; clear hK K) | simp only [Sv, ↓reduceIte, Nat.reduceEqDiff] | ((first | refine vm_reg (fun K hK => ?_) | refine vm_dreg (fun K hK => ?_) | refine vm_dregx (fun K hK => ?_) | refine clp_q ?_ | refine clq_mk (by assumption) ?_); simp (disch := (first | omega | assumption)) only [S1, ↓reduceIte, Nat.reduceEqDiff, Nat.reduceAdd, Nat.reduceMul, Nat.reduceDiv, AOp.sb, AOp.mut, ↓Bool.false_eq_true, beq_self_eq_true, ite_self, Nat.reduceLeDiff, Int.reduceEq, Int.reduceSub, Int.reduceAdd, Int.reduceNeg, Int.reduceLT, Int.reduceLE, Nat.reduceLT, bz_NB, List.length_nil])
    simp (disch := (first | omega | assumption)) only [retOk, retN, ret1, retF, ret1F, V.okArg, and_true, true_and, S1, ↓reduceIte, Nat.reduceEqDiff, Nat.reduceAdd, Nat.reduceMul, Nat.reduceDiv, AOp.sb, AOp.mut, ↓Bool.false_eq_true, beq_self_eq_true, ite_self, Nat.reduceLeDiff, Int.reduceEq, Int.reduceSub, Int.reduceAdd, Int.reduceNeg, Int.reduceLT, Int.reduceLE, Nat.reduceLT, bz_NB, List.length_nil]
  · obtain ⟨n, rfl⟩ : ∃ n : Nat, i = n := ⟨i.toNat, by omega⟩
    have h := limbBit_spec a n ha (by omega)
    rw [bitV_n]
    have e : (((nv B a / 2 ^ n % 2 : Nat) : Int) = 1) = (nv B a / 2 ^ n % 2 = 1) := propext (by omega)
    generalize nv B a / 2 ^ n % 2 = x at *
    refine AFun.mk fol J0s Tryd.func18 rfl (ac := a18) (by kernel_rfl) rfl rfl ?_
    apply vm_start
    unfold a18
    simp only [init_eq, initE]
    have zc12 := h
    repeat first | (refine hK _ ?_; clear hK K) | simp only [Sv, ↓reduceIte, Nat.reduceEqDiff] | ((first | refine vm_reg (fun K hK => ?_) | refine vm_dreg (fun K hK => ?_) | refine vm_dregx (fun K hK => ?_) | refine clp_q ?_ | refine clq_mk (by assumption) ?_); simp (disch := (first | omega | assumption)) only [S1, ↓reduceIte, Nat.reduceEqDiff, Nat.reduceAdd, Nat.reduceMul, Nat.reduceDiv, AOp.sb, AOp.mut, ↓Bool.false_eq_true, beq_self_eq_true, ite_self, Nat.reduceLeDiff, Int.reduceEq, Int.reduceSub, Int.reduceAdd, Int.reduceNeg, Int.reduceLT, Int.reduceLE, Nat.reduceLT, bz_NB, List.length_nil, e])
    simp (disch := (first | omega | assumption)) only [retOk, retN, ret1, retF, ret1F, V.okArg, and_true, true_and, S1, ↓reduceIte, Nat.reduceEqDiff, Nat.reduceAdd, Nat.reduceMul, Nat.reduceDiv, AOp.sb, AOp.mut, ↓Bool.false_eq_true, beq_self_eq_true, ite_self, Nat.reduceLeDiff, Int.reduceEq, Int.reduceSub, Int.reduceAdd, Int.reduceNeg, Int.reduceLT, Int.reduceLE, Nat.reduceLT, bz_NB, List.length_nil, e]
theorem dg2_get (v i : Nat) : (dg 2 v).getD i 0 = v / 2 ^ i % 2 := by
  have := nv_digit (b := 2) (by decide) (dg_Lt (by decide) v) i
  rw [nv_dg (by decide)] at this; exact this
theorem dg2_off {v i : Nat} (h : (dg 2 v).length ≤ i) : v / 2 ^ i % 2 = 0 := by
  rw [← dg2_get, List.getD_eq_getElem?_getD, List.getElem?_eq_none h]; rfl
-- surd/surdref02.Bit
def a19 : AC := .seq (.reg [⟨some 4, none, .mv (.k (.b false))⟩])
  (.seq (.reg [⟨some 6, none, .mv (.t 0)⟩, 
      ⟨some 7, none, .call 32 [(1, (.t 6))]⟩, 
      ⟨some 5, none, .mv (.t 7)⟩])
  (.seq (.reg [⟨some 8, none, .mv (.t 1)⟩, 
      ⟨some 9, none, .bin .geq (.t 8) (.k (.i .i64 0))⟩, 
      ⟨some 10, none, .mv (.t 9)⟩, 
      ⟨some 11, some (10, true), .mv (.t 1)⟩, 
      ⟨some 12, some (10, true), .mv (.t 5)⟩, 
      ⟨some 13, some (10, true), .len (.t 12)⟩, 
      ⟨some 14, some (10, true), .bin .lss (.t 11) (.t 13)⟩, 
      ⟨some 15, none, .pick (.t 10) (.t 14) (.k (.b false))⟩, 
      ⟨some 16, none, .mv (.t 15)⟩, 
      ⟨some 17, some (16, true), .mv (.t 5)⟩, 
      ⟨some 18, some (16, true), .mv (.t 1)⟩, 
      ⟨some 19, some (16, true), .idx 1 (.t 17) (.t 18)⟩, 
      ⟨some 20, some (16, true), .ld false 1 (.t 19)⟩, 
      ⟨some 21, none, .pick (.t 16) (.t 20) (.k (.b false))⟩, 
      ⟨some 4, none, .mv (.t 21)⟩])
  (.ret)))
theorem rbit_spec (a : List Nat) (i : Int) (ha : Wd a) (la : a.length ≤ 10000000000) : AFun Tryd.prog J0 19 [.l 1 (W a), .i .i64 i] (.b (decide (bitV (nv B a) i = 1))) := by
  have hr := row_spec a ha la
  by_cases h0 : i < 0
  · rw [bitV_neg h0]
    have h1 : ¬ (0 : Int) ≤ i := by omega
    refine AFun.mk fol J0s Tryd.func19 rfl (ac := a19) (by kernel_rfl) rfl rfl ?_
    apply vm_start
    unfold a19
    simp only [init_eq, initE]
    have zc13 := hr
    repeat first | (refine hK _ ?_; clear hK K) | simp only [Sv, ↓reduceIte, Nat.reduceEqDiff] | ((first | refine vm_reg (fun K hK => ?_) | refine vm_dreg (fun K hK => ?_) | refine vm_dregx (fun K hK => ?_) | refine clp_q ?_ | refine clq_mk (by assumption) ?_); simp (disch := (first | omega | assumption)) only [S1, ↓reduceIte, Nat.reduceEqDiff, Nat.reduceAdd, Nat.reduceMul, Nat.reduceDiv, AOp.sb, AOp.mut, ↓Bool.false_eq_true, beq_self_eq_true, ite_self, Nat.reduceLeDiff, Int.reduceEq, Int.reduceSub, Int.reduceAdd, Int.reduceNeg, Int.reduceLT, Int.reduceLE, Nat.reduceLT, bz_NB, List.length_nil, h1])
    simp (disch := (first | omega | assumption)) only [retOk, retN, ret1, retF, ret1F, V.okArg, and_true, true_and, S1, ↓reduceIte, Nat.reduceEqDiff, Nat.reduceAdd, Nat.reduceMul, Nat.reduceDiv, AOp.sb, AOp.mut, ↓Bool.false_eq_true, beq_self_eq_true, ite_self, Nat.reduceLeDiff, Int.reduceEq, Int.reduceSub, Int.reduceAdd, Int.reduceNeg, Int.reduceLT, Int.reduceLE, Nat.reduceLT, bz_NB, List.length_nil, h1]
  · obtain ⟨n, rfl⟩ : ∃ n : Nat, i = n := ⟨i.toNat, by omega⟩
    rw [bitV_n]
    have hg := dg2_get (nv B a) n
    have ho := @dg2_off (nv B a) n
    generalize nv B a / 2 ^ n % 2 = x at *
    generalize dg 2 (nv B a) = l at *
    have h1 : (0 : Int) ≤ (n : Int) := by omega
    by_cases h2 : (n : Int) < (l.length : Int)
    · refine AFun.mk fol J0s Tryd.func19 rfl (ac := a19) (by kernel_rfl) rfl rfl ?_
      apply vm_start
      unfold a19
      simp only [init_eq, initE]
      have zc14 := hr
      repeat first | (refine hK _ ?_; clear hK K) | simp only [Sv, ↓reduceIte, Nat.reduceEqDiff] | ((first | refine vm_reg (fun K hK => ?_) | refine vm_dreg (fun K hK => ?_) | refine vm_dregx (fun K hK => ?_) | refine clp_q ?_ | refine clq_mk (by assumption) ?_); simp (disch := (first | omega | assumption)) only [S1, ↓reduceIte, Nat.reduceEqDiff, Nat.reduceAdd, Nat.reduceMul, Nat.reduceDiv, AOp.sb, AOp.mut, ↓Bool.false_eq_true, beq_self_eq_true, ite_self, Nat.reduceLeDiff, Int.reduceEq, Int.reduceSub, Int.reduceAdd, Int.reduceNeg, Int.reduceLT, Int.reduceLE, Nat.reduceLT, bz_NB, List.length_nil, h1, h2, Bl_get, hg])
      simp (disch := (first | omega | assumption)) only [retOk, retN, ret1, retF, ret1F, V.okArg, and_true, true_and, S1, ↓reduceIte, Nat.reduceEqDiff, Nat.reduceAdd, Nat.reduceMul, Nat.reduceDiv, AOp.sb, AOp.mut, ↓Bool.false_eq_true, beq_self_eq_true, ite_self, Nat.reduceLeDiff, Int.reduceEq, Int.reduceSub, Int.reduceAdd, Int.reduceNeg, Int.reduceLT, Int.reduceLE, Nat.reduceLT, bz_NB, List.length_nil, h1, h2, Bl_get, hg]
    · rw [ho (by omega)]
      refine AFun.mk fol J0s Tryd.func19 rfl (ac := a19) (by kernel_rfl) rfl rfl ?_
      apply vm_start
      unfold a19
      simp only [init_eq, initE]
      have zc15 := hr
      repeat first | (refine hK _ ?_; clear hK K) | simp only [Sv, ↓reduceIte, Nat.reduceEqDiff] | ((first | refine vm_reg (fun K hK => ?_) | refine vm_dreg (fun K hK => ?_) | refine vm_dregx (fun K hK => ?_) | refine clp_q ?_ | refine clq_mk (by assumption) ?_); simp (disch := (first | omega | assumption)) only [S1, ↓reduceIte, Nat.reduceEqDiff, Nat.reduceAdd, Nat.reduceMul, Nat.reduceDiv, AOp.sb, AOp.mut, ↓Bool.false_eq_true, beq_self_eq_true, ite_self, Nat.reduceLeDiff, Int.reduceEq, Int.reduceSub, Int.reduceAdd, Int.reduceNeg, Int.reduceLT, Int.reduceLE, Nat.reduceLT, bz_NB, List.length_nil, h1, h2])
      simp (disch := (first | omega | assumption)) only [retOk, retN, ret1, retF, ret1F, V.okArg, and_true, true_and, S1, ↓reduceIte, Nat.reduceEqDiff, Nat.reduceAdd, Nat.reduceMul, Nat.reduceDiv, AOp.sb, AOp.mut, ↓Bool.false_eq_true, beq_self_eq_true, ite_self, Nat.reduceLeDiff, Int.reduceEq, Int.reduceSub, Int.reduceAdd, Int.reduceNeg, Int.reduceLT, Int.reduceLE, Nat.reduceLT, bz_NB, List.length_nil, h1, h2]
/-! ### how often 2 divides -/
-- surd/surdref02.Twos
def a21 : AC := .seq (.reg [⟨some 2, none, .mv (.k (.i .i64 0))⟩])
  (.seq (.reg [⟨some 5, none, .mv (.t 0)⟩, 
      ⟨some 6, none, .call 32 [(1, (.t 5))]⟩, 
      ⟨some 3, none, .mv (.t 6)⟩])
  (.seq (.seq (.reg [⟨some 4, none, .mv (.k (.i .i64 0))⟩])
    (.blk 0
    (.loop
      (.seq (.seq (.reg [⟨some 7, none, .mv (.t 4)⟩, 
              ⟨some 8, none, .mv (.t 3)⟩, 
              ⟨some 9, none, .len (.t 8)⟩, 
              ⟨some 10, none, .bin .lss (.t 7) (.t 9)⟩])
          (.cond (.t 10)
          (.skip)
          (.exit 0)))
        (.seq (.blk 1
          (.seq (.reg [⟨some 13, none, .mv (.t 3)⟩, 
                ⟨some 14, none, .mv (.t 4)⟩, 
                ⟨some 15, none, .idx 1 (.t 13) (.t 14)⟩, 
                ⟨some 16, none, .ld false 1 (.t 15)⟩])
            (.cond (.t 16)
            (.seq (.reg [⟨some 17, none, .mv (.t 4)⟩, 
                  ⟨some 2, none, .mv (.t 17)⟩])
              (.ret))
            (.skip))))
        (.reg [⟨some 11, none, .mv (.t 4)⟩, 
          ⟨some 12, none, .bin .add (.t 11) (.k (.i .i64 1))⟩, 
          ⟨some 4, none, .mv (.t 12)⟩]))))))
  (.seq (.reg [⟨some 2, none, .mv (.k (.i .i64 0))⟩])
  (.ret))))
theorem rtwos_spec (a : List Nat) (ha : Wd a) (la : a.length ≤ 10000000000) : AFun Tryd.prog J0 21 [.l 1 (W a)] (.i .i64 ((ct (nv B a) : Nat) : Int)) := by
  have hr := row_spec a ha la
  have hg := dg2_get (nv B a)
  have hz : dg 2 (nv B a) = [] → nv B a = 0 := (dg_nil (by decide)).1
  have htop : nv B a ≠ 0 → nv B a / 2 ^ ((dg 2 (nv B a)).length - 1) % 2 = 1 := fun h => by
    have h1 := nv_top (b := 2) (tz_dg' (nv B a)) (fun e => h (hz e))
    have h2 := nv_lt (dg_Lt (b := 2) (by decide) (nv B a))
    rw [nv_dg (by decide)] at h1 h2
    have h3 : 0 < (dg 2 (nv B a)).length := by
      rcases Nat.eq_zero_or_pos (dg 2 (nv B a)).length with h4 | h4
      · exact absurd (hz (List.eq_nil_of_length_eq_zero h4)) h
      · exact h4
    have h4 : nv B a / 2 ^ ((dg 2 (nv B a)).length - 1) < 2 := (Nat.div_lt_iff_lt_mul (Nat.pow_pos (by decide))).2 (by rw [← Nat.pow_succ', show ((dg 2 (nv B a)).length - 1).succ = (dg 2 (nv B a)).length from by omega]; exact h2)
    have h5 : 0 < nv B a / 2 ^ ((dg 2 (nv B a)).length - 1) := Nat.div_pos h1 (Nat.pow_pos (by decide))
    omega
  have hlen := dg2_len ha
  obtain ⟨l, hl⟩ : ∃ l, l = dg 2 (nv B a) := ⟨_, rfl⟩
  rw [← hl] at hr hg hz htop hlen
  obtain ⟨v, hv⟩ : ∃ v, v = nv B a := ⟨_, rfl⟩
  rw [← hv] at hg hz htop ⊢
  clear hv hl
  refine AFun.mk fol J0s Tryd.func21 rfl (ac := a21) (by kernel_rfl) rfl rfl ?_
  apply vm_start
  unfold a21
  simp only [init_eq, initE]
  have zc16 := hr
  repeat first | (refine hK _ ?_; clear hK K) | simp only [Sv, ↓reduceIte, Nat.reduceEqDiff] | ((first | refine vm_reg (fun K hK => ?_) | refine vm_dreg (fun K hK => ?_) | refine vm_dregx (fun K hK => ?_) | refine clp_q ?_ | refine clq_mk (by assumption) ?_); simp (disch := (first | omega | assumption)) only [S1, ↓reduceIte, Nat.reduceEqDiff, Nat.reduceAdd, Nat.reduceMul, Nat.reduceDiv, AOp.sb, AOp.mut, ↓Bool.false_eq_true, beq_self_eq_true, ite_self, Nat.reduceLeDiff, Int.reduceEq, Int.reduceSub, Int.reduceAdd, Int.reduceNeg, Int.reduceLT, Int.reduceLE, Nat.reduceLT, bz_NB, List.length_nil])
  refine vm_loopA [] Nat (fun i => ⟨[(3, .l 1 (Bl l)), (4, .i .i64 (i : Int))], [], 0⟩) (fun i => i ≤ l.length ∧ ∀ j, j < i → v / 2 ^ j % 2 = 0) (fun i => l.length - i) 0 ⟨Nat.zero_le _, fun j h => by omega⟩ (by simp (disch := (first | omega | assumption)) only [Sl, Sa, Sw, ↓reduceIte, Nat.reduceEqDiff, Nat.reduceLT, List.all_nil, List.all_cons, Nat.reduceBneDiff, Nat.reduceAdd, bne_iff_ne, ne_eq, reduceCtorEq, not_false_eq_true, not_true_eq_false, Bool.and_true, Bool.true_and, and_true, true_and, and_self]) (by
    simp (disch := (first | omega | assumption)) only [Sl, Sa, Sw, ↓reduceIte, Nat.reduceEqDiff, Nat.reduceLT, List.all_nil, List.all_cons, Nat.reduceBneDiff, Nat.reduceAdd, bne_iff_ne, ne_eq, reduceCtorEq, not_false_eq_true, not_true_eq_false, Bool.and_true, Bool.true_and, and_true, true_and, and_self, i_eq]
    try rfl) ?_
  intro i ⟨hi, hj⟩ Q' hQ he hrr
  by_cases h : (i : Int) < (l.length : Int)
  · have h2 := hg i
    by_cases h1 : v / 2 ^ i % 2 = 1
    · have e := ct_of h1 hj
      rw [h1] at h2
      repeat first
        | (refine hK _ ?_; clear hK K)
        | ((first | refine vm_reg (fun K hK => ?_) | refine vm_dreg (fun K hK => ?_) | refine vm_dregx (fun K hK => ?_)); simp (disch := (first | omega | assumption)) only [S1, ↓reduceIte, Nat.reduceEqDiff, Nat.reduceAdd, Nat.reduceMul, Nat.reduceDiv, AOp.sb, AOp.mut, ↓Bool.false_eq_true, beq_self_eq_true, ite_self, Nat.reduceLeDiff, Int.reduceEq, Int.reduceSub, Int.reduceAdd, Int.reduceNeg, Int.reduceLT, Int.reduceLE, Nat.reduceLT, bz_NB, List.length_nil, h, Bl_get, h2]; refine hK _ ?_; clear hK K)
        | simp only [Sv, ↓reduceIte, Nat.reduceEqDiff]
      refine hrr _ ?_
      repeat first | (refine hK _ ?_; clear hK K) | simp only [Sv, ↓reduceIte, Nat.reduceEqDiff] | ((first | refine vm_reg (fun K hK => ?_) | refine vm_dreg (fun K hK => ?_) | refine vm_dregx (fun K hK => ?_)); simp (disch := (first | omega | assumption)) only [S1, ↓reduceIte, Nat.reduceEqDiff, Nat.reduceAdd, Nat.reduceMul, Nat.reduceDiv, AOp.sb, AOp.mut, ↓Bool.false_eq_true, beq_self_eq_true, ite_self, Nat.reduceLeDiff, Int.reduceEq, Int.reduceSub, Int.reduceAdd, Int.reduceNeg, Int.reduceLT, Int.reduceLE, Nat.reduceLT, bz_NB, List.length_nil, e])
      simp (disch := (first | omega | assumption)) only [retOk, retN, ret1, retF, ret1F, V.okArg, and_true, true_and, S1, ↓reduceIte, Nat.reduceEqDiff, Nat.reduceAdd, Nat.reduceMul, Nat.reduceDiv, AOp.sb, AOp.mut, ↓Bool.false_eq_true, beq_self_eq_true, ite_self, Nat.reduceLeDiff, Int.reduceEq, Int.reduceSub, Int.reduceAdd, Int.reduceNeg, Int.reduceLT, Int.reduceLE, Nat.reduceLT, bz_NB, List.length_nil, e]
    · have h3 : ¬ l.getD i 0 = 1 := by rw [h2]; exact h1
      repeat first
        | (refine hK _ ?_; clear hK K)
        | ((first | refine vm_reg (fun K hK => ?_) | refine vm_dreg (fun K hK => ?_) | refine vm_dregx (fun K hK => ?_)); simp (disch := (first | omega | assumption)) only [S1, ↓reduceIte, Nat.reduceEqDiff, Nat.reduceAdd, Nat.reduceMul, Nat.reduceDiv, AOp.sb, AOp.mut, ↓Bool.false_eq_true, beq_self_eq_true, ite_self, Nat.reduceLeDiff, Int.reduceEq, Int.reduceSub, Int.reduceAdd, Int.reduceNeg, Int.reduceLT, Int.reduceLE, Nat.reduceLT, bz_NB, List.length_nil, h, Bl_get, h3]; refine hK _ ?_; clear hK K)
        | simp only [Sv, ↓reduceIte, Nat.reduceEqDiff]
      refine hQ _ (i + 1) ⟨by omega, fun j h4 => ?_⟩ (by omega) ?_
      · rcases Nat.lt_or_ge j i with h5 | h5
        · exact hj j h5
        · obtain rfl : j = i := by omega
          omega
      · simp (disch := (first | omega | assumption)) only [Sl, Sa, Sw, ↓reduceIte, Nat.reduceEqDiff, Nat.reduceLT, List.all_nil, List.all_cons, Nat.reduceBneDiff, Nat.reduceAdd, bne_iff_ne, ne_eq, reduceCtorEq, not_false_eq_true, not_true_eq_false, Bool.and_true, Bool.true_and, and_true, true_and, and_self, i_eq]
        omega
  · obtain rfl : i = l.length := by omega
    have h0 : v = 0 := by
      rcases Nat.eq_zero_or_pos v with h1 | h1
      · exact h1
      · have h2 := htop (by omega)
        have h3 : 0 < l.length := by
          rcases Nat.eq_zero_or_pos l.length with h4 | h4
          · exact absurd (hz (List.eq_nil_of_length_eq_zero h4)) (by omega)
          · exact h4
        have := hj (l.length - 1) (by omega)
        omega
    have e0 : ct v = 0 := by rw [h0]; exact ct_0
    repeat first
      | (refine hK _ ?_; clear hK K)
      | ((first | refine vm_reg (fun K hK => ?_) | refine vm_dreg (fun K hK => ?_) | refine vm_dregx (fun K hK => ?_)); simp (disch := (first | omega | assumption)) only [S1, ↓reduceIte, Nat.reduceEqDiff, Nat.reduceAdd, Nat.reduceMul, Nat.reduceDiv, AOp.sb, AOp.mut, ↓Bool.false_eq_true, beq_self_eq_true, ite_self, Nat.reduceLeDiff, Int.reduceEq, Int.reduceSub, Int.reduceAdd, Int.reduceNeg, Int.reduceLT, Int.reduceLE, Nat.reduceLT, bz_NB, List.length_nil, h]; refine hK _ ?_; clear hK K)
      | simp only [Sv, ↓reduceIte, Nat.reduceEqDiff]
    refine he _ _ ?_
    repeat first | (refine hK _ ?_; clear hK K) | simp only [Sv, ↓reduceIte, Nat.reduceEqDiff] | ((first | refine vm_reg (fun K hK => ?_) | refine vm_dreg (fun K hK => ?_) | refine vm_dregx (fun K hK => ?_)); simp (disch := (first | omega | assumption)) only [S1, ↓reduceIte, Nat.reduceEqDiff, Nat.reduceAdd, Nat.reduceMul, Nat.reduceDiv, AOp.sb, AOp.mut, ↓Bool.false_eq_true, beq_self_eq_true, ite_self, Nat.reduceLeDiff, Int.reduceEq, Int.reduceSub, Int.reduceAdd, Int.reduceNeg, Int.reduceLT, Int.reduceLE, Nat.reduceLT, bz_NB, List.length_nil, e0])
    simp (disch := (first | omega | assumption)) only [retOk, retN, ret1, retF, ret1F, V.okArg, and_true, true_and, S1, ↓reduceIte, Nat.reduceEqDiff, Nat.reduceAdd, Nat.reduceMul, Nat.reduceDiv, AOp.sb, AOp.mut, ↓Bool.false_eq_true, beq_self_eq_true, ite_self, Nat.reduceLeDiff, Int.reduceEq, Int.reduceSub, Int.reduceAdd, Int.reduceNeg, Int.reduceLT, Int.reduceLE, Nat.reduceLT, bz_NB, List.length_nil, e0]
-- math/bits.TrailingZeros64
def a45 : AC := .seq (.reg [⟨some 2, none, .mv (.k (.i .i64 0))⟩])
  (.seq (.seq (.reg [⟨some 3, none, .mv (.t 0)⟩, 
        ⟨some 4, none, .bin .eql (.t 3) (.k (.i .u64 0))⟩])
    (.cond (.t 4)
    (.seq (.reg [⟨some 2, none, .mv (.k (.i .i64 64))⟩])
      (.ret))
    (.skip)))
  (.seq (.reg [⟨some 5, none, .mv (.t 0)⟩, 
      ⟨some 6, none, .mv (.t 0)⟩, 
      ⟨some 7, none, .un .neg (.t 6)⟩, 
      ⟨some 8, none, .bin .and (.t 5) (.t 7)⟩, 
      ⟨some 9, none, .bin .mul (.t 8) (.k (.i .u64 285870213051353865))⟩, 
      ⟨some 10, none, .bin .shr (.t 9) (.k (.i .u64 58))⟩, 
      ⟨some 11, none, .aix 64 1 (.k (.ip tab_0 0)) (.t 10)⟩, 
      ⟨some 12, none, .ld false 1 (.t 11)⟩, 
      ⟨some 13, none, .cvt .i64 (.t 12)⟩, 
      ⟨some 2, none, .mv (.t 13)⟩])
  (.ret)))
theorem tab_ct0 : ∀ k : Nat, k < 64 → (match tab_0.getD (2 ^ k * 285870213051353865 % 18446744073709551616 / 2 ^ 58) .un with | .i .u8 n => decide (n = (k : Int)) | _ => false) = true := by decide +kernel
theorem tab_ct (k : Nat) (hk : k < 64) : tab_0.getD (2 ^ k * 285870213051353865 % 18446744073709551616 / 2 ^ 58) .un = .i .u8 (k : Int) := by
  have h := tab_ct0 k hk
  generalize tab_0.getD (2 ^ k * 285870213051353865 % 18446744073709551616 / 2 ^ 58) .un = v at h ⊢
  split at h
  · rw [of_decide_eq_true h]
  · cases h
theorem trail_spec (x : Nat) (hx : x < 18446744073709551616) (h0 : x ≠ 0) : AFun Tryd.prog J0 45 [.i .u64 (x : Int)] (.i .i64 ((ct x : Nat) : Int)) := by
  have hl := ct_lt (n := 64) hx h0
  have ht := tab_ct (ct x) hl
  have h1 : ¬ ((x : Int) = 0) := by omega
  have hn : IntKind.u64.wrap (0 - (x : Int)) = ((18446744073709551616 - x : Nat) : Int) := by rw [IntKind.wrap_u64]; omega
  have ha : bits .and .u64 (x : Int) ((18446744073709551616 - x : Nat) : Int) = ((2 ^ ct x : Nat) : Int) := by rw [band64 _ _ hx (by omega), low_bit h0 hx]
  have hm : IntKind.u64.wrap (((2 ^ ct x : Nat) : Int) * 285870213051353865) = ((2 ^ ct x * 285870213051353865 % 18446744073709551616 : Nat) : Int) := by
    rw [IntKind.wrap_u64]; omega
  have hs := shr64 (2 ^ ct x * 285870213051353865 % 18446744073709551616) 58 (by decide)
  have hs2 : 2 ^ ct x * 285870213051353865 % 18446744073709551616 / 2 ^ 58 < 64 := (Nat.div_lt_iff_lt_mul (by decide)).2 (Nat.mod_lt _ (by decide))
  have hc : IntKind.i64.wrap ((ct x : Nat) : Int) = ((ct x : Nat) : Int) := wi ⟨by omega, by omega⟩
  have htl : tab_0.length = 64 := rfl
  generalize 2 ^ ct x * 285870213051353865 % 18446744073709551616 = y at *
  generalize y / 2 ^ 58 = z at *
  replace hs : ((y : Nat) : Int).fdiv (2 ^ min (Int.toNat 58) IntKind.u64.bits) = ((z : Nat) : Int) := hs
  refine AFun.mk fol J0s Tryd.func45 rfl (ac := a45) (by kernel_rfl) rfl rfl ?_
  apply vm_start
  unfold a45
  simp only [init_eq, initE]
  repeat first | (refine hK _ ?_; clear hK K) | simp only [Sv, ↓reduceIte, Nat.reduceEqDiff] | ((first | refine vm_reg (fun K hK => ?_) | refine vm_dreg (fun K hK => ?_) | refine vm_dregx (fun K hK => ?_)); simp (disch := (first | omega | assumption)) only [S1, ↓reduceIte, Nat.reduceEqDiff, Nat.reduceAdd, Nat.reduceMul, Nat.reduceDiv, AOp.sb, AOp.mut, ↓Bool.false_eq_true, beq_self_eq_true, ite_self, Nat.reduceLeDiff, Int.reduceEq, Int.reduceSub, Int.reduceAdd, Int.reduceNeg, Int.reduceLT, Int.reduceLE, Nat.reduceLT, bz_NB, List.length_nil, h1, hn, ha, hm, hs, ht, htl, hc, Nat.zero_add])
  simp (disch := (first | omega | assumption)) only [retOk, retN, ret1, retF, ret1F, V.okArg, and_true, true_and, S1, ↓reduceIte, Nat.reduceEqDiff, Nat.reduceAdd, Nat.reduceMul, Nat.reduceDiv, AOp.sb, AOp.mut, ↓Bool.false_eq_true, beq_self_eq_true, ite_self, Nat.reduceLeDiff, Int.reduceEq, Int.reduceSub, Int.reduceAdd, Int.reduceNeg, Int.reduceLT, Int.reduceLE, Nat.reduceLT, bz_NB, List.length_nil, h1, hn, ha, hm, hs, ht, htl, hc, Nat.zero_add]
-- surd/limb.Zeros
def a34 : AC := .seq (.reg [⟨some 2, none, .mv (.k (.i .i64 0))⟩])
  (.seq (.seq (.reg [⟨some 5, none, .mv (.t 0)⟩, 
        ⟨some 6, none, .len (.t 5)⟩, 
        ⟨some 7, none, .mv (.k (.i .i64 0))⟩])
    (.blk 0
    (.loop
      (.seq (.reg [⟨some 8, none, .bin .lss (.t 7) (.t 6)⟩])
        (.seq (.cond (.t 8)
          (.skip)
          (.exit 0))
        (.seq (.blk 1
          (.seq (.reg [⟨some 9, none, .mv (.t 7)⟩, 
                ⟨some 10, none, .idx 1 (.t 5) (.t 7)⟩, 
                ⟨some 11, none, .ld false 1 (.t 10)⟩, 
                ⟨some 3, none, .mv (.t 9)⟩, 
                ⟨some 4, none, .mv (.t 11)⟩])
            (.seq (.reg [⟨some 12, none, .mv (.t 4)⟩, 
                ⟨some 13, none, .bin .neq (.t 12) (.k (.i .u64 0))⟩])
            (.cond (.t 13)
            (.seq (.reg [⟨some 14, none, .mv (.t 3)⟩, 
                  ⟨some 15, none, .bin .mul (.t 14) (.k (.i .i64 64))⟩, 
                  ⟨some 16, none, .mv (.t 4)⟩, 
                  ⟨some 17, none, .call 45 [(1, (.t 16))]⟩, 
                  ⟨some 18, none, .bin .add (.t 15) (.t 17)⟩, 
                  ⟨some 2, none, .mv (.t 18)⟩])
              (.ret))
            (.skip)))))
        (.reg [⟨some 19, none, .bin .add (.t 7) (.k (.i .i64 1))⟩, 
          ⟨some 7, none, .mv (.t 19)⟩])))))))
  (.seq (.reg [⟨some 2, none, .mv (.k (.i .i64 0))⟩])
  (.ret)))
theorem limbZeros_spec (a : List Nat) (ha : Wd a) (la : a.length ≤ 10000000000) : AFun Tryd.prog J0 34 [.l 1 (W a)] (.i .i64 ((ct (nv B a) : Nat) : Int)) := by
  obtain ⟨v, hv⟩ : ∃ v, v = nv B a := ⟨_, rfl⟩
  rw [← hv]
  refine AFun.mk fol J0s Tryd.func34 rfl (ac := a34) (by kernel_rfl) rfl rfl ?_
  apply vm_start
  unfold a34
  simp only [init_eq, initE]
  repeat first
    | (refine hK _ ?_; clear hK K)
    | ((first | refine vm_reg (fun K hK => ?_) | refine vm_dreg (fun K hK => ?_) | refine vm_dregx (fun K hK => ?_)); simp (disch := (first | omega | assumption)) only [S1, ↓reduceIte, Nat.reduceEqDiff, Nat.reduceAdd, Nat.reduceMul, Nat.reduceDiv, AOp.sb, AOp.mut, ↓Bool.false_eq_true, beq_self_eq_true, ite_self, Nat.reduceLeDiff, Int.reduceEq, Int.reduceSub, Int.reduceAdd, Int.reduceNeg, Int.reduceLT, Int.reduceLE, Nat.reduceLT, bz_NB, List.length_nil]; refine hK _ ?_; clear hK K)
    | simp only [Sv, ↓reduceIte, Nat.reduceEqDiff]
  refine vm_loopA [] Nat (fun i => ⟨[(5, .l 1 (W a)), (6, .i .i64 (a.length : Int)), (7, .i .i64 (i : Int))], [], 0⟩) (fun i => i ≤ a.length ∧ nv B (a.take i) = 0) (fun i => a.length - i) 0 ⟨Nat.zero_le _, by rw [List.take_zero]; rfl⟩ (by simp (disch := (first | omega | assumption)) only [Sl, Sa, Sw, ↓reduceIte, Nat.reduceEqDiff, Nat.reduceLT, List.all_nil, List.all_cons, Nat.reduceBneDiff, Nat.reduceAdd, bne_iff_ne, ne_eq, reduceCtorEq, not_false_eq_true, not_true_eq_false, Bool.and_true, Bool.true_and, and_true, true_and, and_self]) (by
    simp (disch := (first | omega | assumption)) only [Sl, Sa, Sw, ↓reduceIte, Nat.reduceEqDiff, Nat.reduceLT, List.all_nil, List.all_cons, Nat.reduceBneDiff, Nat.reduceAdd, bne_iff_ne, ne_eq, reduceCtorEq, not_false_eq_true, not_true_eq_false, Bool.and_true, Bool.true_and, and_true, true_and, and_self, i_eq]
    try rfl) ?_
  intro i ⟨hi, hj⟩ Q' hQ he hrr
  by_cases h : (i : Int) < (a.length : Int)
  · have hw := Wd_get ha i
    by_cases h1 : a.getD i 0 = 0
    · have h2 : (((a.getD i 0 : Nat) : Int) = 0) = True := eq_true (by rw [h1]; rfl)
      repeat first
        | (refine hK _ ?_; clear hK K)
        | ((first | refine vm_reg (fun K hK => ?_) | refine vm_dreg (fun K hK => ?_) | refine vm_dregx (fun K hK => ?_)); simp (disch := (first | omega | assumption)) only [S1, ↓reduceIte, Nat.reduceEqDiff, Nat.reduceAdd, Nat.reduceMul, Nat.reduceDiv, AOp.sb, AOp.mut, ↓Bool.false_eq_true, beq_self_eq_true, ite_self, Nat.reduceLeDiff, Int.reduceEq, Int.reduceSub, Int.reduceAdd, Int.reduceNeg, Int.reduceLT, Int.reduceLE, Nat.reduceLT, bz_NB, List.length_nil, h, h2]; refine hK _ ?_; clear hK K)
        | simp only [Sv, ↓reduceIte, Nat.reduceEqDiff]
      refine hQ _ (i + 1) ⟨by omega, ?_⟩ (by omega) ?_
      · rw [nv_take_succ', hj, h1]; simp
      · simp (disch := (first | omega | assumption)) only [Sl, Sa, Sw, ↓reduceIte, Nat.reduceEqDiff, Nat.reduceLT, List.all_nil, List.all_cons, Nat.reduceBneDiff, Nat.reduceAdd, bne_iff_ne, ne_eq, reduceCtorEq, not_false_eq_true, not_true_eq_false, Bool.and_true, Bool.true_and, and_true, true_and, and_self, i_eq]
        omega
    · have h2 : ¬ (((a.getD i 0 : Nat) : Int) = 0) := by omega
      have ht := trail_spec (a.getD i 0) hw h1
      have hl := ct_lt (n := 64) hw h1
      have e : ct v = 64 * i + ct (a.getD i 0) := by
        have h3 := nv_div (b := B) (by decide) ha i
        have h4 : v = B ^ i * nv B (a.drop i) := by
          have h5 := nv_app (b := B) (a.take i) (a.drop i)
          rw [List.take_append_drop, hj, List.length_take, Nat.min_eq_left hi, Nat.zero_add, ← hv] at h5
          exact h5
        have h6 : nv B (a.drop i) = a.getD i 0 + 2 ^ 64 * nv B (a.drop (i + 1)) := by
          rw [List.drop_eq_getElem_cons (by omega : i < a.length)]
          show a[i] + B * _ = _
          rw [List.getD_eq_getElem?_getD, List.getElem?_eq_getElem (by omega)]; rfl
        have h7 : B ^ i = 2 ^ (64 * i) := by rw [B64, ← Nat.pow_mul]
        rw [h4, h7, ct_shift (by rw [h6]; omega), h6, ct_add h1 hw]
      have e2 : (((i : Int) * 64) + ((ct (a.getD i 0) : Nat) : Int)) = ((ct v : Nat) : Int) := by rw [e]; omega
      repeat first
        | (refine hK _ ?_; clear hK K)
        | ((first | refine vm_reg (fun K hK => ?_) | refine vm_dreg (fun K hK => ?_) | refine vm_dregx (fun K hK => ?_)); simp (disch := (first | omega | assumption)) only [S1, ↓reduceIte, Nat.reduceEqDiff, Nat.reduceAdd, Nat.reduceMul, Nat.reduceDiv, AOp.sb, AOp.mut, ↓Bool.false_eq_true, beq_self_eq_true, ite_self, Nat.reduceLeDiff, Int.reduceEq, Int.reduceSub, Int.reduceAdd, Int.reduceNeg, Int.reduceLT, Int.reduceLE, Nat.reduceLT, bz_NB, List.length_nil, h, h2]; refine hK _ ?_; clear hK K)
        | simp only [Sv, ↓reduceIte, Nat.reduceEqDiff]
      have zc17 := ht
      repeat first | (refine hK _ ?_; clear hK K) | simp only [Sv, ↓reduceIte, Nat.reduceEqDiff] | ((first | refine vm_reg (fun K hK => ?_) | refine vm_dreg (fun K hK => ?_) | refine vm_dregx (fun K hK => ?_) | refine clp_q ?_ | refine clq_mk (by assumption) ?_); simp (disch := (first | omega | assumption)) only [S1, ↓reduceIte, Nat.reduceEqDiff, Nat.reduceAdd, Nat.reduceMul, Nat.reduceDiv, AOp.sb, AOp.mut, ↓Bool.false_eq_true, beq_self_eq_true, ite_self, Nat.reduceLeDiff, Int.reduceEq, Int.reduceSub, Int.reduceAdd, Int.reduceNeg, Int.reduceLT, Int.reduceLE, Nat.reduceLT, bz_NB, List.length_nil, h, h2])
      refine hrr _ ?_
      repeat first | (refine hK _ ?_; clear hK K) | simp only [Sv, ↓reduceIte, Nat.reduceEqDiff] | ((first | refine vm_reg (fun K hK => ?_) | refine vm_dreg (fun K hK => ?_) | refine vm_dregx (fun K hK => ?_)); simp (disch := (first | omega | assumption)) only [S1, ↓reduceIte, Nat.reduceEqDiff, Nat.reduceAdd, Nat.reduceMul, Nat.reduceDiv, AOp.sb, AOp.mut, ↓Bool.false_eq_true, beq_self_eq_true, ite_self, Nat.reduceLeDiff, Int.reduceEq, Int.reduceSub, Int.reduceAdd, Int.reduceNeg, Int.reduceLT, Int.reduceLE, Nat.reduceLT, bz_NB, List.length_nil, e2])
      simp (disch := (first | omega | assumption)) only [retOk, retN, ret1, retF, ret1F, V.okArg, and_true, true_and, S1, ↓reduceIte, Nat.reduceEqDiff, Nat.reduceAdd, Nat.reduceMul, Nat.reduceDiv, AOp.sb, AOp.mut, ↓Bool.false_eq_true, beq_self_eq_true, ite_self, Nat.reduceLeDiff, Int.reduceEq, Int.reduceSub, Int.reduceAdd, Int.reduceNeg, Int.reduceLT, Int.reduceLE, Nat.reduceLT, bz_NB, List.length_nil, e2]
  · obtain rfl : i = a.length := by omega
    rw [List.take_length, ← hv] at hj
    have e0 : ct v = 0 := by rw [hj]; exact ct_0
    repeat first
      | (refine hK _ ?_; clear hK K)
      | ((first | refine vm_reg (fun K hK => ?_) | refine vm_dreg (fun K hK => ?_) | refine vm_dregx (fun K hK => ?_)); simp (disch := (first | omega | assumption)) only [S1, ↓reduceIte, Nat.reduceEqDiff, Nat.reduceAdd, Nat.reduceMul, Nat.reduceDiv, AOp.sb, AOp.mut, ↓Bool.false_eq_true, beq_self_eq_true, ite_self, Nat.reduceLeDiff, Int.reduceEq, Int.reduceSub, Int.reduceAdd, Int.reduceNeg, Int.reduceLT, Int.reduceLE, Nat.reduceLT, bz_NB, List.length_nil, h]; refine hK _ ?_; clear hK K)
      | simp only [Sv, ↓reduceIte, Nat.reduceEqDiff]
    refine he _ _ ?_
    repeat first | (refine hK _ ?_; clear hK K) | simp only [Sv, ↓reduceIte, Nat.reduceEqDiff] | ((first | refine vm_reg (fun K hK => ?_) | refine vm_dreg (fun K hK => ?_) | refine vm_dregx (fun K hK => ?_)); simp (disch := (first | omega | assumption)) only [S1, ↓reduceIte, Nat.reduceEqDiff, Nat.reduceAdd, Nat.reduceMul, Nat.reduceDiv, AOp.sb, AOp.mut, ↓Bool.false_eq_true, beq_self_eq_true, ite_self, Nat.reduceLeDiff, Int.reduceEq, Int.reduceSub, Int.reduceAdd, Int.reduceNeg, Int.reduceLT, Int.reduceLE, Nat.reduceLT, bz_NB, List.length_nil, e0])
    simp (disch := (first | omega | assumption)) only [retOk, retN, ret1, retF, ret1F, V.okArg, and_true, true_and, S1, ↓reduceIte, Nat.reduceEqDiff, Nat.reduceAdd, Nat.reduceMul, Nat.reduceDiv, AOp.sb, AOp.mut, ↓Bool.false_eq_true, beq_self_eq_true, ite_self, Nat.reduceLeDiff, Int.reduceEq, Int.reduceSub, Int.reduceAdd, Int.reduceNeg, Int.reduceLT, Int.reduceLE, Nat.reduceLT, bz_NB, List.length_nil, e0]
-- surd/nat.Twos
def a20 : AC := .seq (.reg [⟨some 2, none, .mv (.k (.i .i64 0))⟩])
  (.seq (.reg [⟨some 3, none, .mv (.t 0)⟩, 
      ⟨some 4, none, .call 34 [(1, (.t 3))]⟩, 
      ⟨some 2, none, .mv (.t 4)⟩])
  (.ret))
theorem twos_spec (a : List Nat) (ha : Wd a) (la : a.length ≤ 10000000000) : AFun Tryd.prog J0 20 [.l 1 (W a)] (.i .i64 ((ct (nv B a) : Nat) : Int)) := by
  have h := limbZeros_spec a ha la
  refine AFun.mk fol J0s Tryd.func20 rfl (ac := a20) (by kernel_rfl) rfl rfl ?_
  apply vm_start
  unfold a20
  simp only [init_eq, initE]
  have zc18 := h
  repeat first | (refine hK _ ?_; clear hK K) | simp only [Sv, ↓reduceIte, Nat.reduceEqDiff] | ((first | refine vm_reg (fun K hK => ?_) | refine vm_dreg (fun K hK => ?_) | refine vm_dregx (fun K hK => ?_) | refine clp_q ?_ | refine clq_mk (by assumption) ?_); simp (disch := (first | omega | assumption)) only [S1, ↓reduceIte, Nat.reduceEqDiff, Nat.reduceAdd, Nat.reduceMul, Nat.reduceDiv, AOp.sb, AOp.mut, ↓Bool.false_eq_true, beq_self_eq_true, ite_self, Nat.reduceLeDiff, Int.reduceEq, Int.reduceSub, Int.reduceAdd, Int.reduceNeg, Int.reduceLT, Int.reduceLE, Nat.reduceLT, bz_NB, List.length_nil])
  simp (disch := (first | omega | assumption)) only [retOk, retN, ret1, retF, ret1F, V.okArg, and_true, true_and, S1, ↓reduceIte, Nat.reduceEqDiff, Nat.reduceAdd, Nat.reduceMul, Nat.reduceDiv, AOp.sb, AOp.mut, ↓Bool.false_eq_true, beq_self_eq_true, ite_self, Nat.reduceLeDiff, Int.reduceEq, Int.reduceSub, Int.reduceAdd, Int.reduceNeg, Int.reduceLT, Int.reduceLE, Nat.reduceLT, bz_NB, List.length_nil]
end Go.Proofs.YtjcmhoiabakclaaDoor
