/-
  zz, surdref07: plain ints, forms, bits.
-/
import Derived.Test.YtfkldohgiifgbaaZ4
import Derived.Test.YtfkldohgiifgbaaZb
namespace Go.Proofs.Ytfkldohgiifgbaa
open Go Go.RowKit Ab
set_option linter.unusedSimpArgs false
set_option linter.unusedVariables false
set_option maxHeartbeats 10000000
theorem bz_Z6 : type_of% (And.intro @Bool.false_and (And.intro @Bool.true_and (And.intro @wi (And.intro @tn_nat (And.intro @Nat.div_one (And.intro @Nat.mul_one (And.intro @W_len (And.intro @W_nf (And.intro @W_cell (And.intro @W_nil (And.intro @W_get (@nf_g)))))))))))) := And.intro @Bool.false_and (And.intro @Bool.true_and (And.intro @wi (And.intro @tn_nat (And.intro @Nat.div_one (And.intro @Nat.mul_one (And.intro @W_len (And.intro @W_nf (And.intro @W_cell (And.intro @W_nil (And.intro @W_get (@nf_g)))))))))))

/-- as a plain int, the code -/
def smV (z : Int) : Int := if -9223372036854775808 ≤ z ∧ z ≤ 9223372036854775807 then z else 0
def smE (z : Int) : Int := if -9223372036854775808 ≤ z ∧ z ≤ 9223372036854775807 then 0 else 13
-- surd/nat.Word
def a94 : AC := .seq (.reg [⟨some 2, none, .mv (.k (.i .u64 0))⟩, 
      ⟨some 3, none, .mv (.k (.i .i64 0))⟩])
  (.seq (.reg [⟨some 5, none, .mv (.t 0)⟩, 
      ⟨some 6, none, .call 113 [(1, (.t 5))]⟩, 
      ⟨some 4, none, .mv (.t 6)⟩])
  (.seq (.seq (.reg [⟨some 7, none, .mv (.t 4)⟩, 
        ⟨some 8, none, .len (.t 7)⟩])
    (.blk 0
    (.seq (.reg [⟨some 10, none, .bin .eql (.t 8) (.k (.i .i64 0))⟩, 
          ⟨some 9, none, .mv (.t 10)⟩])
      (.cond (.t 9)
      (.seq (.reg [⟨some 2, none, .mv (.k (.i .u64 0))⟩, 
            ⟨some 3, none, .mv (.k (.i .i64 0))⟩])
        (.ret))
      (.seq (.reg [⟨some 12, none, .bin .eql (.t 8) (.k (.i .i64 1))⟩, 
            ⟨some 11, none, .mv (.t 12)⟩])
        (.cond (.t 11)
        (.seq (.reg [⟨some 13, none, .mv (.t 4)⟩, 
              ⟨some 14, none, .idx 1 (.t 13) (.k (.i .i64 0))⟩, 
              ⟨some 15, none, .ld false 1 (.t 14)⟩, 
              ⟨some 2, none, .mv (.t 15)⟩, 
              ⟨some 3, none, .mv (.k (.i .i64 0))⟩])
          (.ret))
        (.skip)))))))
  (.seq (.reg [⟨some 2, none, .mv (.k (.i .u64 0))⟩, 
      ⟨some 3, none, .mv (.k (.i .i64 13))⟩])
  (.ret))))
theorem nword_spec (a : List Nat) (ha : Wd a) (la : a.length ≤ 100000000000) :
    AFun Try.prog J0 94 [.l 1 (W a)] (.t [.i .u64 ((wdW (nv B a) : Nat) : Int), .i .i64 (wdE (nv B a))]) := by
  have hn := trim_spec a (by omega)
  rw [tz_dg B2 ha] at hn
  generalize nv B a = u at *
  refine AFun.mk fol J0s Try.func94 rfl (ac := a94) (by kernel_rfl) rfl rfl ?_
  apply vm_start
  unfold a94
  simp only [init_eq, initE]
  by_cases h0 : u = 0
  · subst h0
    rw [dg_zero] at hn
    have z1 : wdW 0 = 0 := rfl
    have z2 : wdE 0 = 0 := rfl
    have zc1 := hn
    repeat first | (refine hK _ ?_; clear hK K) | simp only [Sv, ↓reduceIte, Nat.reduceEqDiff] | ((first | refine vm_reg (fun K hK => ?_) | refine vm_dreg (fun K hK => ?_) | refine clp_q ?_ | refine clq_mk (by assumption) ?_); simp (disch := (first | omega | assumption)) only [S1, ↓reduceIte, Nat.reduceEqDiff, Nat.reduceAdd, Nat.reduceMul, Nat.reduceDiv, AOp.sb, AOp.mut, ↓Bool.false_eq_true, beq_self_eq_true, ite_self, Nat.reduceLeDiff, Int.reduceEq, Int.reduceSub, Int.reduceAdd, Int.reduceNeg, Int.reduceLT, Int.reduceLE, Nat.reduceLT, bz_Z6, List.length_nil, z1, z2])
    simp (disch := (first | omega | assumption)) only [retOk, retN, ret1, retF, ret1F, V.okArg, and_true, true_and, S1, ↓reduceIte, Nat.reduceEqDiff, Nat.reduceAdd, Nat.reduceMul, Nat.reduceDiv, AOp.sb, AOp.mut, ↓Bool.false_eq_true, beq_self_eq_true, ite_self, Nat.reduceLeDiff, Int.reduceEq, Int.reduceSub, Int.reduceAdd, Int.reduceNeg, Int.reduceLT, Int.reduceLE, Nat.reduceLT, bz_Z6, List.length_nil, z1, z2]
  · by_cases h1 : u < 18446744073709551616
    · rw [dg_one (by omega) h1] at hn
      rw [show wdW u = u from if_pos h1, show wdE u = 0 from if_pos h1]
      have zc2 := hn
      repeat first | (refine hK _ ?_; clear hK K) | simp only [Sv, ↓reduceIte, Nat.reduceEqDiff] | ((first | refine vm_reg (fun K hK => ?_) | refine vm_dreg (fun K hK => ?_) | refine clp_q ?_ | refine clq_mk (by assumption) ?_); simp (disch := (first | omega | assumption)) only [S1, ↓reduceIte, Nat.reduceEqDiff, Nat.reduceAdd, Nat.reduceMul, Nat.reduceDiv, AOp.sb, AOp.mut, ↓Bool.false_eq_true, beq_self_eq_true, ite_self, Nat.reduceLeDiff, Int.reduceEq, Int.reduceSub, Int.reduceAdd, Int.reduceNeg, Int.reduceLT, Int.reduceLE, Nat.reduceLT, bz_Z6, List.length_nil, List.length_cons, W1, Int.toNat_zero, getD_z])
      simp (disch := (first | omega | assumption)) only [retOk, retN, ret1, retF, ret1F, V.okArg, and_true, true_and, S1, ↓reduceIte, Nat.reduceEqDiff, Nat.reduceAdd, Nat.reduceMul, Nat.reduceDiv, AOp.sb, AOp.mut, ↓Bool.false_eq_true, beq_self_eq_true, ite_self, Nat.reduceLeDiff, Int.reduceEq, Int.reduceSub, Int.reduceAdd, Int.reduceNeg, Int.reduceLT, Int.reduceLE, Nat.reduceLT, bz_Z6, List.length_nil, List.length_cons, W1, Int.toNat_zero, getD_z]
    · have hl := dg_big h1
      have hl2 : ¬ ((dg B u).length : Int) = 0 := by omega
      have hl3 : ¬ ((dg B u).length : Int) = 1 := by omega
      rw [show wdW u = 0 from if_neg h1, show wdE u = 13 from if_neg h1]
      have zc3 := hn
      repeat first | (refine hK _ ?_; clear hK K) | simp only [Sv, ↓reduceIte, Nat.reduceEqDiff] | ((first | refine vm_reg (fun K hK => ?_) | refine vm_dreg (fun K hK => ?_) | refine clp_q ?_ | refine clq_mk (by assumption) ?_); simp (disch := (first | omega | assumption)) only [S1, ↓reduceIte, Nat.reduceEqDiff, Nat.reduceAdd, Nat.reduceMul, Nat.reduceDiv, AOp.sb, AOp.mut, ↓Bool.false_eq_true, beq_self_eq_true, ite_self, Nat.reduceLeDiff, Int.reduceEq, Int.reduceSub, Int.reduceAdd, Int.reduceNeg, Int.reduceLT, Int.reduceLE, Nat.reduceLT, bz_Z6, List.length_nil, hl2, hl3])
      simp (disch := (first | omega | assumption)) only [retOk, retN, ret1, retF, ret1F, V.okArg, and_true, true_and, S1, ↓reduceIte, Nat.reduceEqDiff, Nat.reduceAdd, Nat.reduceMul, Nat.reduceDiv, AOp.sb, AOp.mut, ↓Bool.false_eq_true, beq_self_eq_true, ite_self, Nat.reduceLeDiff, Int.reduceEq, Int.reduceSub, Int.reduceAdd, Int.reduceNeg, Int.reduceLT, Int.reduceLE, Nat.reduceLT, bz_Z6, List.length_nil, hl2, hl3]
theorem sm_i {z : Int} {w : Nat} {s : Bool} (hz : z = zI s w) (h : w < 18446744073709551616) :
    (s = true ∧ w ≤ 9223372036854775808 → smV z = IntKind.i64.wrap (IntKind.u64.wrap (0 - (w : Int))) ∧ smE z = 0) ∧ (s = false ∧ w ≤ 9223372036854775807 → smV z = (w : Int) ∧ smE z = 0) ∧ (s = true ∧ ¬ w ≤ 9223372036854775808 ∨ s = false ∧ ¬ w ≤ 9223372036854775807 → smV z = 0 ∧ smE z = 13) := by
  subst hz
  unfold smV smE zI
  refine ⟨fun ⟨h1, h2⟩ => ?_, fun ⟨h1, h2⟩ => ?_, fun h1 => ?_⟩
  · subst h1
    simp only [if_true]
    rw [if_pos (by omega), if_pos (by omega)]
    refine ⟨?_, rfl⟩
    rw [IntKind.wrap_u64, IntKind.wrap_i64]; omega
  · subst h1
    simp only [Bool.false_eq_true, if_false]
    rw [if_pos (by omega), if_pos (by omega)]
    exact ⟨rfl, rfl⟩
  · rcases h1 with ⟨h1, h2⟩ | ⟨h1, h2⟩ <;> subst h1 <;> simp only [Bool.false_eq_true, if_false, if_true] <;> rw [if_neg (by omega), if_neg (by omega)] <;> exact ⟨rfl, rfl⟩
theorem sm_big {z : Int} (h : ¬ z.natAbs < 18446744073709551616) : smV z = 0 ∧ smE z = 13 := ⟨if_neg (by omega), if_neg (by omega)⟩
-- surd/zz.Small
def a64 : AC := .seq (.reg [⟨some 1, none, .bx 83 (.t 0)⟩, 
      ⟨some 2, none, .mv (.k (.i .i64 0))⟩, 
      ⟨some 3, none, .mv (.k (.i .i64 0))⟩])
  (.seq (.reg [⟨some 7, none, .fad 1 (.t 1)⟩, 
      ⟨some 8, none, .ld false 1 (.t 7)⟩, 
      ⟨some 9, none, .call 94 [(1, (.t 8))]⟩, 
      ⟨some 6, none, .mv (.t 9)⟩, 
      ⟨some 10, none, .ext (.t 6) 0⟩, 
      ⟨some 11, none, .ext (.t 6) 1⟩, 
      ⟨some 4, none, .mv (.t 10)⟩, 
      ⟨some 5, none, .mv (.t 11)⟩])
  (.seq (.blk 0
    (.seq (.reg [⟨some 13, none, .mv (.t 5)⟩, 
          ⟨some 14, none, .bin .neq (.t 13) (.k (.i .i64 0))⟩, 
          ⟨some 12, none, .mv (.t 14)⟩])
      (.cond (.t 12)
      (.seq (.reg [⟨some 2, none, .mv (.k (.i .i64 0))⟩, 
            ⟨some 3, none, .mv (.k (.i .i64 13))⟩])
        (.ret))
      (.seq (.reg [⟨some 16, none, .fad 0 (.t 1)⟩, 
            ⟨some 17, none, .ld false 1 (.t 16)⟩, 
            ⟨some 18, none, .mv (.t 17)⟩, 
            ⟨some 19, some (18, true), .mv (.t 4)⟩, 
            ⟨some 20, some (18, true), .bin .leq (.t 19) (.k (.i .u64 9223372036854775808))⟩, 
            ⟨some 21, none, .pick (.t 18) (.t 20) (.k (.b false))⟩, 
            ⟨some 15, none, .mv (.t 21)⟩])
        (.cond (.t 15)
        (.seq (.reg [⟨some 22, none, .mv (.t 4)⟩, 
              ⟨some 23, none, .un .neg (.t 22)⟩, 
              ⟨some 24, none, .cvt .i64 (.t 23)⟩, 
              ⟨some 2, none, .mv (.t 24)⟩, 
              ⟨some 3, none, .mv (.k (.i .i64 0))⟩])
          (.ret))
        (.seq (.reg [⟨some 26, none, .fad 0 (.t 1)⟩, 
              ⟨some 27, none, .ld false 1 (.t 26)⟩, 
              ⟨some 28, none, .un .not (.t 27)⟩, 
              ⟨some 29, none, .mv (.t 28)⟩, 
              ⟨some 30, some (29, true), .mv (.t 4)⟩, 
              ⟨some 31, some (29, true), .bin .leq (.t 30) (.k (.i .u64 9223372036854775807))⟩, 
              ⟨some 32, none, .pick (.t 29) (.t 31) (.k (.b false))⟩, 
              ⟨some 25, none, .mv (.t 32)⟩])
          (.cond (.t 25)
          (.seq (.reg [⟨some 33, none, .mv (.t 4)⟩, 
                ⟨some 34, none, .cvt .i64 (.t 33)⟩, 
                ⟨some 2, none, .mv (.t 34)⟩, 
                ⟨some 3, none, .mv (.k (.i .i64 0))⟩])
            (.ret))
          (.skip))))))))
  (.seq (.reg [⟨some 2, none, .mv (.k (.i .i64 0))⟩, 
      ⟨some 3, none, .mv (.k (.i .i64 13))⟩])
  (.ret))))
theorem zsmall_spec (s : Bool) (a : List Nat) (ha : Wd a) (la : a.length ≤ 1000000000) : AFun Try.prog J0 64 [zL s a] (.t [.i .i64 (smV (zv s a)), .i .i64 (smE (zv s a))]) := by
  have hw := nword_spec a ha (by omega)
  have hz : zv s a = zI s (nv B a) := rfl
  have hab := zv_abs s a
  generalize zv s a = z at *
  generalize nv B a = u at *
  by_cases h1 : u < 18446744073709551616
  · rw [show wdW u = u from if_pos h1, show wdE u = 0 from if_pos h1] at hw
    obtain ⟨e1, e2, e3⟩ := sm_i hz h1
    have key : (s = true ∧ (u : Int) ≤ 9223372036854775808) ∨ (s = true ∧ ¬ (u : Int) ≤ 9223372036854775808) ∨ (s = false ∧ (u : Int) ≤ 9223372036854775807) ∨ (s = false ∧ ¬ (u : Int) ≤ 9223372036854775807) := by
      cases s
      · by_cases h2 : (u : Int) ≤ 9223372036854775807
        · exact .inr (.inr (.inl ⟨rfl, h2⟩))
        · exact .inr (.inr (.inr ⟨rfl, h2⟩))
      · by_cases h2 : (u : Int) ≤ 9223372036854775808
        · exact .inl ⟨rfl, h2⟩
        · exact .inr (.inl ⟨rfl, h2⟩)
    rcases key with ⟨rfl, h3⟩ | ⟨rfl, h3⟩ | ⟨rfl, h3⟩ | ⟨rfl, h3⟩
    rw [(e1 ⟨rfl, by omega⟩).1, (e1 ⟨rfl, by omega⟩).2]
    rotate_left
    rw [(e3 (.inl ⟨rfl, by omega⟩)).1, (e3 (.inl ⟨rfl, by omega⟩)).2]
    rotate_left
    rw [(e2 ⟨rfl, by omega⟩).1, (e2 ⟨rfl, by omega⟩).2]
    rotate_left
    rw [(e3 (.inr ⟨rfl, by omega⟩)).1, (e3 (.inr ⟨rfl, by omega⟩)).2]
    all_goals
      refine AFun.mk fol J0s Try.func64 rfl (ac := a64) (by kernel_rfl) rfl rfl ?_
      apply vm_start
      unfold a64
      simp only [init_eq, initE]
      have zc4 := hw
      repeat first | (refine hK _ ?_; clear hK K) | simp only [Sv, ↓reduceIte, Nat.reduceEqDiff] | ((first | refine vm_reg (fun K hK => ?_) | refine vm_dreg (fun K hK => ?_) | refine clp_q ?_ | refine clq_mk (by assumption) ?_); simp (disch := (first | omega | assumption)) only [S1, ↓reduceIte, Nat.reduceEqDiff, Nat.reduceAdd, Nat.reduceMul, Nat.reduceDiv, AOp.sb, AOp.mut, ↓Bool.false_eq_true, beq_self_eq_true, ite_self, Nat.reduceLeDiff, Int.reduceEq, Int.reduceSub, Int.reduceAdd, Int.reduceNeg, Int.reduceLT, Int.reduceLE, Nat.reduceLT, bz_Z6, List.length_nil, h3])
      simp (disch := (first | omega | assumption)) only [retOk, retN, ret1, retF, ret1F, V.okArg, and_true, true_and, S1, ↓reduceIte, Nat.reduceEqDiff, Nat.reduceAdd, Nat.reduceMul, Nat.reduceDiv, AOp.sb, AOp.mut, ↓Bool.false_eq_true, beq_self_eq_true, ite_self, Nat.reduceLeDiff, Int.reduceEq, Int.reduceSub, Int.reduceAdd, Int.reduceNeg, Int.reduceLT, Int.reduceLE, Nat.reduceLT, bz_Z6, List.length_nil, h3]
  · rw [show wdW u = 0 from if_neg h1, show wdE u = 13 from if_neg h1] at hw
    obtain ⟨k1, k2⟩ := sm_big (z := z) (by omega)
    rw [k1, k2]
    refine AFun.mk fol J0s Try.func64 rfl (ac := a64) (by kernel_rfl) rfl rfl ?_
    apply vm_start
    unfold a64
    simp only [init_eq, initE]
    have zc5 := hw
    repeat first | (refine hK _ ?_; clear hK K) | simp only [Sv, ↓reduceIte, Nat.reduceEqDiff] | ((first | refine vm_reg (fun K hK => ?_) | refine vm_dreg (fun K hK => ?_) | refine clp_q ?_ | refine clq_mk (by assumption) ?_); simp (disch := (first | omega | assumption)) only [S1, ↓reduceIte, Nat.reduceEqDiff, Nat.reduceAdd, Nat.reduceMul, Nat.reduceDiv, AOp.sb, AOp.mut, ↓Bool.false_eq_true, beq_self_eq_true, ite_self, Nat.reduceLeDiff, Int.reduceEq, Int.reduceSub, Int.reduceAdd, Int.reduceNeg, Int.reduceLT, Int.reduceLE, Nat.reduceLT, bz_Z6, List.length_nil])
    simp (disch := (first | omega | assumption)) only [retOk, retN, ret1, retF, ret1F, V.okArg, and_true, true_and, S1, ↓reduceIte, Nat.reduceEqDiff, Nat.reduceAdd, Nat.reduceMul, Nat.reduceDiv, AOp.sb, AOp.mut, ↓Bool.false_eq_true, beq_self_eq_true, ite_self, Nat.reduceLeDiff, Int.reduceEq, Int.reduceSub, Int.reduceAdd, Int.reduceNeg, Int.reduceLT, Int.reduceLE, Nat.reduceLT, bz_Z6, List.length_nil]
end Go.Proofs.Ytfkldohgiifgbaa
