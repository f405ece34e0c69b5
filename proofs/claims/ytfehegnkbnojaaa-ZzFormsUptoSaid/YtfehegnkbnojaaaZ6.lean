/-
  zz, surdref07: plain ints, forms, bits.
-/
import Derived.Test.YtfehegnkbnojaaaZ4
import Derived.Test.YtfehegnkbnojaaaZb
namespace Go.Proofs.Ytfehegnkbnojaaa
open Go Go.RowKit Ab
set_option linter.unusedSimpArgs false
set_option linter.unusedVariables false
set_option maxHeartbeats 10000000
theorem bz_Z6 : type_of% (And.intro @Bool.false_and (And.intro @Bool.true_and (And.intro @wi (And.intro @tn_nat (And.intro @Nat.div_one (And.intro @Nat.mul_one (And.intro @W_len (And.intro @W_nf (And.intro @W_cell (And.intro @W_nil (And.intro @W_get (@nf_g)))))))))))) := And.intro @Bool.false_and (And.intro @Bool.true_and (And.intro @wi (And.intro @tn_nat (And.intro @Nat.div_one (And.intro @Nat.mul_one (And.intro @W_len (And.intro @W_nf (And.intro @W_cell (And.intro @W_nil (And.intro @W_get (@nf_g)))))))))))

/-- as a plain int, the code -/
def smV (z : Int) : Int := if -9223372036854775808 ≤ z ∧ z ≤ 9223372036854775807 then z else 0
def smE (z : Int) : Int := if -9223372036854775808 ≤ z ∧ z ≤ 9223372036854775807 then 0 else 13
-- surd/nat.Word
def a56 : AC := .seq (.reg [⟨some 2, none, .mv (.k (.i .u64 0))⟩, 
      ⟨some 3, none, .mv (.k (.i .i64 0))⟩])
  (.seq (.reg [⟨some 5, none, .mv (.t 0)⟩, 
      ⟨some 6, none, .call 79 [(1, (.t 5))]⟩, 
      ⟨some 4, none, .mv (.t 6)⟩])
  (.seq (.seq (.reg [⟨some 7, none, .mv (.t 4)⟩, 
        ⟨some 8, none, .len (.t 7)⟩])
    (.blk 0
    (.seq (.reg [⟨some 10, none, .bin .eql (.t 8) (.k (.i .i64 0))⟩, 
          ⟨some 9, none, .mv (.t 10)⟩])
      (.cond (.t 9)
      (.seq (.reg [⟨some 2, none, .mv (.k (.i .u64 0))⟩, 
            ⟨some 3, none, .mv (.k (.i .i64 0))⟩])
        (.ret))
      (.seq (.reg [⟨some 12, none, .bin .eql (.t 8) (.k (.i .i64 1))⟩, 
            ⟨some 11, none, .mv (.t 12)⟩])
        (.cond (.t 11)
        (.seq (.reg [⟨some 13, none, .mv (.t 4)⟩, 
              ⟨some 14, none, .idx 1 (.t 13) (.k (.i .i64 0))⟩, 
              ⟨some 15, none, .ld false 1 (.t 14)⟩, 
              ⟨some 2, none, .mv (.t 15)⟩, 
              ⟨some 3, none, .mv (.k (.i .i64 0))⟩])
          (.ret))
        (.skip)))))))
  (.seq (.reg [⟨some 2, none, .mv (.k (.i .u64 0))⟩, 
      ⟨some 3, none, .mv (.k (.i .i64 13))⟩])
  (.ret))))
theorem nword_spec (a : List Nat) (ha : Wd a) (la : a.length ≤ 100000000000) :
    AFun Try.prog J0 56 [.l 1 (W a)] (.t [.i .u64 ((wdW (nv B a) : Nat) : Int), .i .i64 (wdE (nv B a))]) := by
  have hn := trim_spec a (by omega)
  rw [tz_dg B2 ha] at hn
  generalize nv B a = u at *
  refine AFun.mk fol J0s Try.func56 rfl (ac := a56) (by kernel_rfl) rfl rfl ?_
  apply vm_start
  unfold a56
  simp only [init_eq, initE]
  by_cases h0 : u = 0
  · subst h0
    rw [dg_zero] at hn
    have z1 : wdW 0 = 0 := rfl
    have z2 : wdE 0 = 0 := rfl
    have zc1 := hn
    repeat first | (refine hK _ ?_; clear hK K) | simp only [Sv, ↓reduceIte, Nat.reduceEqDiff] | ((first | refine vm_reg (fun K hK => ?_) | refine vm_dreg (fun K hK => ?_) | refine clp_q ?_ | refine clq_mk (by assumption) ?_); simp (disch := (first | omega | assumption)) only [S1, ↓reduceIte, Nat.reduceEqDiff, Nat.reduceAdd, Nat.reduceMul, Nat.reduceDiv, AOp.sb, AOp.mut, ↓Bool.false_eq_true, beq_self_eq_true, ite_self, Nat.reduceLeDiff, Int.reduceEq, Int.reduceSub, Int.reduceAdd, Int.reduceNeg, Int.reduceLT, Int.reduceLE, Nat.reduceLT, bz_Z6, List.length_nil, z1, z2])
    simp (disch := (first | omega | assumption)) only [retOk, retN, ret1, retF, ret1F, V.okArg, and_true, true_and, S1, ↓reduceIte, Nat.reduceEqDiff, Nat.reduceAdd, Nat.reduceMul, Nat.reduceDiv, AOp.sb, AOp.mut, ↓Bool.false_eq_true, beq_self_eq_true, ite_self, Nat.reduceLeDiff, Int.reduceEq, Int.reduceSub, Int.reduceAdd, Int.reduceNeg, Int.reduceLT, Int.reduceLE, Nat.reduceLT, bz_Z6, List.length_nil, z1, z2]
  · by_cases h1 : u < 18446744073709551616
    · rw [dg_one (by omega) h1] at hn
      rw [show wdW u = u from if_pos h1, show wdE u = 0 from if_pos h1]
      have zc2 := hn
      repeat first | (refine hK _ ?_; clear hK K) | simp only [Sv, ↓reduceIte, Nat.reduceEqDiff] | ((first | refine vm_reg (fun K hK => ?_) | refine vm_dreg (fun K hK => ?_) | refine clp_q ?_ | refine clq_mk (by assumption) ?_); simp (disch := (first | omega | assumption)) only [S1, ↓reduceIte, Nat.reduceEqDiff, Nat.reduceAdd, Nat.reduceMul, Nat.reduceDiv, AOp.sb, AOp.mut, ↓Bool.false_eq_true, beq_self_eq_true, ite_self, Nat.reduceLeDiff, Int.reduceEq, Int.reduceSub, Int.reduceAdd, Int.reduceNeg, Int.reduceLT, Int.reduceLE, Nat.reduceLT, bz_Z6, List.length_nil, List.length_cons, W1, Int.toNat_zero, getD_z])
      simp (disch := (first | omega | assumption)) only [retOk, retN, ret1, retF, ret1F, V.okArg, and_true, true_and, S1, ↓reduceIte, Nat.reduceEqDiff, Nat.reduceAdd, Nat.reduceMul, Nat.reduceDiv, AOp.sb, AOp.mut, ↓Bool.false_eq_true, beq_self_eq_true, ite_self, Nat.reduceLeDiff, Int.reduceEq, Int.reduceSub, Int.reduceAdd, Int.reduceNeg, Int.reduceLT, Int.reduceLE, Nat.reduceLT, bz_Z6, List.length_nil, List.length_cons, W1, Int.toNat_zero, getD_z]
    · have hl := dg_big h1
      have hl2 : ¬ ((dg B u).length : Int) = 0 := by omega
      have hl3 : ¬ ((dg B u).length : Int) = 1 := by omega
      rw [show wdW u = 0 from if_neg h1, show wdE u = 13 from if_neg h1]
      have zc3 := hn
      repeat first | (refine hK _ ?_; clear hK K) | simp only [Sv, ↓reduceIte, Nat.reduceEqDiff] | ((first | refine vm_reg (fun K hK => ?_) | refine vm_dreg (fun K hK => ?_) | refine clp_q ?_ | refine clq_mk (by assumption) ?_); simp (disch := (first | omega | assumption)) only [S1, ↓reduceIte, Nat.reduceEqDiff, Nat.reduceAdd, Nat.reduceMul, Nat.reduceDiv, AOp.sb, AOp.mut, ↓Bool.false_eq_true, beq_self_eq_true, ite_self, Nat.reduceLeDiff, Int.reduceEq, Int.reduceSub, Int.reduceAdd, Int.reduceNeg, Int.reduceLT, Int.reduceLE, Nat.reduceLT, bz_Z6, List.length_nil, hl2, hl3])
      simp (disch := (first | omega | assumption)) only [retOk, retN, ret1, retF, ret1F, V.okArg, and_true, true_and, S1, ↓reduceIte, Nat.reduceEqDiff, Nat.reduceAdd, Nat.reduceMul, Nat.reduceDiv, AOp.sb, AOp.mut, ↓Bool.false_eq_true, beq_self_eq_true, ite_self, Nat.reduceLeDiff, Int.reduceEq, Int.reduceSub, Int.reduceAdd, Int.reduceNeg, Int.reduceLT, Int.reduceLE, Nat.reduceLT, bz_Z6, List.length_nil, hl2, hl3]
theorem sm_i {z : Int} {w : Nat} {s : Bool} (hz : z = zI s w) (h : w < 18446744073709551616) :
    (s = true ∧ w ≤ 9223372036854775808 → smV z = IntKind.i64.wrap (IntKind.u64.wrap (0 - (w : Int))) ∧ smE z = 0) ∧ (s = false ∧ w ≤ 9223372036854775807 → smV z = (w : Int) ∧ smE z = 0) ∧ (s = true ∧ ¬ w ≤ 9223372036854775808 ∨ s = false ∧ ¬ w ≤ 9223372036854775807 → smV z = 0 ∧ smE z = 13) := by
  subst hz
  unfold smV smE zI
  refine ⟨fun ⟨h1, h2⟩ => ?_, fun ⟨h1, h2⟩ => ?_, fun h1 => ?_⟩
  · subst h1
    simp only [if_true]
    rw [if_pos (by omega), if_pos (by omega)]
    refine ⟨?_, rfl⟩
    rw [IntKind.wrap_u64, IntKind.wrap_i64]; omega
  · subst h1
    simp only [Bool.false_eq_true, if_false]
    rw [if_pos (by omega), if_pos (by omega)]
    exact ⟨rfl, rfl⟩
  · rcases h1 with ⟨h1, h2⟩ | ⟨h1, h2⟩ <;> subst h1 <;> simp only [Bool.false_eq_true, if_false, if_true] <;> rw [if_neg (by omega), if_neg (by omega)] <;> exact ⟨rfl, rfl⟩
theorem sm_big {z : Int} (h : ¬ z.natAbs < 18446744073709551616) : smV z = 0 ∧ smE z = 13 := ⟨if_neg (by omega), if_neg (by omega)⟩
-- surd/zz.Small
def a22 : AC := .seq (.reg [⟨some 1, none, .bx 30 (.t 0)⟩, 
      ⟨some 2, none, .mv (.k (.i .i64 0))⟩, 
      ⟨some 3, none, .mv (.k (.i .i64 0))⟩])
  (.seq (.reg [⟨some 7, none, .fad 1 (.t 1)⟩, 
      ⟨some 8, none, .ld false 1 (.t 7)⟩, 
      ⟨some 9, none, .call 56 [(1, (.t 8))]⟩, 
      ⟨some 6, none, .mv (.t 9)⟩, 
      ⟨some 10, none, .ext (.t 6) 0⟩, 
      ⟨some 11, none, .ext (.t 6) 1⟩, 
      ⟨some 4, none, .mv (.t 10)⟩, 
      ⟨some 5, none, .mv (.t 11)⟩])
  (.seq (.blk 0
    (.seq (.reg [⟨some 13, none, .mv (.t 5)⟩, 
          ⟨some 14, none, .bin .neq (.t 13) (.k (.i .i64 0))⟩, 
          ⟨some 12, none, .mv (.t 14)⟩])
      (.cond (.t 12)
      (.seq (.reg [⟨some 2, none, .mv (.k (.i .i64 0))⟩, 
            ⟨some 3, none, .mv (.k (.i .i64 13))⟩])
        (.ret))
      (.seq (.reg [⟨some 16, none, .fad 0 (.t 1)⟩, 
            ⟨some 17, none, .ld false 1 (.t 16)⟩, 
            ⟨some 18, none, .mv (.t 17)⟩, 
            ⟨some 19, some (18, true), .mv (.t 4)⟩, 
            ⟨some 20, some (18, true), .bin .leq (.t 19) (.k (.i .u64 9223372036854775808))⟩, 
            ⟨some 21, none, .pick (.t 18) (.t 20) (.k (.b false))⟩, 
            ⟨some 15, none, .mv (.t 21)⟩])
        (.cond (.t 15)
        (.seq (.reg [⟨some 22, none, .mv (.t 4)⟩, 
              ⟨some 23, none, .un .neg (.t 22)⟩, 
              ⟨some 24, none, .cvt .i64 (.t 23)⟩, 
              ⟨some 2, none, .mv (.t 24)⟩, 
              ⟨some 3, none, .mv (.k (.i .i64 0))⟩])
          (.ret))
        (.seq (.reg [⟨some 26, none, .fad 0 (.t 1)⟩, 
              ⟨some 27, none, .ld false 1 (.t 26)⟩, 
              ⟨some 28, none, .un .not (.t 27)⟩, 
              ⟨some 29, none, .mv (.t 28)⟩, 
              ⟨some 30, some (29, true), .mv (.t 4)⟩, 
              ⟨some 31, some (29, true), .bin .leq (.t 30) (.k (.i .u64 9223372036854775807))⟩, 
              ⟨some 32, none, .pick (.t 29) (.t 31) (.k (.b false))⟩, 
              ⟨some 25, none, .mv (.t 32)⟩])
          (.cond (.t 25)
          (.seq (.reg [⟨some 33, none, .mv (.t 4)⟩, 
                ⟨some 34, none, .cvt .i64 (.t 33)⟩, 
                ⟨some 2, none, .mv (.t 34)⟩, 
                ⟨some 3, none, .mv (.k (.i .i64 0))⟩])
            (.ret))
          (.skip))))))))
  (.seq (.reg [⟨some 2, none, .mv (.k (.i .i64 0))⟩, 
      ⟨some 3, none, .mv (.k (.i .i64 13))⟩])
  (.ret))))
theorem zsmall_spec (s : Bool) (a : List Nat) (ha : Wd a) (la : a.length ≤ 1000000000) : AFun Try.prog J0 22 [zL s a] (.t [.i .i64 (smV (zv s a)), .i .i64 (smE (zv s a))]) := by
  have hw := nword_spec a ha (by omega)
  have hz : zv s a = zI s (nv B a) := rfl
  have hab := zv_abs s a
  generalize zv s a = z at *
  generalize nv B a = u at *
  by_cases h1 : u < 18446744073709551616
  · rw [show wdW u = u from if_pos h1, show wdE u = 0 from if_pos h1] at hw
    obtain ⟨e1, e2, e3⟩ := sm_i hz h1
    have key : (s = true ∧ (u : Int) ≤ 9223372036854775808) ∨ (s = true ∧ ¬ (u : Int) ≤ 9223372036854775808) ∨ (s = false ∧ (u : Int) ≤ 9223372036854775807) ∨ (s = false ∧ ¬ (u : Int) ≤ 9223372036854775807) := by
      cases s
      · by_cases h2 : (u : Int) ≤ 9223372036854775807
        · exact .inr (.inr (.inl ⟨rfl, h2⟩))
        · exact .inr (.inr (.inr ⟨rfl, h2⟩))
      · by_cases h2 : (u : Int) ≤ 9223372036854775808
        · exact .inl ⟨rfl, h2⟩
        · exact .inr (.inl ⟨rfl, h2⟩)
    rcases key with ⟨rfl, h3⟩ | ⟨rfl, h3⟩ | ⟨rfl, h3⟩ | ⟨rfl, h3⟩
    rw [(e1 ⟨rfl, by omega⟩).1, (e1 ⟨rfl, by omega⟩).2]
    rotate_left
    rw [(e3 (.inl ⟨rfl, by omega⟩)).1, (e3 (.inl ⟨rfl, by omega⟩)).2]
    rotate_left
    rw [(e2 ⟨rfl, by omega⟩).1, (e2 ⟨rfl, by omega⟩).2]
    rotate_left
    rw [(e3 (.inr ⟨rfl, by omega⟩)).1, (e3 (.inr ⟨rfl, by omega⟩)).2]
    all_goals
      refine AFun.mk fol J0s Try.func22 rfl (ac := a22) (by kernel_rfl) rfl rfl ?_
      apply vm_start
      unfold a22
      simp only [init_eq, initE]
      have zc4 := hw
      repeat first | (refine hK _ ?_; clear hK K) | simp only [Sv, ↓reduceIte, Nat.reduceEqDiff] | ((first | refine vm_reg (fun K hK => ?_) | refine vm_dreg (fun K hK => ?_) | refine clp_q ?_ | refine clq_mk (by assumption) ?_); simp (disch := (first | omega | assumption)) only [S1, ↓reduceIte, Nat.reduceEqDiff, Nat.reduceAdd, Nat.reduceMul, Nat.reduceDiv, AOp.sb, AOp.mut, ↓Bool.false_eq_true, beq_self_eq_true, ite_self, Nat.reduceLeDiff, Int.reduceEq, Int.reduceSub, Int.reduceAdd, Int.reduceNeg, Int.reduceLT, Int.reduceLE, Nat.reduceLT, bz_Z6, List.length_nil, h3])
      simp (disch := (first | omega | assumption)) only [retOk, retN, ret1, retF, ret1F, V.okArg, and_true, true_and, S1, ↓reduceIte, Nat.reduceEqDiff, Nat.reduceAdd, Nat.reduceMul, Nat.reduceDiv, AOp.sb, AOp.mut, ↓Bool.false_eq_true, beq_self_eq_true, ite_self, Nat.reduceLeDiff, Int.reduceEq, Int.reduceSub, Int.reduceAdd, Int.reduceNeg, Int.reduceLT, Int.reduceLE, Nat.reduceLT, bz_Z6, List.length_nil, h3]
  · rw [show wdW u = 0 from if_neg h1, show wdE u = 13 from if_neg h1] at hw
    obtain ⟨k1, k2⟩ := sm_big (z := z) (by omega)
    rw [k1, k2]
    refine AFun.mk fol J0s Try.func22 rfl (ac := a22) (by kernel_rfl) rfl rfl ?_
    apply vm_start
    unfold a22
    simp only [init_eq, initE]
    have zc5 := hw
    repeat first | (refine hK _ ?_; clear hK K) | simp only [Sv, ↓reduceIte, Nat.reduceEqDiff] | ((first | refine vm_reg (fun K hK => ?_) | refine vm_dreg (fun K hK => ?_) | refine clp_q ?_ | refine clq_mk (by assumption) ?_); simp (disch := (first | omega | assumption)) only [S1, ↓reduceIte, Nat.reduceEqDiff, Nat.reduceAdd, Nat.reduceMul, Nat.reduceDiv, AOp.sb, AOp.mut, ↓Bool.false_eq_true, beq_self_eq_true, ite_self, Nat.reduceLeDiff, Int.reduceEq, Int.reduceSub, Int.reduceAdd, Int.reduceNeg, Int.reduceLT, Int.reduceLE, Nat.reduceLT, bz_Z6, List.length_nil])
    simp (disch := (first | omega | assumption)) only [retOk, retN, ret1, retF, ret1F, V.okArg, and_true, true_and, S1, ↓reduceIte, Nat.reduceEqDiff, Nat.reduceAdd, Nat.reduceMul, Nat.reduceDiv, AOp.sb, AOp.mut, ↓Bool.false_eq_true, beq_self_eq_true, ite_self, Nat.reduceLeDiff, Int.reduceEq, Int.reduceSub, Int.reduceAdd, Int.reduceNeg, Int.reduceLT, Int.reduceLE, Nat.reduceLT, bz_Z6, List.length_nil]
-- surd/surdref07.Small
def a21 : AC := .seq (.reg [⟨some 1, none, .bx 30 (.t 0)⟩, 
      ⟨some 2, none, .mv (.k (.i .i64 0))⟩, 
      ⟨some 3, none, .mv (.k (.i .i64 0))⟩])
  (.seq (.reg [⟨some 7, none, .fad 1 (.t 1)⟩, 
      ⟨some 8, none, .ld false 1 (.t 7)⟩, 
      ⟨some 9, none, .call 55 [(1, (.t 8))]⟩, 
      ⟨some 6, none, .mv (.t 9)⟩, 
      ⟨some 10, none, .ext (.t 6) 0⟩, 
      ⟨some 11, none, .ext (.t 6) 1⟩, 
      ⟨some 4, none, .mv (.t 10)⟩, 
      ⟨some 5, none, .mv (.t 11)⟩])
  (.seq (.seq (.reg [⟨some 12, none, .mv (.t 5)⟩, 
        ⟨some 13, none, .bin .neq (.t 12) (.k (.i .i64 0))⟩, 
        ⟨some 14, none, .mv (.t 13)⟩, 
        ⟨some 15, some (14, false), .mv (.t 4)⟩, 
        ⟨some 16, some (14, false), .bin .gtr (.t 15) (.k (.i .u64 9223372036854775808))⟩, 
        ⟨some 17, none, .pick (.t 14) (.k (.b true)) (.t 16)⟩, 
        ⟨some 18, none, .mv (.t 17)⟩, 
        ⟨some 19, some (18, false), .mv (.t 4)⟩, 
        ⟨some 20, some (18, false), .bin .eql (.t 19) (.k (.i .u64 9223372036854775808))⟩, 
        ⟨some 21, some (18, false), .mv (.t 20)⟩, 
        ⟨some 22, some (21, true), .fad 0 (.t 1)⟩, 
        ⟨some 23, some (21, true), .ld false 1 (.t 22)⟩, 
        ⟨some 24, some (21, true), .un .not (.t 23)⟩, 
        ⟨some 25, some (18, false), .pick (.t 21) (.t 24) (.k (.b false))⟩, 
        ⟨some 26, none, .pick (.t 18) (.k (.b true)) (.t 25)⟩])
    (.cond (.t 26)
    (.seq (.reg [⟨some 2, none, .mv (.k (.i .i64 0))⟩, 
          ⟨some 3, none, .mv (.k (.i .i64 13))⟩])
      (.ret))
    (.skip)))
  (.seq (.seq (.reg [⟨some 27, none, .fad 0 (.t 1)⟩, 
        ⟨some 28, none, .ld false 1 (.t 27)⟩])
    (.cond (.t 28)
    (.seq (.seq (.reg [⟨some 29, none, .mv (.t 4)⟩, 
            ⟨some 30, none, .bin .eql (.t 29) (.k (.i .u64 9223372036854775808))⟩])
        (.cond (.t 30)
        (.seq (.reg [⟨some 2, none, .mv (.k (.i .i64 (-9223372036854775808)))⟩, 
              ⟨some 3, none, .mv (.k (.i .i64 0))⟩])
          (.ret))
        (.skip)))
      (.seq (.reg [⟨some 31, none, .mv (.t 4)⟩, 
          ⟨some 32, none, .cvt .i64 (.t 31)⟩, 
          ⟨some 33, none, .un .neg (.t 32)⟩, 
          ⟨some 2, none, .mv (.t 33)⟩, 
          ⟨some 3, none, .mv (.k (.i .i64 0))⟩])
      (.ret)))
    (.skip)))
  (.seq (.reg [⟨some 34, none, .mv (.t 4)⟩, 
      ⟨some 35, none, .cvt .i64 (.t 34)⟩, 
      ⟨some 2, none, .mv (.t 35)⟩, 
      ⟨some 3, none, .mv (.k (.i .i64 0))⟩])
  (.ret)))))
theorem rzsmall_spec (s : Bool) (a : List Nat) (ha : Wd a) (la : a.length ≤ 1000000000) : AFun Try.prog J0 21 [zL s a] (.t [.i .i64 (smV (zv s a)), .i .i64 (smE (zv s a))]) := by
  have hw := rword_spec a ha (by omega)
  have hz : zv s a = zI s (nv B a) := rfl
  have hab := zv_abs s a
  generalize zv s a = z at *
  generalize nv B a = u at *
  by_cases h1 : u < 18446744073709551616
  · rw [show wdW u = u from if_pos h1, show wdE u = 0 from if_pos h1] at hw
    obtain ⟨e1, e2, e3⟩ := sm_i hz h1
    have key : (s = true ∧ ¬ (9223372036854775808 : Int) < (u : Int) ∧ ((u : Int) = 9223372036854775808) = True) ∨ (s = true ∧ ¬ (9223372036854775808 : Int) < (u : Int) ∧ ((u : Int) = 9223372036854775808) = False) ∨ (s = true ∧ (9223372036854775808 : Int) < (u : Int) ∧ ((u : Int) = 9223372036854775808) = False) ∨ (s = false ∧ ¬ (9223372036854775808 : Int) < (u : Int) ∧ ((u : Int) = 9223372036854775808) = True) ∨ (s = false ∧ ¬ (9223372036854775808 : Int) < (u : Int) ∧ ((u : Int) = 9223372036854775808) = False) ∨ (s = false ∧ (9223372036854775808 : Int) < (u : Int) ∧ ((u : Int) = 9223372036854775808) = False) := by
      by_cases h2 : (9223372036854775808 : Int) < (u : Int)
      · have h4 := eq_false (show ¬ (u : Int) = 9223372036854775808 by omega)
        cases s
        · exact .inr (.inr (.inr (.inr (.inr ⟨rfl, h2, h4⟩))))
        · exact .inr (.inr (.inl ⟨rfl, h2, h4⟩))
      · by_cases h4 : (u : Int) = 9223372036854775808
        · cases s
          · exact .inr (.inr (.inr (.inl ⟨rfl, h2, eq_true h4⟩)))
          · exact .inl ⟨rfl, h2, eq_true h4⟩
        · cases s
          · exact .inr (.inr (.inr (.inr (.inl ⟨rfl, h2, eq_false h4⟩))))
          · exact .inr (.inl ⟨rfl, h2, eq_false h4⟩)
    rcases key with ⟨rfl, h3, h4⟩ | ⟨rfl, h3, h4⟩ | ⟨rfl, h3, h4⟩ | ⟨rfl, h3, h4⟩ | ⟨rfl, h3, h4⟩ | ⟨rfl, h3, h4⟩
    rw [(e1 ⟨rfl, by omega⟩).1, (e1 ⟨rfl, by omega⟩).2, show IntKind.i64.wrap (IntKind.u64.wrap (0 - (u : Int))) = -9223372036854775808 from by have := of_eq_true h4; rw [IntKind.wrap_u64, IntKind.wrap_i64]; omega]
    rotate_left
    have h4' := of_eq_false h4
    rw [(e1 ⟨rfl, by omega⟩).1, (e1 ⟨rfl, by omega⟩).2, show IntKind.i64.wrap (IntKind.u64.wrap (0 - (u : Int))) = 0 - (u : Int) from by rw [IntKind.wrap_u64, IntKind.wrap_i64]; omega]
    rotate_left
    rw [(e3 (.inl ⟨rfl, by omega⟩)).1, (e3 (.inl ⟨rfl, by omega⟩)).2]
    rotate_left
    have h4' := of_eq_true h4
    rw [(e3 (.inr ⟨rfl, by omega⟩)).1, (e3 (.inr ⟨rfl, by omega⟩)).2]
    rotate_left
    have h4' := of_eq_false h4
    rw [(e2 ⟨rfl, by omega⟩).1, (e2 ⟨rfl, by omega⟩).2]
    rotate_left
    rw [(e3 (.inr ⟨rfl, by omega⟩)).1, (e3 (.inr ⟨rfl, by omega⟩)).2]
    all_goals
      refine AFun.mk fol J0s Try.func21 rfl (ac := a21) (by kernel_rfl) rfl rfl ?_
      apply vm_start
      unfold a21
      simp only [init_eq, initE]
      have zc6 := hw
      repeat first | (refine hK _ ?_; clear hK K) | simp only [Sv, ↓reduceIte, Nat.reduceEqDiff] | ((first | refine vm_reg (fun K hK => ?_) | refine vm_dreg (fun K hK => ?_) | refine clp_q ?_ | refine clq_mk (by assumption) ?_); simp (disch := (first | omega | assumption)) only [S1, ↓reduceIte, Nat.reduceEqDiff, Nat.reduceAdd, Nat.reduceMul, Nat.reduceDiv, AOp.sb, AOp.mut, ↓Bool.false_eq_true, beq_self_eq_true, ite_self, Nat.reduceLeDiff, Int.reduceEq, Int.reduceSub, Int.reduceAdd, Int.reduceNeg, Int.reduceLT, Int.reduceLE, Nat.reduceLT, bz_Z6, List.length_nil, h3, h4])
      simp (disch := (first | omega | assumption)) only [retOk, retN, ret1, retF, ret1F, V.okArg, and_true, true_and, S1, ↓reduceIte, Nat.reduceEqDiff, Nat.reduceAdd, Nat.reduceMul, Nat.reduceDiv, AOp.sb, AOp.mut, ↓Bool.false_eq_true, beq_self_eq_true, ite_self, Nat.reduceLeDiff, Int.reduceEq, Int.reduceSub, Int.reduceAdd, Int.reduceNeg, Int.reduceLT, Int.reduceLE, Nat.reduceLT, bz_Z6, List.length_nil, h3, h4]
  · rw [show wdW u = 0 from if_neg h1, show wdE u = 13 from if_neg h1] at hw
    obtain ⟨k1, k2⟩ := sm_big (z := z) (by omega)
    rw [k1, k2]
    refine AFun.mk fol J0s Try.func21 rfl (ac := a21) (by kernel_rfl) rfl rfl ?_
    apply vm_start
    unfold a21
    simp only [init_eq, initE]
    have zc7 := hw
    repeat first | (refine hK _ ?_; clear hK K) | simp only [Sv, ↓reduceIte, Nat.reduceEqDiff] | ((first | refine vm_reg (fun K hK => ?_) | refine vm_dreg (fun K hK => ?_) | refine clp_q ?_ | refine clq_mk (by assumption) ?_); simp (disch := (first | omega | assumption)) only [S1, ↓reduceIte, Nat.reduceEqDiff, Nat.reduceAdd, Nat.reduceMul, Nat.reduceDiv, AOp.sb, AOp.mut, ↓Bool.false_eq_true, beq_self_eq_true, ite_self, Nat.reduceLeDiff, Int.reduceEq, Int.reduceSub, Int.reduceAdd, Int.reduceNeg, Int.reduceLT, Int.reduceLE, Nat.reduceLT, bz_Z6, List.length_nil])
    simp (disch := (first | omega | assumption)) only [retOk, retN, ret1, retF, ret1F, V.okArg, and_true, true_and, S1, ↓reduceIte, Nat.reduceEqDiff, Nat.reduceAdd, Nat.reduceMul, Nat.reduceDiv, AOp.sb, AOp.mut, ↓Bool.false_eq_true, beq_self_eq_true, ite_self, Nat.reduceLeDiff, Int.reduceEq, Int.reduceSub, Int.reduceAdd, Int.reduceNeg, Int.reduceLT, Int.reduceLE, Nat.reduceLT, bz_Z6, List.length_nil]
-- surd/zz.Bits
def a36 : AC := .seq (.reg [⟨some 1, none, .bx 30 (.t 0)⟩, 
      ⟨some 2, none, .mv (.k (.i .i64 0))⟩])
  (.seq (.reg [⟨some 3, none, .fad 1 (.t 1)⟩, 
      ⟨some 4, none, .ld false 1 (.t 3)⟩, 
      ⟨some 5, none, .call 62 [(1, (.t 4))]⟩, 
      ⟨some 2, none, .mv (.t 5)⟩])
  (.ret))
theorem zbits_spec (s : Bool) (a : List Nat) (ha : Wd a) (la : a.length ≤ 1000000000) : AFun Try.prog J0 36 [zL s a] (.i .i64 ((bl (nv B a) : Nat) : Int)) := by
  have h := natBits_spec a ha (by omega)
  refine AFun.mk fol J0s Try.func36 rfl (ac := a36) (by kernel_rfl) rfl rfl ?_
  apply vm_start
  unfold a36
  simp only [init_eq, initE]
  have zc8 := h
  repeat first | (refine hK _ ?_; clear hK K) | simp only [Sv, ↓reduceIte, Nat.reduceEqDiff] | ((first | refine vm_reg (fun K hK => ?_) | refine vm_dreg (fun K hK => ?_) | refine clp_q ?_ | refine clq_mk (by assumption) ?_); simp (disch := (first | omega | assumption)) only [S1, ↓reduceIte, Nat.reduceEqDiff, Nat.reduceAdd, Nat.reduceMul, Nat.reduceDiv, AOp.sb, AOp.mut, ↓Bool.false_eq_true, beq_self_eq_true, ite_self, Nat.reduceLeDiff, Int.reduceEq, Int.reduceSub, Int.reduceAdd, Int.reduceNeg, Int.reduceLT, Int.reduceLE, Nat.reduceLT, bz_Z6, List.length_nil])
  simp (disch := (first | omega | assumption)) only [retOk, retN, ret1, retF, ret1F, V.okArg, and_true, true_and, S1, ↓reduceIte, Nat.reduceEqDiff, Nat.reduceAdd, Nat.reduceMul, Nat.reduceDiv, AOp.sb, AOp.mut, ↓Bool.false_eq_true, beq_self_eq_true, ite_self, Nat.reduceLeDiff, Int.reduceEq, Int.reduceSub, Int.reduceAdd, Int.reduceNeg, Int.reduceLT, Int.reduceLE, Nat.reduceLT, bz_Z6, List.length_nil]
-- surd/surdref02.IsNorm
def a59 : AC := .seq (.reg [⟨some 2, none, .mv (.k (.b false))⟩])
  (.seq (.reg [⟨some 3, none, .mv (.t 0)⟩, 
      ⟨some 4, none, .len (.t 3)⟩, 
      ⟨some 5, none, .bin .eql (.t 4) (.k (.i .i64 0))⟩, 
      ⟨some 6, none, .mv (.t 5)⟩, 
      ⟨some 7, some (6, false), .mv (.t 0)⟩, 
      ⟨some 8, some (6, false), .mv (.t 0)⟩, 
      ⟨some 9, some (6, false), .len (.t 8)⟩, 
      ⟨some 10, some (6, false), .bin .sub (.t 9) (.k (.i .i64 1))⟩, 
      ⟨some 11, some (6, false), .idx 1 (.t 7) (.t 10)⟩, 
      ⟨some 12, some (6, false), .ld false 1 (.t 11)⟩, 
      ⟨some 13, some (6, false), .bin .neq (.t 12) (.k (.i .u64 0))⟩, 
      ⟨some 14, none, .pick (.t 6) (.k (.b true)) (.t 13)⟩, 
      ⟨some 2, none, .mv (.t 14)⟩])
  (.ret))
theorem risNorm_spec (a : List Nat) (la : a.length ≤ 1099511627776) : AFun Try.prog J0 59 [.l 1 (W a)] (.b (decide (tz a = a))) := by
  refine AFun.mk fol J0s Try.func59 rfl (ac := a59) (by kernel_rfl) rfl rfl ?_
  apply vm_start
  unfold a59
  simp only [init_eq, initE]
  by_cases h : (a.length : Int) = 0
  · have e : decide (tz a = a) = true := decide_eq_true (by rw [List.eq_nil_of_length_eq_zero (by omega : a.length = 0)]; rfl)
    rw [e]
    repeat first
      | (refine hK _ ?_; clear hK K)
      | ((first | refine vm_reg (fun K hK => ?_) | refine vm_dreg (fun K hK => ?_)); simp (disch := (first | omega | assumption)) only [S1, ↓reduceIte, Nat.reduceEqDiff, Nat.reduceAdd, Nat.reduceMul, Nat.reduceDiv, AOp.sb, AOp.mut, ↓Bool.false_eq_true, beq_self_eq_true, ite_self, Nat.reduceLeDiff, Int.reduceEq, Int.reduceSub, Int.reduceAdd, Int.reduceNeg, Int.reduceLT, Int.reduceLE, Nat.reduceLT, bz_Z6, List.length_nil, h]; refine hK _ ?_; clear hK K)
      | simp only [Sv, ↓reduceIte, Nat.reduceEqDiff]
    simp (disch := (first | omega | assumption)) only [retOk, retN, ret1, retF, ret1F, V.okArg, and_true, true_and, S1, ↓reduceIte, Nat.reduceEqDiff, Nat.reduceAdd, Nat.reduceMul, Nat.reduceDiv, AOp.sb, AOp.mut, ↓Bool.false_eq_true, beq_self_eq_true, ite_self, Nat.reduceLeDiff, Int.reduceEq, Int.reduceSub, Int.reduceAdd, Int.reduceNeg, Int.reduceLT, Int.reduceLE, Nat.reduceLT, bz_Z6, List.length_nil]
  · have hidx : ((a.length : Int) - 1).toNat = a.length - 1 := by omega
    have key : (tz a = a) = ¬ (((a.getD (a.length - 1) 0 : Nat) : Int) = 0) := by
      refine propext ⟨fun h1 h2 => ?_, fun h1 => ?_⟩
      · have := tz_zero a (a.length - 1) (by omega) (by omega)
        rw [show a.length - 1 + 1 = a.length from by omega, List.take_length, h1] at this
        have h3 := congrArg List.length this
        have h4 := tz_len (a.take (a.length - 1))
        rw [← this, List.length_take] at h4
        omega
      · have := tz_top a (a.length - 1) (by omega) (by omega)
        rw [show a.length - 1 + 1 = a.length from by omega, List.take_length] at this
        have h3 := tz_take a
        rw [this, List.take_length] at h3; exact h3.symm
    repeat first
      | (refine hK _ ?_; clear hK K)
      | ((first | refine vm_reg (fun K hK => ?_) | refine vm_dreg (fun K hK => ?_)); simp (disch := (first | omega | assumption)) only [S1, ↓reduceIte, Nat.reduceEqDiff, Nat.reduceAdd, Nat.reduceMul, Nat.reduceDiv, AOp.sb, AOp.mut, ↓Bool.false_eq_true, beq_self_eq_true, ite_self, Nat.reduceLeDiff, Int.reduceEq, Int.reduceSub, Int.reduceAdd, Int.reduceNeg, Int.reduceLT, Int.reduceLE, Nat.reduceLT, bz_Z6, List.length_nil, h, hidx]; refine hK _ ?_; clear hK K)
      | simp only [Sv, ↓reduceIte, Nat.reduceEqDiff]
    simp (disch := (first | omega | assumption)) only [retOk, retN, ret1, retF, ret1F, V.okArg, and_true, true_and, S1, ↓reduceIte, Nat.reduceEqDiff, Nat.reduceAdd, Nat.reduceMul, Nat.reduceDiv, AOp.sb, AOp.mut, ↓Bool.false_eq_true, beq_self_eq_true, ite_self, Nat.reduceLeDiff, Int.reduceEq, Int.reduceSub, Int.reduceAdd, Int.reduceNeg, Int.reduceLT, Int.reduceLE, Nat.reduceLT, bz_Z6, List.length_nil, key]
-- surd/surdref07.IsNorm
def a29 : AC := .seq (.reg [⟨some 1, none, .bx 30 (.t 0)⟩, 
      ⟨some 2, none, .mv (.k (.b false))⟩])
  (.seq (.reg [⟨some 3, none, .fad 1 (.t 1)⟩, 
      ⟨some 4, none, .ld false 1 (.t 3)⟩, 
      ⟨some 5, none, .call 59 [(1, (.t 4))]⟩, 
      ⟨some 6, none, .mv (.t 5)⟩, 
      ⟨some 7, some (6, true), .fad 0 (.t 1)⟩, 
      ⟨some 8, some (6, true), .ld false 1 (.t 7)⟩, 
      ⟨some 9, some (6, true), .un .not (.t 8)⟩, 
      ⟨some 10, some (6, true), .mv (.t 9)⟩, 
      ⟨some 11, some (10, false), .fad 1 (.t 1)⟩, 
      ⟨some 12, some (10, false), .ld false 1 (.t 11)⟩, 
      ⟨some 13, some (10, false), .len (.t 12)⟩, 
      ⟨some 14, some (10, false), .bin .gtr (.t 13) (.k (.i .i64 0))⟩, 
      ⟨some 15, some (6, true), .pick (.t 10) (.k (.b true)) (.t 14)⟩, 
      ⟨some 16, none, .pick (.t 6) (.t 15) (.k (.b false))⟩, 
      ⟨some 2, none, .mv (.t 16)⟩])
  (.ret))
theorem rzisNorm_spec (s : Bool) (a : List Nat) (ha : Wd a) (la : a.length ≤ 1000000000) : AFun Try.prog J0 29 [zL s a] (.b (decide (tz a = a) && !(s && decide (a.length = 0)))) := by
  have h1 := risNorm_spec a (by omega)
  generalize decide (tz a = a) = t at *
  rcases Decidable.em ((0 : Int) < (a.length : Int)) with h | h
  rw [show decide (a.length = 0) = false from decide_eq_false (by omega)]
  rotate_left
  rw [show decide (a.length = 0) = true from decide_eq_true (by omega)]
  all_goals
    cases t <;> cases s
  all_goals
    refine AFun.mk fol J0s Try.func29 rfl (ac := a29) (by kernel_rfl) rfl rfl ?_
    apply vm_start
    unfold a29
    simp only [init_eq, initE]
    have zc9 := h1
    repeat first | (refine hK _ ?_; clear hK K) | simp only [Sv, ↓reduceIte, Nat.reduceEqDiff] | ((first | refine vm_reg (fun K hK => ?_) | refine vm_dreg (fun K hK => ?_) | refine clp_q ?_ | refine clq_mk (by assumption) ?_); simp (disch := (first | omega | assumption)) only [S1, ↓reduceIte, Nat.reduceEqDiff, Nat.reduceAdd, Nat.reduceMul, Nat.reduceDiv, AOp.sb, AOp.mut, ↓Bool.false_eq_true, beq_self_eq_true, ite_self, Nat.reduceLeDiff, Int.reduceEq, Int.reduceSub, Int.reduceAdd, Int.reduceNeg, Int.reduceLT, Int.reduceLE, Nat.reduceLT, bz_Z6, List.length_nil, h, Bool.not_false])
    simp (disch := (first | omega | assumption)) only [retOk, retN, ret1, retF, ret1F, V.okArg, and_true, true_and, S1, ↓reduceIte, Nat.reduceEqDiff, Nat.reduceAdd, Nat.reduceMul, Nat.reduceDiv, AOp.sb, AOp.mut, ↓Bool.false_eq_true, beq_self_eq_true, ite_self, Nat.reduceLeDiff, Int.reduceEq, Int.reduceSub, Int.reduceAdd, Int.reduceNeg, Int.reduceLT, Int.reduceLE, Nat.reduceLT, bz_Z6, List.length_nil, h, Bool.not_false]
end Go.Proofs.Ytfehegnkbnojaaa
