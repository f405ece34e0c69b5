/-
  ZzPowers: the law's walk.
-/
import Derived.Test.YtnjjeephbeoakaaDoorLZKn
import Derived.Test.YtnjjeephbeoakaaDoorZ10
namespace Go.Proofs.YtnjjeephbeoakaaDoor
open Go Go.RowKit Ab
set_option linter.unusedSimpArgs false
set_option linter.unusedVariables false
set_option maxHeartbeats 10000000
theorem bz_LZPowers : type_of% (And.intro @Bool.false_and (And.intro @wi (And.intro @tn_nat (And.intro @Nat.div_one (And.intro @Nat.mul_one (And.intro @W_len (And.intro @W_nf (And.intro @W_cell (And.intro @W_nil (And.intro @W_get (@nf_g))))))))))) := And.intro @Bool.false_and (And.intro @wi (And.intro @tn_nat (And.intro @Nat.div_one (And.intro @Nat.mul_one (And.intro @W_len (And.intro @W_nf (And.intro @W_cell (And.intro @W_nil (And.intro @W_get (@nf_g))))))))))

theorem fdivA (x y : Int) : (x.fdiv y).natAbs ≤ x.natAbs + 1 := by
  by_cases h : y = 0
  · subst h; rw [Int.fdiv_zero]; simp
  · rw [fdiv_eq' x y h]
    have := Int.natAbs_tdiv_le_natAbs x y
    split <;> omega
theorem zlV_lt {x : Int} {m : Nat} {n : Int} (h : x.natAbs < B ^ m) : (zlV x n).natAbs < B ^ (m + 16384) := by
  unfold zlV
  split
  · exact Nat.pow_pos (by decide)
  · rename_i h1
    rw [Int.natAbs_mul, Int.natAbs_pow]
    exact shl_len h (by omega)
theorem zrV_lt {x : Int} {m : Nat} {n : Int} (h : x.natAbs < B ^ m) : (zrV x n).natAbs < B ^ (m + 1) := by
  have h2 : B ^ m * 2 ≤ B ^ (m + 1) := Nat.mul_le_mul_left _ (by decide)
  unfold zrV
  split
  · exact Nat.pow_pos (by decide)
  · have := fdivA x (2 ^ n.toNat)
    omega
-- surd/surdlaw07.ZzPowers
def a3 : AC := .seq (.reg [⟨some 2, none, .bx 25 (.t 0)⟩, 
      ⟨some 4, none, .mv (.k (.b false))⟩])
  (.seq (.seq (.reg [⟨some 10, none, .call 5 []⟩, 
        ⟨some 11, none, .un .not (.t 10)⟩])
    (.cond (.t 11)
    (.seq (.reg [⟨some 4, none, .mv (.k (.b false))⟩])
      (.ret))
    (.skip)))
  (.seq (.reg [⟨some 12, none, .mv (.t 1)⟩, 
      ⟨some 5, none, .mv (.t 12)⟩])
  (.seq (.seq (.reg [⟨some 13, none, .mv (.t 5)⟩, 
        ⟨some 14, none, .bin .gtr (.t 13) (.k (.i .i64 40))⟩, 
        ⟨some 15, none, .mv (.t 14)⟩, 
        ⟨some 16, some (15, true), .mv (.t 5)⟩, 
        ⟨some 17, some (15, true), .bin .leq (.t 16) (.k (.i .i64 65536))⟩, 
        ⟨some 18, none, .pick (.t 15) (.t 17) (.k (.b false))⟩, 
        ⟨some 19, none, .mv (.t 18)⟩, 
        ⟨some 20, some (19, true), .fad 1 (.t 2)⟩, 
        ⟨some 21, some (19, true), .ld false 1 (.t 20)⟩, 
        ⟨some 22, some (19, true), .call 6 [(1, (.t 21))]⟩, 
        ⟨some 23, some (19, true), .bin .gtr (.t 22) (.k (.i .i64 1))⟩, 
        ⟨some 24, none, .pick (.t 19) (.t 23) (.k (.b false))⟩])
    (.cond (.t 24)
    (.reg [⟨some 25, none, .mv (.t 5)⟩, 
        ⟨some 26, none, .bin .rem (.t 25) (.k (.i .i64 41))⟩, 
        ⟨some 5, none, .mv (.t 26)⟩])
    (.skip)))
  (.seq (.reg [⟨some 28, none, .ld true 2 (.t 2)⟩, 
      ⟨some 29, none, .mv (.t 5)⟩, 
      ⟨some 30, none, .call 7 [(1, (.t 28)), (1, (.t 29))]⟩, 
      ⟨some 27, none, .mv (.t 30)⟩, 
      ⟨some 31, none, .ext (.t 27) 0⟩, 
      ⟨some 32, none, .ext (.t 27) 1⟩, 
      ⟨some 6, none, .al 25 [(.b false), (.l 1 [])]⟩, 
      ⟨none, none, .st 2 (.t 6) (.t 31)⟩, 
      ⟨some 7, none, .mv (.t 32)⟩])
  (.seq (.reg [⟨some 34, none, .ld true 2 (.t 2)⟩, 
      ⟨some 35, none, .mv (.t 5)⟩, 
      ⟨some 36, none, .call 8 [(1, (.t 34)), (1, (.t 35))]⟩, 
      ⟨some 33, none, .mv (.t 36)⟩, 
      ⟨some 37, none, .ext (.t 33) 0⟩, 
      ⟨some 38, none, .ext (.t 33) 1⟩, 
      ⟨some 8, none, .al 25 [(.b false), (.l 1 [])]⟩, 
      ⟨none, none, .st 2 (.t 8) (.t 37)⟩, 
      ⟨some 9, none, .mv (.t 38)⟩])
  (.seq (.seq (.reg [⟨some 39, none, .ld true 2 (.t 6)⟩, 
        ⟨some 40, none, .ld true 2 (.t 8)⟩, 
        ⟨some 41, none, .call 9 [(1, (.t 39)), (1, (.t 40))]⟩, 
        ⟨some 42, none, .un .not (.t 41)⟩, 
        ⟨some 43, none, .mv (.t 42)⟩, 
        ⟨some 44, some (43, false), .mv (.t 7)⟩, 
        ⟨some 45, some (43, false), .mv (.t 9)⟩, 
        ⟨some 46, some (43, false), .bin .neq (.t 44) (.t 45)⟩, 
        ⟨some 47, none, .pick (.t 43) (.k (.b true)) (.t 46)⟩])
    (.cond (.t 47)
    (.seq (.reg [⟨some 4, none, .mv (.k (.b false))⟩])
      (.ret))
    (.skip)))
  (.seq (.reg [⟨some 49, none, .ld true 2 (.t 2)⟩, 
      ⟨some 50, none, .mv (.t 1)⟩, 
      ⟨some 51, none, .call 10 [(1, (.t 49)), (1, (.t 50))]⟩, 
      ⟨some 48, none, .mv (.t 51)⟩, 
      ⟨some 52, none, .ext (.t 48) 0⟩, 
      ⟨some 53, none, .ext (.t 48) 1⟩, 
      ⟨none, none, .st 2 (.t 6) (.t 52)⟩, 
      ⟨some 7, none, .mv (.t 53)⟩])
  (.seq (.reg [⟨some 55, none, .ld true 2 (.t 2)⟩, 
      ⟨some 56, none, .mv (.t 1)⟩, 
      ⟨some 57, none, .call 11 [(1, (.t 55)), (1, (.t 56))]⟩, 
      ⟨some 54, none, .mv (.t 57)⟩, 
      ⟨some 58, none, .ext (.t 54) 0⟩, 
      ⟨some 59, none, .ext (.t 54) 1⟩, 
      ⟨none, none, .st 2 (.t 8) (.t 58)⟩, 
      ⟨some 9, none, .mv (.t 59)⟩])
  (.seq (.seq (.reg [⟨some 60, none, .ld true 2 (.t 6)⟩, 
        ⟨some 61, none, .ld true 2 (.t 8)⟩, 
        ⟨some 62, none, .call 9 [(1, (.t 60)), (1, (.t 61))]⟩, 
        ⟨some 63, none, .un .not (.t 62)⟩, 
        ⟨some 64, none, .mv (.t 63)⟩, 
        ⟨some 65, some (64, false), .mv (.t 7)⟩, 
        ⟨some 66, some (64, false), .mv (.t 9)⟩, 
        ⟨some 67, some (64, false), .bin .neq (.t 65) (.t 66)⟩, 
        ⟨some 68, none, .pick (.t 64) (.k (.b true)) (.t 67)⟩])
    (.cond (.t 68)
    (.seq (.reg [⟨some 4, none, .mv (.k (.b false))⟩])
      (.ret))
    (.skip)))
  (.seq (.reg [⟨some 70, none, .ld true 2 (.t 2)⟩, 
      ⟨some 71, none, .mv (.t 1)⟩, 
      ⟨some 72, none, .call 12 [(1, (.t 70)), (1, (.t 71))]⟩, 
      ⟨some 69, none, .mv (.t 72)⟩, 
      ⟨some 73, none, .ext (.t 69) 0⟩, 
      ⟨some 74, none, .ext (.t 69) 1⟩, 
      ⟨none, none, .st 2 (.t 6) (.t 73)⟩, 
      ⟨some 7, none, .mv (.t 74)⟩])
  (.seq (.reg [⟨some 76, none, .ld true 2 (.t 2)⟩, 
      ⟨some 77, none, .mv (.t 1)⟩, 
      ⟨some 78, none, .call 13 [(1, (.t 76)), (1, (.t 77))]⟩, 
      ⟨some 75, none, .mv (.t 78)⟩, 
      ⟨some 79, none, .ext (.t 75) 0⟩, 
      ⟨some 80, none, .ext (.t 75) 1⟩, 
      ⟨none, none, .st 2 (.t 8) (.t 79)⟩, 
      ⟨some 9, none, .mv (.t 80)⟩])
  (.seq (.reg [⟨some 81, none, .ld true 2 (.t 6)⟩, 
      ⟨some 82, none, .ld true 2 (.t 8)⟩, 
      ⟨some 83, none, .call 9 [(1, (.t 81)), (1, (.t 82))]⟩, 
      ⟨some 84, none, .mv (.t 83)⟩, 
      ⟨some 85, some (84, true), .mv (.t 7)⟩, 
      ⟨some 86, some (84, true), .mv (.t 9)⟩, 
      ⟨some 87, some (84, true), .bin .eql (.t 85) (.t 86)⟩, 
      ⟨some 88, none, .pick (.t 84) (.t 87) (.k (.b false))⟩, 
      ⟨some 4, none, .mv (.t 88)⟩])
  (.ret)))))))))))))
theorem zzPowers_spec (s : Bool) (a : List Nat) (n : Int) (m : Nat) (hm : m ≤ 1100000) (h0 : 1 ≤ m) (ha : Wd a) (la : a.length ≤ m) (n1 : -9223372036854775808 ≤ n) (n2 : n < 9223372036854775808) : AFun Tryd.prog J0 3 [zL s a, .i .i64 n] (.b true) := by
  have l1 := zv_lt (s := s) ha la
  have hu := nvlt ha la
  have pb := rbits_spec a ha (by omega)
  rw [bl_dg2] at pb
  have p3 := rzshl_spec s a n ha (by omega)
  have p4 := zshl_spec s a n ha (by omega)
  have q2 := zsame_true (rfl : zlV (zv s a) n = zlV (zv s a) n) (zlV_lt l1) (by omega)
  have p5 := rzshr_spec s a n ha (by omega) n2
  have p6 := zshr_spec s a n ha (by omega) n2
  have q3 := zsame_true (rfl : zrV (zv s a) n = zrV (zv s a) n) (zrV_lt l1) (by omega)
  have pw : ∀ (k K : Nat), K * (k + 1) + 1 ≤ 100000000 → 1 ≤ K → k ≤ 65536 → nv B a < B ^ K → ∃ z : Int, AFun Tryd.prog J0 7 [zL s a, .i .i64 (k : Int)] (.t [zN z, .i .i64 0]) ∧ AFun Tryd.prog J0 8 [zL s a, .i .i64 (k : Int)] (.t [zN z, .i .i64 0]) ∧ AFun Tryd.prog J0 9 [zN z, zN z] (.b true) := fun k K k1 k2 k3 k4 => by
    refine ⟨(zv s a) ^ k, rzpow_spec s a k K k1 k2 k3 ha (by omega) k4, zpowG_spec s a k K k1 k2 k3 ha (by omega) k4, zsame_true (m := K * k + 1) rfl ?_ ?_⟩
    · rw [Int.natAbs_pow, zv_abs]; exact pow_B k4 k2
    · have : K * (k + 1) = K * k + K := Nat.mul_succ K k
      omega
  have pe := fun h => rzpowE_spec s a n h
  have pe' := fun h => zpowE_spec s a n h
  have q0 := zsame_true (rfl : (0 : Int) = 0) (m := 1) (by decide) (by decide)
  generalize zlV (zv s a) n = x1 at *
  generalize zlE n = x2 at *
  generalize zrV (zv s a) n = x3 at *
  generalize zrE n = x4 at *
  have h41 : ¬ (41 : Int) = 0 := by decide
  by_cases hA : n < 0 ∨ 65536 < n
  · have pe := pe hA
    have pe' := pe' hA
    rcases Decidable.em ((40 : Int) < n) with hB | hB
    have hC : ¬ n ≤ 65536 := by omega
    rotate_left
    have hC : n ≤ 65536 := by omega
    all_goals
      refine AFun.mk fol J0s Tryd.func3 rfl (ac := a3) (by kernel_rfl) rfl rfl ?_
      apply vm_start
      unfold a3
      simp only [init_eq, initE]
      have zc1 := zknown_spec
      have zc2 := pe
      have zc3 := pe'
      have zc4 := q0
      have zc5 := p3
      have zc6 := p4
      have zc7 := q2
      have zc8 := p5
      have zc9 := p6
      have zc10 := q3
      repeat first | (refine hK _ ?_; clear hK K) | simp only [Sv, ↓reduceIte, Nat.reduceEqDiff] | ((first | refine vm_reg (fun K hK => ?_) | refine vm_dreg (fun K hK => ?_) | refine vm_dregx (fun K hK => ?_) | refine clp_q ?_ | refine clq_mk (by assumption) ?_); simp (disch := (first | omega | assumption)) only [S1, ↓reduceIte, Nat.reduceEqDiff, Nat.reduceAdd, Nat.reduceMul, Nat.reduceDiv, AOp.sb, AOp.mut, ↓Bool.false_eq_true, beq_self_eq_true, ite_self, Nat.reduceLeDiff, Int.reduceEq, Int.reduceSub, Int.reduceAdd, Int.reduceNeg, Int.reduceLT, Int.reduceLE, Nat.reduceLT, bz_LZPowers, List.length_nil, hB, hC, zN_0])
      simp (disch := (first | omega | assumption)) only [retOk, retN, ret1, retF, ret1F, V.okArg, and_true, true_and, S1, ↓reduceIte, Nat.reduceEqDiff, Nat.reduceAdd, Nat.reduceMul, Nat.reduceDiv, AOp.sb, AOp.mut, ↓Bool.false_eq_true, beq_self_eq_true, ite_self, Nat.reduceLeDiff, Int.reduceEq, Int.reduceSub, Int.reduceAdd, Int.reduceNeg, Int.reduceLT, Int.reduceLE, Nat.reduceLT, bz_LZPowers, List.length_nil, hB, hC, zN_0]
  · obtain ⟨k, rfl⟩ : ∃ k : Nat, n = (k : Int) := ⟨n.toNat, by omega⟩
    have hC : ((k : Nat) : Int) ≤ 65536 := by omega
    by_cases hB : (40 : Int) < (k : Int)
    · by_cases hD : (1 : Int) < ((bl (nv B a) : Nat) : Int)
      · obtain ⟨z, e1, e2, e3⟩ := pw (k % 41) m (by have : m * (k % 41 + 1) ≤ m * 41 := Nat.mul_le_mul_left _ (by omega); omega) h0 (by omega) hu
        have hrem : ((k : Nat) : Int).tmod 41 = ((k % 41 : Nat) : Int) := rfl
        refine AFun.mk fol J0s Tryd.func3 rfl (ac := a3) (by kernel_rfl) rfl rfl ?_
        apply vm_start
        unfold a3
        simp only [init_eq, initE]
        have zc11 := zknown_spec
        have zc12 := pb
        have zc13 := e1
        have zc14 := e2
        have zc15 := e3
        have zc16 := p3
        have zc17 := p4
        have zc18 := q2
        have zc19 := p5
        have zc20 := p6
        have zc21 := q3
        repeat first | (refine hK _ ?_; clear hK K) | simp only [Sv, ↓reduceIte, Nat.reduceEqDiff] | ((first | refine vm_reg (fun K hK => ?_) | refine vm_dreg (fun K hK => ?_) | refine vm_dregx (fun K hK => ?_) | refine clp_q ?_ | refine clq_mk (by assumption) ?_); simp (disch := (first | omega | assumption)) only [S1, ↓reduceIte, Nat.reduceEqDiff, Nat.reduceAdd, Nat.reduceMul, Nat.reduceDiv, AOp.sb, AOp.mut, ↓Bool.false_eq_true, beq_self_eq_true, ite_self, Nat.reduceLeDiff, Int.reduceEq, Int.reduceSub, Int.reduceAdd, Int.reduceNeg, Int.reduceLT, Int.reduceLE, Nat.reduceLT, bz_LZPowers, List.length_nil, hB, hC, hD, hrem, h41])
        simp (disch := (first | omega | assumption)) only [retOk, retN, ret1, retF, ret1F, V.okArg, and_true, true_and, S1, ↓reduceIte, Nat.reduceEqDiff, Nat.reduceAdd, Nat.reduceMul, Nat.reduceDiv, AOp.sb, AOp.mut, ↓Bool.false_eq_true, beq_self_eq_true, ite_self, Nat.reduceLeDiff, Int.reduceEq, Int.reduceSub, Int.reduceAdd, Int.reduceNeg, Int.reduceLT, Int.reduceLE, Nat.reduceLT, bz_LZPowers, List.length_nil, hB, hC, hD, hrem, h41]
      · have hu1 : nv B a < B ^ 1 := by
          have h1 := bl_lt (nv B a)
          have h2 : 2 ^ bl (nv B a) ≤ 2 ^ 1 := Nat.pow_le_pow_right (by decide) (by omega)
          rw [Nat.pow_one]
          exact Nat.lt_of_lt_of_le h1 (Nat.le_trans h2 (by decide))
        obtain ⟨z, e1, e2, e3⟩ := pw k 1 (by omega) (Nat.le_refl _) (by omega) hu1
        refine AFun.mk fol J0s Tryd.func3 rfl (ac := a3) (by kernel_rfl) rfl rfl ?_
        apply vm_start
        unfold a3
        simp only [init_eq, initE]
        have zc22 := zknown_spec
        have zc23 := pb
        have zc24 := e1
        have zc25 := e2
        have zc26 := e3
        have zc27 := p3
        have zc28 := p4
        have zc29 := q2
        have zc30 := p5
        have zc31 := p6
        have zc32 := q3
        repeat first | (refine hK _ ?_; clear hK K) | simp only [Sv, ↓reduceIte, Nat.reduceEqDiff] | ((first | refine vm_reg (fun K hK => ?_) | refine vm_dreg (fun K hK => ?_) | refine vm_dregx (fun K hK => ?_) | refine clp_q ?_ | refine clq_mk (by assumption) ?_); simp (disch := (first | omega | assumption)) only [S1, ↓reduceIte, Nat.reduceEqDiff, Nat.reduceAdd, Nat.reduceMul, Nat.reduceDiv, AOp.sb, AOp.mut, ↓Bool.false_eq_true, beq_self_eq_true, ite_self, Nat.reduceLeDiff, Int.reduceEq, Int.reduceSub, Int.reduceAdd, Int.reduceNeg, Int.reduceLT, Int.reduceLE, Nat.reduceLT, bz_LZPowers, List.length_nil, hB, hC, hD])
        simp (disch := (first | omega | assumption)) only [retOk, retN, ret1, retF, ret1F, V.okArg, and_true, true_and, S1, ↓reduceIte, Nat.reduceEqDiff, Nat.reduceAdd, Nat.reduceMul, Nat.reduceDiv, AOp.sb, AOp.mut, ↓Bool.false_eq_true, beq_self_eq_true, ite_self, Nat.reduceLeDiff, Int.reduceEq, Int.reduceSub, Int.reduceAdd, Int.reduceNeg, Int.reduceLT, Int.reduceLE, Nat.reduceLT, bz_LZPowers, List.length_nil, hB, hC, hD]
    · obtain ⟨z, e1, e2, e3⟩ := pw k m (by have : m * (k + 1) ≤ m * 41 := Nat.mul_le_mul_left _ (by omega); omega) h0 (by omega) hu
      refine AFun.mk fol J0s Tryd.func3 rfl (ac := a3) (by kernel_rfl) rfl rfl ?_
      apply vm_start
      unfold a3
      simp only [init_eq, initE]
      have zc33 := zknown_spec
      have zc34 := e1
      have zc35 := e2
      have zc36 := e3
      have zc37 := p3
      have zc38 := p4
      have zc39 := q2
      have zc40 := p5
      have zc41 := p6
      have zc42 := q3
      repeat first | (refine hK _ ?_; clear hK K) | simp only [Sv, ↓reduceIte, Nat.reduceEqDiff] | ((first | refine vm_reg (fun K hK => ?_) | refine vm_dreg (fun K hK => ?_) | refine vm_dregx (fun K hK => ?_) | refine clp_q ?_ | refine clq_mk (by assumption) ?_); simp (disch := (first | omega | assumption)) only [S1, ↓reduceIte, Nat.reduceEqDiff, Nat.reduceAdd, Nat.reduceMul, Nat.reduceDiv, AOp.sb, AOp.mut, ↓Bool.false_eq_true, beq_self_eq_true, ite_self, Nat.reduceLeDiff, Int.reduceEq, Int.reduceSub, Int.reduceAdd, Int.reduceNeg, Int.reduceLT, Int.reduceLE, Nat.reduceLT, bz_LZPowers, List.length_nil, hB, hC])
      simp (disch := (first | omega | assumption)) only [retOk, retN, ret1, retF, ret1F, V.okArg, and_true, true_and, S1, ↓reduceIte, Nat.reduceEqDiff, Nat.reduceAdd, Nat.reduceMul, Nat.reduceDiv, AOp.sb, AOp.mut, ↓Bool.false_eq_true, beq_self_eq_true, ite_self, Nat.reduceLeDiff, Int.reduceEq, Int.reduceSub, Int.reduceAdd, Int.reduceNeg, Int.reduceLT, Int.reduceLE, Nat.reduceLT, bz_LZPowers, List.length_nil, hB, hC]
end Go.Proofs.YtnjjeephbeoakaaDoor
