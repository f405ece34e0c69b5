/-
  div: the guess of a quotient's digit.
-/
import Derived.Test.YtngohbpgdeiodaaM4
namespace Go.Proofs.Ytngohbpgdeiodaa
open Go Go.RowKit Ab
set_option linter.unusedSimpArgs false
set_option linter.unusedVariables false
set_option maxHeartbeats 10000000

theorem kstop {b v1 v0 u w q r : Nat} (h : q * v1 + r = u) (h2 : q * v0 ≤ r * b + w) : q * (v1 * b + v0) ≤ u * b + w := by
  rw [← h, Nat.mul_add, Nat.add_mul, Nat.mul_assoc]; omega
theorem kover {b v1 v0 u w q r : Nat} (h : q * v1 + r = u) (h2 : r * b + w < q * v0) : u * b + w < q * (v1 * b + v0) := by
  rw [← h, Nat.mul_add, Nat.add_mul, Nat.mul_assoc]; omega
theorem kmin {Y N q q0 : Nat} (hY : 0 < Y) (h1 : q * Y ≤ N) (h2 : q ≤ q0) (h3 : q = q0 ∨ N < (q + 1) * Y) : q = min q0 (N / Y) := by
  have h4 := (Nat.le_div_iff_mul_le hY).2 h1
  rcases h3 with h | h
  · omega
  · have := (Nat.div_lt_iff_lt_mul hY).2 h
    omega
theorem big_le {q v0 r w : Nat} (hq : q ≤ 18446744073709551616) (hv : v0 ≤ 18446744073709551616) (hr : 18446744073709551616 ≤ r) : q * v0 ≤ r * 18446744073709551616 + w := by
  have h1 := Nat.mul_le_mul hq hv
  omega
theorem two_cmp {hi lo p r w : Nat} (e : 18446744073709551616 * hi + lo = p) (h : hi < r ∨ hi = r ∧ lo ≤ w) (hl : lo < 18446744073709551616) : p ≤ r * 18446744073709551616 + w := by omega
theorem two_cmp' {hi lo p r w : Nat} (e : 18446744073709551616 * hi + lo = p) (h : ¬ (hi < r ∨ hi = r ∧ lo ≤ w)) (hw : w < 18446744073709551616) : r * 18446744073709551616 + w < p := by omega

-- surd/div.correct
def a100 : AC := .seq (.reg [⟨some 10, none, .mv (.k (.i .u64 0))⟩])
  (.seq (.skip)
  (.seq (.blk 0
    (.loop
      (.blk 1
        (.seq (.reg [⟨some 15, none, .mv (.t 0)⟩, 
              ⟨some 16, none, .mv (.t 4)⟩, 
              ⟨some 17, none, .call 103 [(1, (.t 15)), (1, (.t 16))]⟩, 
              ⟨some 14, none, .mv (.t 17)⟩, 
              ⟨some 18, none, .ext (.t 14) 0⟩, 
              ⟨some 19, none, .ext (.t 14) 1⟩, 
              ⟨some 11, none, .mv (.t 18)⟩, 
              ⟨some 12, none, .mv (.t 19)⟩])
          (.seq (.seq (.reg [⟨some 20, none, .mv (.t 11)⟩, 
                ⟨some 21, none, .mv (.t 1)⟩, 
                ⟨some 22, none, .bin .lss (.t 20) (.t 21)⟩, 
                ⟨some 23, none, .mv (.t 22)⟩, 
                ⟨some 24, some (23, false), .mv (.t 11)⟩, 
                ⟨some 25, some (23, false), .mv (.t 1)⟩, 
                ⟨some 26, some (23, false), .bin .eql (.t 24) (.t 25)⟩, 
                ⟨some 27, some (23, false), .mv (.t 26)⟩, 
                ⟨some 28, some (27, true), .mv (.t 12)⟩, 
                ⟨some 29, some (27, true), .mv (.t 2)⟩, 
                ⟨some 30, some (27, true), .bin .leq (.t 28) (.t 29)⟩, 
                ⟨some 31, some (23, false), .pick (.t 27) (.t 30) (.k (.b false))⟩, 
                ⟨some 32, none, .pick (.t 23) (.k (.b true)) (.t 31)⟩])
            (.cond (.t 32)
            (.exit 0)
            (.skip)))
          (.seq (.reg [⟨some 33, none, .mv (.t 0)⟩, 
              ⟨some 34, none, .bin .sub (.t 33) (.k (.i .u64 1))⟩, 
              ⟨some 0, none, .mv (.t 34)⟩])
          (.seq (.reg [⟨some 13, none, .mv (.k (.i .u64 0))⟩])
          (.seq (.reg [⟨some 36, none, .mv (.t 1)⟩, 
              ⟨some 37, none, .mv (.t 3)⟩, 
              ⟨some 38, none, .xcall 99 [(.t 36), (.t 37), (.k (.i .u64 0))]⟩, 
              ⟨some 35, none, .mv (.t 38)⟩, 
              ⟨some 39, none, .ext (.t 35) 0⟩, 
              ⟨some 40, none, .ext (.t 35) 1⟩, 
              ⟨some 1, none, .mv (.t 39)⟩, 
              ⟨some 13, none, .mv (.t 40)⟩])
          (.seq (.reg [⟨some 41, none, .mv (.t 13)⟩, 
              ⟨some 42, none, .bin .eql (.t 41) (.k (.i .u64 1))⟩])
          (.cond (.t 42)
          (.exit 0)
          (.skip)))))))))))
  (.seq (.reg [⟨some 43, none, .mv (.t 0)⟩, 
      ⟨some 10, none, .mv (.t 43)⟩])
  (.ret))))
theorem correct_spec (q0 r0 u0 v1 v0 u : Nat) (hqB : q0 < 18446744073709551616) (hrB : r0 < 18446744073709551616) (hu0 : u0 < 18446744073709551616) (hv1 : v1 < 18446744073709551616) (hv0 : v0 < 18446744073709551616)
    (hY : 0 < v1 * 18446744073709551616 + v0) (hu : q0 * v1 + r0 = u) :
    AFun Try.prog J0 100 [.i .u64 (q0 : Int), .i .u64 (r0 : Int), .i .u64 (u0 : Int), .i .u64 (v1 : Int), .i .u64 (v0 : Int)] (.i .u64 ((min q0 ((u * 18446744073709551616 + u0) / (v1 * 18446744073709551616 + v0)) : Nat) : Int)) := by
  refine AFun.mk fol J0s Try.func100 rfl (ac := a100) (by kernel_rfl) rfl rfl ?_
  apply vm_start
  unfold a100
  simp only [init_eq, initE]
  repeat first
    | (refine hK _ ?_; clear hK K)
    | ((first | refine vm_reg (fun K hK => ?_) | refine vm_dreg (fun K hK => ?_)); simp (disch := (first | omega | assumption)) only [S1, ↓reduceIte, Nat.reduceEqDiff, Nat.reduceAdd, Nat.reduceMul, Nat.reduceDiv, AOp.sb, AOp.mut, ↓Bool.false_eq_true, beq_self_eq_true, ite_self, Nat.reduceLeDiff, Int.reduceEq, Int.reduceSub, Int.reduceAdd, Int.reduceNeg, Int.reduceLT, Int.reduceLE, Nat.reduceLT, wi, tn_nat, Nat.div_one, Nat.mul_one]; refine hK _ ?_; clear hK K)
    | simp only [Sv, ↓reduceIte, Nat.reduceEqDiff]
  refine vm_loopA [] (Nat × Nat) (fun x => ⟨[(0, .i .u64 (x.1 : Int)), (1, .i .u64 (x.2 : Int)), (2, .i .u64 (u0 : Int)), (3, .i .u64 (v1 : Int)), (4, .i .u64 (v0 : Int))], [], 0⟩)
    (fun x => x.1 * v1 + x.2 = u ∧ x.2 < 18446744073709551616 ∧ x.1 ≤ q0 ∧ (x.1 = q0 ∨ u * 18446744073709551616 + u0 < (x.1 + 1) * (v1 * 18446744073709551616 + v0))) (fun x => x.1) (q0, r0)
    ⟨hu, hrB, Nat.le_refl _, .inl rfl⟩ (by simp (disch := (first | omega | assumption)) only [Sl, Sa, Sw, ↓reduceIte, Nat.reduceEqDiff, Nat.reduceLT, List.all_nil, List.all_cons, Nat.reduceBneDiff, Nat.reduceAdd, bne_iff_ne, ne_eq, reduceCtorEq, not_false_eq_true, not_true_eq_false, Bool.and_true, Bool.true_and, and_true, true_and, and_self]) (by
    simp (disch := (first | omega | assumption)) only [Sl, Sa, Sw, ↓reduceIte, Nat.reduceEqDiff, Nat.reduceLT, List.all_nil, List.all_cons, Nat.reduceBneDiff, Nat.reduceAdd, bne_iff_ne, ne_eq, reduceCtorEq, not_false_eq_true, not_true_eq_false, Bool.and_true, Bool.true_and, and_true, true_and, and_self, i_eq]
    repeat' first | rfl | omega | (simp only [List.length_append, List.length_cons, List.length_nil]; done) | apply And.intro) ?_
  rintro ⟨q, r⟩ ⟨hq1, hr1, hq2, hq3⟩ Q' hQ he hr
  simp only [] at hq1 hr1 hq2 hq3 ⊢
  have hmu := mul64_spec q v0 (by omega) hv0
  have hp := Nat.div_add_mod (q * v0) 18446744073709551616
  have hlo := Nat.mod_lt (q * v0) (show 0 < 18446744073709551616 by decide)
  generalize q * v0 / 18446744073709551616 = hh at *
  generalize q * v0 % 18446744073709551616 = ll at *
  by_cases t1 : (hh : Int) < (r : Int)
  · have zc1 := hmu
    repeat first | (refine hK _ ?_; clear hK K) | simp only [Sv, ↓reduceIte, Nat.reduceEqDiff] | ((first | refine vm_reg (fun K hK => ?_) | refine vm_dreg (fun K hK => ?_) | refine clp_q ?_ | refine clq_mk (by assumption) ?_); simp (disch := (first | omega | assumption)) only [S1, ↓reduceIte, Nat.reduceEqDiff, Nat.reduceAdd, Nat.reduceMul, Nat.reduceDiv, AOp.sb, AOp.mut, ↓Bool.false_eq_true, beq_self_eq_true, ite_self, Nat.reduceLeDiff, Int.reduceEq, Int.reduceSub, Int.reduceAdd, Int.reduceNeg, Int.reduceLT, Int.reduceLE, Nat.reduceLT, wi, tn_nat, Nat.div_one, Nat.mul_one, t1])
    refine he _ _ ?_
    have hqe := kmin hY (kstop hq1 (two_cmp hp (by omega) hlo)) hq2 hq3
    rw [← hqe]
    repeat first
      | (refine hK _ ?_; clear hK K)
      | ((first | refine vm_reg (fun K hK => ?_) | refine vm_dreg (fun K hK => ?_)); simp (disch := (first | omega | assumption)) only [S1, ↓reduceIte, Nat.reduceEqDiff, Nat.reduceAdd, Nat.reduceMul, Nat.reduceDiv, AOp.sb, AOp.mut, ↓Bool.false_eq_true, beq_self_eq_true, ite_self, Nat.reduceLeDiff, Int.reduceEq, Int.reduceSub, Int.reduceAdd, Int.reduceNeg, Int.reduceLT, Int.reduceLE, Nat.reduceLT, wi, tn_nat, Nat.div_one, Nat.mul_one]; refine hK _ ?_; clear hK K)
      | simp only [Sv, ↓reduceIte, Nat.reduceEqDiff]
    simp (disch := (first | omega | assumption)) only [retOk, retN, ret1, retF, ret1F, V.okArg, and_true, true_and, S1, ↓reduceIte, Nat.reduceEqDiff, Nat.reduceAdd, Nat.reduceMul, Nat.reduceDiv, AOp.sb, AOp.mut, ↓Bool.false_eq_true, beq_self_eq_true, ite_self, Nat.reduceLeDiff, Int.reduceEq, Int.reduceSub, Int.reduceAdd, Int.reduceNeg, Int.reduceLT, Int.reduceLE, Nat.reduceLT, wi, tn_nat, Nat.div_one, Nat.mul_one]
  · by_cases t2 : (hh : Int) = (r : Int)
    · obtain rfl : r = hh := by omega
      by_cases t3 : (ll : Int) ≤ (u0 : Int)
      · have zc2 := hmu
        repeat first | (refine hK _ ?_; clear hK K) | simp only [Sv, ↓reduceIte, Nat.reduceEqDiff] | ((first | refine vm_reg (fun K hK => ?_) | refine vm_dreg (fun K hK => ?_) | refine clp_q ?_ | refine clq_mk (by assumption) ?_); simp (disch := (first | omega | assumption)) only [S1, ↓reduceIte, Nat.reduceEqDiff, Nat.reduceAdd, Nat.reduceMul, Nat.reduceDiv, AOp.sb, AOp.mut, ↓Bool.false_eq_true, beq_self_eq_true, ite_self, Nat.reduceLeDiff, Int.reduceEq, Int.reduceSub, Int.reduceAdd, Int.reduceNeg, Int.reduceLT, Int.reduceLE, Nat.reduceLT, wi, tn_nat, Nat.div_one, Nat.mul_one, Int.lt_irrefl, eq_self, t3])
        refine he _ _ ?_
        have hqe := kmin hY (kstop hq1 (two_cmp hp (by omega) hlo)) hq2 hq3
        rw [← hqe]
        repeat first
          | (refine hK _ ?_; clear hK K)
          | ((first | refine vm_reg (fun K hK => ?_) | refine vm_dreg (fun K hK => ?_)); simp (disch := (first | omega | assumption)) only [S1, ↓reduceIte, Nat.reduceEqDiff, Nat.reduceAdd, Nat.reduceMul, Nat.reduceDiv, AOp.sb, AOp.mut, ↓Bool.false_eq_true, beq_self_eq_true, ite_self, Nat.reduceLeDiff, Int.reduceEq, Int.reduceSub, Int.reduceAdd, Int.reduceNeg, Int.reduceLT, Int.reduceLE, Nat.reduceLT, wi, tn_nat, Nat.div_one, Nat.mul_one]; refine hK _ ?_; clear hK K)
          | simp only [Sv, ↓reduceIte, Nat.reduceEqDiff]
        simp (disch := (first | omega | assumption)) only [retOk, retN, ret1, retF, ret1F, V.okArg, and_true, true_and, S1, ↓reduceIte, Nat.reduceEqDiff, Nat.reduceAdd, Nat.reduceMul, Nat.reduceDiv, AOp.sb, AOp.mut, ↓Bool.false_eq_true, beq_self_eq_true, ite_self, Nat.reduceLeDiff, Int.reduceEq, Int.reduceSub, Int.reduceAdd, Int.reduceNeg, Int.reduceLT, Int.reduceLE, Nat.reduceLT, wi, tn_nat, Nat.div_one, Nat.mul_one]
      · repeat first | (refine hK _ ?_; clear hK K) | simp only [Sv, ↓reduceIte, Nat.reduceEqDiff] | ((first | refine vm_reg (fun K hK => ?_) | refine vm_dreg (fun K hK => ?_)); simp (disch := (first | omega | assumption)) only [S1, ↓reduceIte, Nat.reduceEqDiff, Nat.reduceAdd, Nat.reduceMul, Nat.reduceDiv, AOp.sb, AOp.mut, ↓Bool.false_eq_true, beq_self_eq_true, ite_self, Nat.reduceLeDiff, Int.reduceEq, Int.reduceSub, Int.reduceAdd, Int.reduceNeg, Int.reduceLT, Int.reduceLE, Nat.reduceLT, wi, tn_nat, Nat.div_one, Nat.mul_one])
        refine clp_of _ _ (hmu) ?_ ?_
        · first | rfl | (simp (disch := (first | omega | assumption)) only [S1, ↓reduceIte, Nat.reduceEqDiff, Nat.reduceAdd, Nat.reduceMul, Nat.reduceDiv, AOp.sb, AOp.mut, ↓Bool.false_eq_true, beq_self_eq_true, ite_self, Nat.reduceLeDiff, Int.reduceEq, Int.reduceSub, Int.reduceAdd, Int.reduceNeg, Int.reduceLT, Int.reduceLE, Nat.reduceLT, wi, tn_nat, Nat.div_one, Nat.mul_one])
        simp (disch := (first | omega | assumption)) only [S1, ↓reduceIte, Nat.reduceEqDiff, Nat.reduceAdd, Nat.reduceMul, Nat.reduceDiv, AOp.sb, AOp.mut, ↓Bool.false_eq_true, beq_self_eq_true, ite_self, Nat.reduceLeDiff, Int.reduceEq, Int.reduceSub, Int.reduceAdd, Int.reduceNeg, Int.reduceLT, Int.reduceLE, Nat.reduceLT, wi, tn_nat, Nat.div_one, Nat.mul_one]
        have hover := kover hq1 (two_cmp' hp (by omega) hu0)
        have hq0 : 1 ≤ q := by
          rcases Nat.eq_zero_or_pos q with h | h
          · subst h; simp at hover
          · exact h
        have hsm := sub_mul1 hq1 hq0
        by_cases hc : (((r + v1) / 18446744073709551616 : Nat) : Int) = 1
        · repeat first | (refine hK _ ?_; clear hK K) | simp only [Sv, ↓reduceIte, Nat.reduceEqDiff] | ((first | refine vm_reg (fun K hK => ?_) | refine vm_dreg (fun K hK => ?_)); simp (disch := (first | omega | assumption)) only [S1, ↓reduceIte, Nat.reduceEqDiff, Nat.reduceAdd, Nat.reduceMul, Nat.reduceDiv, AOp.sb, AOp.mut, ↓Bool.false_eq_true, beq_self_eq_true, ite_self, Nat.reduceLeDiff, Int.reduceEq, Int.reduceSub, Int.reduceAdd, Int.reduceNeg, Int.reduceLT, Int.reduceLE, Nat.reduceLT, wi, tn_nat, Nat.div_one, Nat.mul_one, Int.lt_irrefl, eq_self, t3, subU1])
          refine xlp_mk _ (add64_x r v1) ?_
          simp (disch := (first | omega | assumption)) only [S1, ↓reduceIte, Nat.reduceEqDiff, Nat.reduceAdd, Nat.reduceMul, Nat.reduceDiv, AOp.sb, AOp.mut, ↓Bool.false_eq_true, beq_self_eq_true, ite_self, Nat.reduceLeDiff, Int.reduceEq, Int.reduceSub, Int.reduceAdd, Int.reduceNeg, Int.reduceLT, Int.reduceLE, Nat.reduceLT, wi, tn_nat, Nat.div_one, Nat.mul_one, Int.lt_irrefl, eq_self, t3, subU1]
          repeat first
            | (refine hK _ ?_; clear hK K)
            | ((first | refine vm_reg (fun K hK => ?_) | refine vm_dreg (fun K hK => ?_)); simp (disch := (first | omega | assumption)) only [S1, ↓reduceIte, Nat.reduceEqDiff, Nat.reduceAdd, Nat.reduceMul, Nat.reduceDiv, AOp.sb, AOp.mut, ↓Bool.false_eq_true, beq_self_eq_true, ite_self, Nat.reduceLeDiff, Int.reduceEq, Int.reduceSub, Int.reduceAdd, Int.reduceNeg, Int.reduceLT, Int.reduceLE, Nat.reduceLT, wi, tn_nat, Nat.div_one, Nat.mul_one, hc]; refine hK _ ?_; clear hK K)
            | simp only [Sv, ↓reduceIte, Nat.reduceEqDiff]
          refine he _ _ ?_
          have hst := kstop hsm (big_le (w := u0) (show q - 1 ≤ 18446744073709551616 by omega) (Nat.le_of_lt hv0) (show 18446744073709551616 ≤ r + v1 by omega))
          have hqe := kmin hY hst (show q - 1 ≤ q0 by omega) (.inr (by rw [Nat.sub_add_cancel hq0]; exact hover))
          rw [← hqe]
          repeat first
            | (refine hK _ ?_; clear hK K)
            | ((first | refine vm_reg (fun K hK => ?_) | refine vm_dreg (fun K hK => ?_)); simp (disch := (first | omega | assumption)) only [S1, ↓reduceIte, Nat.reduceEqDiff, Nat.reduceAdd, Nat.reduceMul, Nat.reduceDiv, AOp.sb, AOp.mut, ↓Bool.false_eq_true, beq_self_eq_true, ite_self, Nat.reduceLeDiff, Int.reduceEq, Int.reduceSub, Int.reduceAdd, Int.reduceNeg, Int.reduceLT, Int.reduceLE, Nat.reduceLT, wi, tn_nat, Nat.div_one, Nat.mul_one]; refine hK _ ?_; clear hK K)
            | simp only [Sv, ↓reduceIte, Nat.reduceEqDiff]
          simp (disch := (first | omega | assumption)) only [retOk, retN, ret1, retF, ret1F, V.okArg, and_true, true_and, S1, ↓reduceIte, Nat.reduceEqDiff, Nat.reduceAdd, Nat.reduceMul, Nat.reduceDiv, AOp.sb, AOp.mut, ↓Bool.false_eq_true, beq_self_eq_true, ite_self, Nat.reduceLeDiff, Int.reduceEq, Int.reduceSub, Int.reduceAdd, Int.reduceNeg, Int.reduceLT, Int.reduceLE, Nat.reduceLT, wi, tn_nat, Nat.div_one, Nat.mul_one]
        · repeat first | (refine hK _ ?_; clear hK K) | simp only [Sv, ↓reduceIte, Nat.reduceEqDiff] | ((first | refine vm_reg (fun K hK => ?_) | refine vm_dreg (fun K hK => ?_)); simp (disch := (first | omega | assumption)) only [S1, ↓reduceIte, Nat.reduceEqDiff, Nat.reduceAdd, Nat.reduceMul, Nat.reduceDiv, AOp.sb, AOp.mut, ↓Bool.false_eq_true, beq_self_eq_true, ite_self, Nat.reduceLeDiff, Int.reduceEq, Int.reduceSub, Int.reduceAdd, Int.reduceNeg, Int.reduceLT, Int.reduceLE, Nat.reduceLT, wi, tn_nat, Nat.div_one, Nat.mul_one, Int.lt_irrefl, eq_self, t3, subU1])
          refine xlp_mk _ (add64_x r v1) ?_
          simp (disch := (first | omega | assumption)) only [S1, ↓reduceIte, Nat.reduceEqDiff, Nat.reduceAdd, Nat.reduceMul, Nat.reduceDiv, AOp.sb, AOp.mut, ↓Bool.false_eq_true, beq_self_eq_true, ite_self, Nat.reduceLeDiff, Int.reduceEq, Int.reduceSub, Int.reduceAdd, Int.reduceNeg, Int.reduceLT, Int.reduceLE, Nat.reduceLT, wi, tn_nat, Nat.div_one, Nat.mul_one, Int.lt_irrefl, eq_self, t3, subU1]
          repeat first
            | (refine hK _ ?_; clear hK K)
            | ((first | refine vm_reg (fun K hK => ?_) | refine vm_dreg (fun K hK => ?_)); simp (disch := (first | omega | assumption)) only [S1, ↓reduceIte, Nat.reduceEqDiff, Nat.reduceAdd, Nat.reduceMul, Nat.reduceDiv, AOp.sb, AOp.mut, ↓Bool.false_eq_true, beq_self_eq_true, ite_self, Nat.reduceLeDiff, Int.reduceEq, Int.reduceSub, Int.reduceAdd, Int.reduceNeg, Int.reduceLT, Int.reduceLE, Nat.reduceLT, wi, tn_nat, Nat.div_one, Nat.mul_one, hc]; refine hK _ ?_; clear hK K)
            | simp only [Sv, ↓reduceIte, Nat.reduceEqDiff]
          refine hQ _ (q - 1, r + v1) ⟨hsm, by simp only; omega, by simp only; omega, by simp only; rw [Nat.sub_add_cancel hq0]; exact .inr hover⟩ (by simp only; omega) ?_
          simp (disch := (first | omega | assumption)) only [Sl, Sa, Sw, ↓reduceIte, Nat.reduceEqDiff, Nat.reduceLT, List.all_nil, List.all_cons, Nat.reduceBneDiff, Nat.reduceAdd, bne_iff_ne, ne_eq, reduceCtorEq, not_false_eq_true, not_true_eq_false, Bool.and_true, Bool.true_and, and_true, true_and, and_self, i_eq]
          repeat' first | rfl | omega | (simp only [List.length_append, List.length_cons, List.length_nil]; done) | apply And.intro
    · repeat first | (refine hK _ ?_; clear hK K) | simp only [Sv, ↓reduceIte, Nat.reduceEqDiff] | ((first | refine vm_reg (fun K hK => ?_) | refine vm_dreg (fun K hK => ?_)); simp (disch := (first | omega | assumption)) only [S1, ↓reduceIte, Nat.reduceEqDiff, Nat.reduceAdd, Nat.reduceMul, Nat.reduceDiv, AOp.sb, AOp.mut, ↓Bool.false_eq_true, beq_self_eq_true, ite_self, Nat.reduceLeDiff, Int.reduceEq, Int.reduceSub, Int.reduceAdd, Int.reduceNeg, Int.reduceLT, Int.reduceLE, Nat.reduceLT, wi, tn_nat, Nat.div_one, Nat.mul_one])
      refine clp_of _ _ (hmu) ?_ ?_
      · first | rfl | (simp (disch := (first | omega | assumption)) only [S1, ↓reduceIte, Nat.reduceEqDiff, Nat.reduceAdd, Nat.reduceMul, Nat.reduceDiv, AOp.sb, AOp.mut, ↓Bool.false_eq_true, beq_self_eq_true, ite_self, Nat.reduceLeDiff, Int.reduceEq, Int.reduceSub, Int.reduceAdd, Int.reduceNeg, Int.reduceLT, Int.reduceLE, Nat.reduceLT, wi, tn_nat, Nat.div_one, Nat.mul_one])
      simp (disch := (first | omega | assumption)) only [S1, ↓reduceIte, Nat.reduceEqDiff, Nat.reduceAdd, Nat.reduceMul, Nat.reduceDiv, AOp.sb, AOp.mut, ↓Bool.false_eq_true, beq_self_eq_true, ite_self, Nat.reduceLeDiff, Int.reduceEq, Int.reduceSub, Int.reduceAdd, Int.reduceNeg, Int.reduceLT, Int.reduceLE, Nat.reduceLT, wi, tn_nat, Nat.div_one, Nat.mul_one]
      have hover := kover hq1 (two_cmp' hp (by omega) hu0)
      have hq0 : 1 ≤ q := by
        rcases Nat.eq_zero_or_pos q with h | h
        · subst h; simp at hover
        · exact h
      have hsm := sub_mul1 hq1 hq0
      by_cases hc : (((r + v1) / 18446744073709551616 : Nat) : Int) = 1
      · repeat first | (refine hK _ ?_; clear hK K) | simp only [Sv, ↓reduceIte, Nat.reduceEqDiff] | ((first | refine vm_reg (fun K hK => ?_) | refine vm_dreg (fun K hK => ?_)); simp (disch := (first | omega | assumption)) only [S1, ↓reduceIte, Nat.reduceEqDiff, Nat.reduceAdd, Nat.reduceMul, Nat.reduceDiv, AOp.sb, AOp.mut, ↓Bool.false_eq_true, beq_self_eq_true, ite_self, Nat.reduceLeDiff, Int.reduceEq, Int.reduceSub, Int.reduceAdd, Int.reduceNeg, Int.reduceLT, Int.reduceLE, Nat.reduceLT, wi, tn_nat, Nat.div_one, Nat.mul_one, t1, t2, subU1])
        refine xlp_mk _ (add64_x r v1) ?_
        simp (disch := (first | omega | assumption)) only [S1, ↓reduceIte, Nat.reduceEqDiff, Nat.reduceAdd, Nat.reduceMul, Nat.reduceDiv, AOp.sb, AOp.mut, ↓Bool.false_eq_true, beq_self_eq_true, ite_self, Nat.reduceLeDiff, Int.reduceEq, Int.reduceSub, Int.reduceAdd, Int.reduceNeg, Int.reduceLT, Int.reduceLE, Nat.reduceLT, wi, tn_nat, Nat.div_one, Nat.mul_one, t1, t2, subU1]
        repeat first
          | (refine hK _ ?_; clear hK K)
          | ((first | refine vm_reg (fun K hK => ?_) | refine vm_dreg (fun K hK => ?_)); simp (disch := (first | omega | assumption)) only [S1, ↓reduceIte, Nat.reduceEqDiff, Nat.reduceAdd, Nat.reduceMul, Nat.reduceDiv, AOp.sb, AOp.mut, ↓Bool.false_eq_true, beq_self_eq_true, ite_self, Nat.reduceLeDiff, Int.reduceEq, Int.reduceSub, Int.reduceAdd, Int.reduceNeg, Int.reduceLT, Int.reduceLE, Nat.reduceLT, wi, tn_nat, Nat.div_one, Nat.mul_one, hc]; refine hK _ ?_; clear hK K)
          | simp only [Sv, ↓reduceIte, Nat.reduceEqDiff]
        refine he _ _ ?_
        have hst := kstop hsm (big_le (w := u0) (show q - 1 ≤ 18446744073709551616 by omega) (Nat.le_of_lt hv0) (show 18446744073709551616 ≤ r + v1 by omega))
        have hqe := kmin hY hst (show q - 1 ≤ q0 by omega) (.inr (by rw [Nat.sub_add_cancel hq0]; exact hover))
        rw [← hqe]
        repeat first
          | (refine hK _ ?_; clear hK K)
          | ((first | refine vm_reg (fun K hK => ?_) | refine vm_dreg (fun K hK => ?_)); simp (disch := (first | omega | assumption)) only [S1, ↓reduceIte, Nat.reduceEqDiff, Nat.reduceAdd, Nat.reduceMul, Nat.reduceDiv, AOp.sb, AOp.mut, ↓Bool.false_eq_true, beq_self_eq_true, ite_self, Nat.reduceLeDiff, Int.reduceEq, Int.reduceSub, Int.reduceAdd, Int.reduceNeg, Int.reduceLT, Int.reduceLE, Nat.reduceLT, wi, tn_nat, Nat.div_one, Nat.mul_one]; refine hK _ ?_; clear hK K)
          | simp only [Sv, ↓reduceIte, Nat.reduceEqDiff]
        simp (disch := (first | omega | assumption)) only [retOk, retN, ret1, retF, ret1F, V.okArg, and_true, true_and, S1, ↓reduceIte, Nat.reduceEqDiff, Nat.reduceAdd, Nat.reduceMul, Nat.reduceDiv, AOp.sb, AOp.mut, ↓Bool.false_eq_true, beq_self_eq_true, ite_self, Nat.reduceLeDiff, Int.reduceEq, Int.reduceSub, Int.reduceAdd, Int.reduceNeg, Int.reduceLT, Int.reduceLE, Nat.reduceLT, wi, tn_nat, Nat.div_one, Nat.mul_one]
      · repeat first | (refine hK _ ?_; clear hK K) | simp only [Sv, ↓reduceIte, Nat.reduceEqDiff] | ((first | refine vm_reg (fun K hK => ?_) | refine vm_dreg (fun K hK => ?_)); simp (disch := (first | omega | assumption)) only [S1, ↓reduceIte, Nat.reduceEqDiff, Nat.reduceAdd, Nat.reduceMul, Nat.reduceDiv, AOp.sb, AOp.mut, ↓Bool.false_eq_true, beq_self_eq_true, ite_self, Nat.reduceLeDiff, Int.reduceEq, Int.reduceSub, Int.reduceAdd, Int.reduceNeg, Int.reduceLT, Int.reduceLE, Nat.reduceLT, wi, tn_nat, Nat.div_one, Nat.mul_one, t1, t2, subU1])
        refine xlp_mk _ (add64_x r v1) ?_
        simp (disch := (first | omega | assumption)) only [S1, ↓reduceIte, Nat.reduceEqDiff, Nat.reduceAdd, Nat.reduceMul, Nat.reduceDiv, AOp.sb, AOp.mut, ↓Bool.false_eq_true, beq_self_eq_true, ite_self, Nat.reduceLeDiff, Int.reduceEq, Int.reduceSub, Int.reduceAdd, Int.reduceNeg, Int.reduceLT, Int.reduceLE, Nat.reduceLT, wi, tn_nat, Nat.div_one, Nat.mul_one, t1, t2, subU1]
        repeat first
          | (refine hK _ ?_; clear hK K)
          | ((first | refine vm_reg (fun K hK => ?_) | refine vm_dreg (fun K hK => ?_)); simp (disch := (first | omega | assumption)) only [S1, ↓reduceIte, Nat.reduceEqDiff, Nat.reduceAdd, Nat.reduceMul, Nat.reduceDiv, AOp.sb, AOp.mut, ↓Bool.false_eq_true, beq_self_eq_true, ite_self, Nat.reduceLeDiff, Int.reduceEq, Int.reduceSub, Int.reduceAdd, Int.reduceNeg, Int.reduceLT, Int.reduceLE, Nat.reduceLT, wi, tn_nat, Nat.div_one, Nat.mul_one, hc]; refine hK _ ?_; clear hK K)
          | simp only [Sv, ↓reduceIte, Nat.reduceEqDiff]
        refine hQ _ (q - 1, r + v1) ⟨hsm, by simp only; omega, by simp only; omega, by simp only; rw [Nat.sub_add_cancel hq0]; exact .inr hover⟩ (by simp only; omega) ?_
        simp (disch := (first | omega | assumption)) only [Sl, Sa, Sw, ↓reduceIte, Nat.reduceEqDiff, Nat.reduceLT, List.all_nil, List.all_cons, Nat.reduceBneDiff, Nat.reduceAdd, bne_iff_ne, ne_eq, reduceCtorEq, not_false_eq_true, not_true_eq_false, Bool.and_true, Bool.true_and, and_true, true_and, and_self, i_eq]
        repeat' first | rfl | omega | (simp only [List.length_append, List.length_cons, List.length_nil]; done) | apply And.intro
theorem gmin {Y N q : Nat} (hY : 0 < Y) (hq : q ≤ 18446744073709551615) (h : N < (q + 1) * Y) : min q (N / Y) = min 18446744073709551615 (N / Y) := by
  have := (Nat.div_lt_iff_lt_mul hY).2 h
  omega
-- surd/div.guess
def a80 : AC := .seq (.reg [⟨some 10, none, .mv (.k (.i .u64 0))⟩])
  (.seq (.seq (.reg [⟨some 15, none, .mv (.t 0)⟩, 
        ⟨some 16, none, .mv (.t 3)⟩, 
        ⟨some 17, none, .bin .geq (.t 15) (.t 16)⟩])
    (.cond (.t 17)
    (.seq (.reg [⟨some 19, none, .mv (.t 1)⟩, 
          ⟨some 20, none, .mv (.t 3)⟩, 
          ⟨some 21, none, .xcall 99 [(.t 19), (.t 20), (.k (.i .u64 0))]⟩, 
          ⟨some 18, none, .mv (.t 21)⟩, 
          ⟨some 22, none, .ext (.t 18) 0⟩, 
          ⟨some 23, none, .ext (.t 18) 1⟩, 
          ⟨some 11, none, .mv (.t 22)⟩, 
          ⟨some 12, none, .mv (.t 23)⟩])
      (.seq (.seq (.reg [⟨some 24, none, .mv (.t 12)⟩, 
            ⟨some 25, none, .bin .eql (.t 24) (.k (.i .u64 1))⟩])
        (.cond (.t 25)
        (.seq (.reg [⟨some 10, none, .mv (.k (.i .u64 18446744073709551615))⟩])
          (.ret))
        (.skip)))
      (.seq (.reg [⟨some 26, none, .mv (.t 11)⟩, 
          ⟨some 27, none, .mv (.t 2)⟩, 
          ⟨some 28, none, .mv (.t 3)⟩, 
          ⟨some 29, none, .mv (.t 4)⟩, 
          ⟨some 30, none, .call 100 [(1, (.k (.i .u64 18446744073709551615))), (1, (.t 26)), (1, (.t 27)), (1, (.t 28)), (1, (.t 29))]⟩, 
          ⟨some 10, none, .mv (.t 30)⟩])
      (.ret))))
    (.skip)))
  (.seq (.reg [⟨some 32, none, .mv (.t 0)⟩, 
      ⟨some 33, none, .mv (.t 1)⟩, 
      ⟨some 34, none, .mv (.t 3)⟩, 
      ⟨some 35, none, .call 85 [(1, (.t 32)), (1, (.t 33)), (1, (.t 34))]⟩, 
      ⟨some 31, none, .mv (.t 35)⟩, 
      ⟨some 36, none, .ext (.t 31) 0⟩, 
      ⟨some 37, none, .ext (.t 31) 1⟩, 
      ⟨some 13, none, .mv (.t 36)⟩, 
      ⟨some 14, none, .mv (.t 37)⟩])
  (.seq (.reg [⟨some 38, none, .mv (.t 13)⟩, 
      ⟨some 39, none, .mv (.t 14)⟩, 
      ⟨some 40, none, .mv (.t 2)⟩, 
      ⟨some 41, none, .mv (.t 3)⟩, 
      ⟨some 42, none, .mv (.t 4)⟩, 
      ⟨some 43, none, .call 100 [(1, (.t 38)), (1, (.t 39)), (1, (.t 40)), (1, (.t 41)), (1, (.t 42))]⟩, 
      ⟨some 10, none, .mv (.t 43)⟩])
  (.ret))))
theorem guess_spec (u2 u1 u0 v1 v0 : Nat) (h2 : u2 ≤ v1) (hp : 0 < v1) (hu1 : u1 < 18446744073709551616) (hu0 : u0 < 18446744073709551616) (hv1 : v1 < 18446744073709551616) (hv0 : v0 < 18446744073709551616) :
    AFun Try.prog J0 80 [.i .u64 (u2 : Int), .i .u64 (u1 : Int), .i .u64 (u0 : Int), .i .u64 (v1 : Int), .i .u64 (v0 : Int)]
      (.i .u64 ((min 18446744073709551615 (((u2 * 18446744073709551616 + u1) * 18446744073709551616 + u0) / (v1 * 18446744073709551616 + v0)) : Nat) : Int)) := by
  have hY : 0 < v1 * 18446744073709551616 + v0 := by omega
  refine AFun.mk fol J0s Try.func80 rfl (ac := a80) (by kernel_rfl) rfl rfl ?_
  apply vm_start
  unfold a80
  simp only [init_eq, initE]
  by_cases t : (v1 : Int) ≤ (u2 : Int)
  · obtain rfl : u2 = v1 := by omega
    have hsm : 18446744073709551615 * u2 + (u1 + u2) = u2 * 18446744073709551616 + u1 := by omega
    by_cases hc : (((u1 + u2) / 18446744073709551616 : Nat) : Int) = 1
    · have hst := kstop (w := u0) hsm (big_le (q := 18446744073709551615) (v0 := v0) (w := u0) (by omega) (by omega) (show 18446744073709551616 ≤ u1 + u2 by omega))
      have hqe := kmin hY hst (Nat.le_refl _) (.inl rfl)
      rw [← hqe]
      repeat first | (refine hK _ ?_; clear hK K) | simp only [Sv, ↓reduceIte, Nat.reduceEqDiff] | ((first | refine vm_reg (fun K hK => ?_) | refine vm_dreg (fun K hK => ?_)); simp (disch := (first | omega | assumption)) only [S1, ↓reduceIte, Nat.reduceEqDiff, Nat.reduceAdd, Nat.reduceMul, Nat.reduceDiv, AOp.sb, AOp.mut, ↓Bool.false_eq_true, beq_self_eq_true, ite_self, Nat.reduceLeDiff, Int.reduceEq, Int.reduceSub, Int.reduceAdd, Int.reduceNeg, Int.reduceLT, Int.reduceLE, Nat.reduceLT, wi, tn_nat, Nat.div_one, Nat.mul_one, Int.le_refl])
      refine xlp_mk _ (add64_x u1 u2) ?_
      simp (disch := (first | omega | assumption)) only [S1, ↓reduceIte, Nat.reduceEqDiff, Nat.reduceAdd, Nat.reduceMul, Nat.reduceDiv, AOp.sb, AOp.mut, ↓Bool.false_eq_true, beq_self_eq_true, ite_self, Nat.reduceLeDiff, Int.reduceEq, Int.reduceSub, Int.reduceAdd, Int.reduceNeg, Int.reduceLT, Int.reduceLE, Nat.reduceLT, wi, tn_nat, Nat.div_one, Nat.mul_one, Int.le_refl]
      repeat first | (refine hK _ ?_; clear hK K) | simp only [Sv, ↓reduceIte, Nat.reduceEqDiff] | ((first | refine vm_reg (fun K hK => ?_) | refine vm_dreg (fun K hK => ?_)); simp (disch := (first | omega | assumption)) only [S1, ↓reduceIte, Nat.reduceEqDiff, Nat.reduceAdd, Nat.reduceMul, Nat.reduceDiv, AOp.sb, AOp.mut, ↓Bool.false_eq_true, beq_self_eq_true, ite_self, Nat.reduceLeDiff, Int.reduceEq, Int.reduceSub, Int.reduceAdd, Int.reduceNeg, Int.reduceLT, Int.reduceLE, Nat.reduceLT, wi, tn_nat, Nat.div_one, Nat.mul_one, hc])
      simp (disch := (first | omega | assumption)) only [retOk, retN, ret1, retF, ret1F, V.okArg, and_true, true_and, S1, ↓reduceIte, Nat.reduceEqDiff, Nat.reduceAdd, Nat.reduceMul, Nat.reduceDiv, AOp.sb, AOp.mut, ↓Bool.false_eq_true, beq_self_eq_true, ite_self, Nat.reduceLeDiff, Int.reduceEq, Int.reduceSub, Int.reduceAdd, Int.reduceNeg, Int.reduceLT, Int.reduceLE, Nat.reduceLT, wi, tn_nat, Nat.div_one, Nat.mul_one, hc]
    · have hmod : (u1 + u2) % 18446744073709551616 = u1 + u2 := Nat.mod_eq_of_lt (by omega)
      repeat first | (refine hK _ ?_; clear hK K) | simp only [Sv, ↓reduceIte, Nat.reduceEqDiff] | ((first | refine vm_reg (fun K hK => ?_) | refine vm_dreg (fun K hK => ?_)); simp (disch := (first | omega | assumption)) only [S1, ↓reduceIte, Nat.reduceEqDiff, Nat.reduceAdd, Nat.reduceMul, Nat.reduceDiv, AOp.sb, AOp.mut, ↓Bool.false_eq_true, beq_self_eq_true, ite_self, Nat.reduceLeDiff, Int.reduceEq, Int.reduceSub, Int.reduceAdd, Int.reduceNeg, Int.reduceLT, Int.reduceLE, Nat.reduceLT, wi, tn_nat, Nat.div_one, Nat.mul_one, Int.le_refl])
      refine xlp_mk _ (add64_x u1 u2) ?_
      simp (disch := (first | omega | assumption)) only [S1, ↓reduceIte, Nat.reduceEqDiff, Nat.reduceAdd, Nat.reduceMul, Nat.reduceDiv, AOp.sb, AOp.mut, ↓Bool.false_eq_true, beq_self_eq_true, ite_self, Nat.reduceLeDiff, Int.reduceEq, Int.reduceSub, Int.reduceAdd, Int.reduceNeg, Int.reduceLT, Int.reduceLE, Nat.reduceLT, wi, tn_nat, Nat.div_one, Nat.mul_one, Int.le_refl]
      have zc3 := correct_spec 18446744073709551615 (u1 + u2) u0 u2 v0 _ (by omega) (by omega) hu0 hv1 hv0 hY hsm
      repeat first | (refine hK _ ?_; clear hK K) | simp only [Sv, ↓reduceIte, Nat.reduceEqDiff] | ((first | refine vm_reg (fun K hK => ?_) | refine vm_dreg (fun K hK => ?_) | refine clp_q ?_ | refine clq_mk (by assumption) ?_); simp (disch := (first | omega | assumption)) only [S1, ↓reduceIte, Nat.reduceEqDiff, Nat.reduceAdd, Nat.reduceMul, Nat.reduceDiv, AOp.sb, AOp.mut, ↓Bool.false_eq_true, beq_self_eq_true, ite_self, Nat.reduceLeDiff, Int.reduceEq, Int.reduceSub, Int.reduceAdd, Int.reduceNeg, Int.reduceLT, Int.reduceLE, Nat.reduceLT, wi, tn_nat, Nat.div_one, Nat.mul_one, hc, hmod])
      simp (disch := (first | omega | assumption)) only [retOk, retN, ret1, retF, ret1F, V.okArg, and_true, true_and, S1, ↓reduceIte, Nat.reduceEqDiff, Nat.reduceAdd, Nat.reduceMul, Nat.reduceDiv, AOp.sb, AOp.mut, ↓Bool.false_eq_true, beq_self_eq_true, ite_self, Nat.reduceLeDiff, Int.reduceEq, Int.reduceSub, Int.reduceAdd, Int.reduceNeg, Int.reduceLT, Int.reduceLE, Nat.reduceLT, wi, tn_nat, Nat.div_one, Nat.mul_one, hc, hmod]
  · have e := Nat.div_add_mod (u2 * 18446744073709551616 + u1) v1
    have hm := Nat.mod_lt (u2 * 18446744073709551616 + u1) hp
    have hd := div64_spec u2 u1 v1 (by omega) hv1 hu1
    have hqB : (u2 * 18446744073709551616 + u1) / v1 < 18446744073709551616 := by
      refine (Nat.div_lt_iff_lt_mul hp).2 ?_
      have := Nat.mul_le_mul_right 18446744073709551616 (show u2 + 1 ≤ v1 by omega)
      omega
    rw [Nat.mul_comm] at e
    obtain ⟨U, hU⟩ : ∃ U, U = u2 * 18446744073709551616 + u1 := ⟨_, rfl⟩
    rw [← hU] at e hm hd hqB ⊢
    have hN : U * 18446744073709551616 + u0 < (U / v1 + 1) * (v1 * 18446744073709551616 + v0) := by
      rw [Nat.mul_add, ← Nat.mul_assoc, Nat.add_mul _ 1 v1, Nat.one_mul]
      generalize U / v1 * v1 = z at *
      generalize (U / v1 + 1) * v0 = y at *
      omega
    rw [← gmin hY (by omega) hN]
    have zc4 := hd
    have zc5 := correct_spec (U / v1) (U % v1) u0 v1 v0 U hqB (by omega) hu0 hv1 hv0 hY e
    repeat first | (refine hK _ ?_; clear hK K) | simp only [Sv, ↓reduceIte, Nat.reduceEqDiff] | ((first | refine vm_reg (fun K hK => ?_) | refine vm_dreg (fun K hK => ?_) | refine clp_q ?_ | refine clq_mk (by assumption) ?_); simp (disch := (first | omega | assumption)) only [S1, ↓reduceIte, Nat.reduceEqDiff, Nat.reduceAdd, Nat.reduceMul, Nat.reduceDiv, AOp.sb, AOp.mut, ↓Bool.false_eq_true, beq_self_eq_true, ite_self, Nat.reduceLeDiff, Int.reduceEq, Int.reduceSub, Int.reduceAdd, Int.reduceNeg, Int.reduceLT, Int.reduceLE, Nat.reduceLT, wi, tn_nat, Nat.div_one, Nat.mul_one, t])
    simp (disch := (first | omega | assumption)) only [retOk, retN, ret1, retF, ret1F, V.okArg, and_true, true_and, S1, ↓reduceIte, Nat.reduceEqDiff, Nat.reduceAdd, Nat.reduceMul, Nat.reduceDiv, AOp.sb, AOp.mut, ↓Bool.false_eq_true, beq_self_eq_true, ite_self, Nat.reduceLeDiff, Int.reduceEq, Int.reduceSub, Int.reduceAdd, Int.reduceNeg, Int.reduceLT, Int.reduceLE, Nat.reduceLT, wi, tn_nat, Nat.div_one, Nat.mul_one, t]
end Go.Proofs.Ytngohbpgdeiodaa
