/-
  surdref04: the answers that lean on Quo.
-/
import Derived.Test.YtngohbpgdeiodaaR1
import Derived.Test.YtngohbpgdeiodaaRef4
import Derived.Test.YtngohbpgdeiodaaFrz
namespace Go.Proofs.Ytngohbpgdeiodaa
open Go Go.RowKit Ab
set_option linter.unusedSimpArgs false
set_option linter.unusedVariables false
set_option maxHeartbeats 10000000

theorem Wd1 {x : Nat} (h : x < 18446744073709551616) : Wd [x] := fun y hy => by rw [List.mem_singleton] at hy; rw [hy]; exact h
-- surd/surdref02.Word
def a59 : AC := .seq (.reg [⟨some 2, none, .mv (.k (.i .u64 0))⟩, 
      ⟨some 3, none, .mv (.k (.i .i64 0))⟩])
  (.seq (.reg [⟨some 4, none, .mv (.t 0)⟩, 
      ⟨some 5, none, .call 33 [(1, (.t 4))]⟩, 
      ⟨some 0, none, .mv (.t 5)⟩])
  (.seq (.seq (.reg [⟨some 6, none, .mv (.t 0)⟩, 
        ⟨some 7, none, .len (.t 6)⟩, 
        ⟨some 8, none, .bin .gtr (.t 7) (.k (.i .i64 1))⟩])
    (.cond (.t 8)
    (.seq (.reg [⟨some 2, none, .mv (.k (.i .u64 0))⟩, 
          ⟨some 3, none, .mv (.k (.i .i64 13))⟩])
      (.ret))
    (.skip)))
  (.seq (.seq (.reg [⟨some 9, none, .mv (.t 0)⟩, 
        ⟨some 10, none, .len (.t 9)⟩, 
        ⟨some 11, none, .bin .eql (.t 10) (.k (.i .i64 0))⟩])
    (.cond (.t 11)
    (.seq (.reg [⟨some 2, none, .mv (.k (.i .u64 0))⟩, 
          ⟨some 3, none, .mv (.k (.i .i64 0))⟩])
      (.ret))
    (.skip)))
  (.seq (.reg [⟨some 12, none, .mv (.t 0)⟩, 
      ⟨some 13, none, .idx 1 (.t 12) (.k (.i .i64 0))⟩, 
      ⟨some 14, none, .ld false 1 (.t 13)⟩, 
      ⟨some 2, none, .mv (.t 14)⟩, 
      ⟨some 3, none, .mv (.k (.i .i64 0))⟩])
  (.ret)))))
/-- the number as a word -/
def wdW (u : Nat) : Nat := if u < 18446744073709551616 then u else 0
def wdE (u : Nat) : Int := if u < 18446744073709551616 then 0 else 13
theorem dg_big {u : Nat} (h : ¬ u < 18446744073709551616) : 1 < (dg B u).length := by
  rcases Nat.lt_or_ge 1 (dg B u).length with h1 | h1
  · exact h1
  · have h2 := nv_lt (Wd_dg u)
    rw [nv_dgB] at h2
    have : B ^ (dg B u).length ≤ B ^ 1 := Nat.pow_le_pow_right (by decide) h1
    rw [Nat.pow_one] at this
    exact absurd (Nat.lt_of_lt_of_le h2 this) h
theorem rword_spec (a : List Nat) (ha : Wd a) (la : a.length ≤ 100000000000) :
    AFun Try.prog J0 59 [.l 1 (W a)] (.t [.i .u64 ((wdW (nv B a) : Nat) : Int), .i .i64 (wdE (nv B a))]) := by
  have hn := rnorm_spec a ha la
  generalize nv B a = u at *
  refine AFun.mk fol J0s Try.func59 rfl (ac := a59) (by kernel_rfl) rfl rfl ?_
  apply vm_start
  unfold a59
  simp only [init_eq, initE]
  by_cases h0 : u = 0
  · subst h0
    rw [dg_zero] at hn
    have z1 : wdW 0 = 0 := rfl
    have z2 : wdE 0 = 0 := rfl
    have zc1 := hn
    repeat first | (refine hK _ ?_; clear hK K) | simp only [Sv, ↓reduceIte, Nat.reduceEqDiff] | ((first | refine vm_reg (fun K hK => ?_) | refine vm_dreg (fun K hK => ?_) | refine clp_q ?_ | refine clq_mk (by assumption) ?_); simp (disch := (first | omega | assumption)) only [S1, ↓reduceIte, Nat.reduceEqDiff, Nat.reduceAdd, Nat.reduceMul, Nat.reduceDiv, AOp.sb, AOp.mut, ↓Bool.false_eq_true, beq_self_eq_true, ite_self, Nat.reduceLeDiff, Int.reduceEq, Int.reduceSub, Int.reduceAdd, Int.reduceNeg, Int.reduceLT, Int.reduceLE, Nat.reduceLT, wi, tn_nat, Nat.div_one, Nat.mul_one, W_len, W_nf, W_cell, W_nil, W_get, List.length_nil, List.length_cons, z1, z2])
    simp (disch := (first | omega | assumption)) only [retOk, retN, ret1, retF, ret1F, V.okArg, and_true, true_and, S1, ↓reduceIte, Nat.reduceEqDiff, Nat.reduceAdd, Nat.reduceMul, Nat.reduceDiv, AOp.sb, AOp.mut, ↓Bool.false_eq_true, beq_self_eq_true, ite_self, Nat.reduceLeDiff, Int.reduceEq, Int.reduceSub, Int.reduceAdd, Int.reduceNeg, Int.reduceLT, Int.reduceLE, Nat.reduceLT, wi, tn_nat, Nat.div_one, Nat.mul_one, W_len, W_nf, W_cell, W_nil, W_get, List.length_nil, List.length_cons, z1, z2]
  · by_cases h1 : u < 18446744073709551616
    · rw [dg_one (by omega) h1] at hn
      rw [show wdW u = u from if_pos h1, show wdE u = 0 from if_pos h1]
      have zc2 := hn
      repeat first | (refine hK _ ?_; clear hK K) | simp only [Sv, ↓reduceIte, Nat.reduceEqDiff] | ((first | refine vm_reg (fun K hK => ?_) | refine vm_dreg (fun K hK => ?_) | refine clp_q ?_ | refine clq_mk (by assumption) ?_); simp (disch := (first | omega | assumption)) only [S1, ↓reduceIte, Nat.reduceEqDiff, Nat.reduceAdd, Nat.reduceMul, Nat.reduceDiv, AOp.sb, AOp.mut, ↓Bool.false_eq_true, beq_self_eq_true, ite_self, Nat.reduceLeDiff, Int.reduceEq, Int.reduceSub, Int.reduceAdd, Int.reduceNeg, Int.reduceLT, Int.reduceLE, Nat.reduceLT, wi, tn_nat, Nat.div_one, Nat.mul_one, W_len, W_nf, W_cell, W_nil, W_get, List.length_nil, List.length_cons, W1, Int.toNat_zero, getD_z])
      simp (disch := (first | omega | assumption)) only [retOk, retN, ret1, retF, ret1F, V.okArg, and_true, true_and, S1, ↓reduceIte, Nat.reduceEqDiff, Nat.reduceAdd, Nat.reduceMul, Nat.reduceDiv, AOp.sb, AOp.mut, ↓Bool.false_eq_true, beq_self_eq_true, ite_self, Nat.reduceLeDiff, Int.reduceEq, Int.reduceSub, Int.reduceAdd, Int.reduceNeg, Int.reduceLT, Int.reduceLE, Nat.reduceLT, wi, tn_nat, Nat.div_one, Nat.mul_one, W_len, W_nf, W_cell, W_nil, W_get, List.length_nil, List.length_cons, W1, Int.toNat_zero, getD_z]
    · have hl := dg_big h1
      have hl2 : (1 : Int) < ((dg B u).length : Int) := by omega
      rw [show wdW u = 0 from if_neg h1, show wdE u = 13 from if_neg h1]
      have zc3 := hn
      repeat first | (refine hK _ ?_; clear hK K) | simp only [Sv, ↓reduceIte, Nat.reduceEqDiff] | ((first | refine vm_reg (fun K hK => ?_) | refine vm_dreg (fun K hK => ?_) | refine clp_q ?_ | refine clq_mk (by assumption) ?_); simp (disch := (first | omega | assumption)) only [S1, ↓reduceIte, Nat.reduceEqDiff, Nat.reduceAdd, Nat.reduceMul, Nat.reduceDiv, AOp.sb, AOp.mut, ↓Bool.false_eq_true, beq_self_eq_true, ite_self, Nat.reduceLeDiff, Int.reduceEq, Int.reduceSub, Int.reduceAdd, Int.reduceNeg, Int.reduceLT, Int.reduceLE, Nat.reduceLT, wi, tn_nat, Nat.div_one, Nat.mul_one, W_len, W_nf, W_cell, W_nil, W_get, List.length_nil, List.length_cons, hl2])
      simp (disch := (first | omega | assumption)) only [retOk, retN, ret1, retF, ret1F, V.okArg, and_true, true_and, S1, ↓reduceIte, Nat.reduceEqDiff, Nat.reduceAdd, Nat.reduceMul, Nat.reduceDiv, AOp.sb, AOp.mut, ↓Bool.false_eq_true, beq_self_eq_true, ite_self, Nat.reduceLeDiff, Int.reduceEq, Int.reduceSub, Int.reduceAdd, Int.reduceNeg, Int.reduceLT, Int.reduceLE, Nat.reduceLT, wi, tn_nat, Nat.div_one, Nat.mul_one, W_len, W_nf, W_cell, W_nil, W_get, List.length_nil, List.length_cons, hl2]

-- surd/surdref04.Word
def a26 : AC := .seq (.reg [⟨some 4, none, .mv (.k .nl)⟩, 
      ⟨some 5, none, .mv (.k (.i .u64 0))⟩, 
      ⟨some 6, none, .mv (.k (.i .i64 0))⟩])
  (.seq (.reg [⟨some 13, none, .mv (.t 0)⟩, 
      ⟨some 14, none, .mv (.t 1)⟩, 
      ⟨some 15, none, .bsl 29 1 1 [(.i .u64 0)] [(0, (.t 14))]⟩, 
      ⟨some 16, none, .call 15 [(1, (.t 13)), (1, (.t 15))]⟩, 
      ⟨some 12, none, .mv (.t 16)⟩, 
      ⟨some 17, none, .ext (.t 12) 0⟩, 
      ⟨some 18, none, .ext (.t 12) 1⟩, 
      ⟨some 19, none, .ext (.t 12) 2⟩, 
      ⟨some 7, none, .mv (.t 17)⟩, 
      ⟨some 8, none, .mv (.t 18)⟩, 
      ⟨some 9, none, .mv (.t 19)⟩])
  (.seq (.reg [⟨some 21, none, .mv (.t 8)⟩, 
      ⟨some 22, none, .call 59 [(1, (.t 21))]⟩, 
      ⟨some 20, none, .mv (.t 22)⟩, 
      ⟨some 23, none, .ext (.t 20) 0⟩, 
      ⟨some 24, none, .ext (.t 20) 1⟩, 
      ⟨some 10, none, .mv (.t 23)⟩, 
      ⟨some 11, none, .mv (.t 24)⟩])
  (.seq (.reg [⟨some 25, none, .mv (.t 7)⟩, 
      ⟨some 26, none, .mv (.t 10)⟩, 
      ⟨some 27, none, .mv (.t 9)⟩, 
      ⟨some 4, none, .mv (.t 25)⟩, 
      ⟨some 5, none, .mv (.t 26)⟩, 
      ⟨some 6, none, .mv (.t 27)⟩])
  (.ret))))
theorem rqword_spec (a : List Nat) (w : Nat) (ha : Wd a) (hw : w < 18446744073709551616) (la : a.length ≤ 1000000000) :
    AFun Try.prog J0 26 [.l 1 (W a), .i .u64 (w : Int)] (.t [.l 1 (W (qQ (nv B a) w)), .i .u64 ((if w = 0 then 0 else nv B a % w : Nat) : Int), .i .i64 (qE w)]) := by
  have hq := rquo_spec a [w] ha (fun x hx => by rw [List.mem_singleton] at hx; subst hx; exact hw) la (by simp)
  rw [nv_one] at hq
  have hw' := rword_spec (qR (nv B a) w) (qR_Wd _ _) (by have := qR_len (v := w) (nvlt ha la); omega)
  have e : nv B (qR (nv B a) w) = if w = 0 then 0 else nv B a % w := by
    unfold qR; split
    · rfl
    · exact nv_dgB _
  have hlt : (if w = 0 then 0 else nv B a % w) < 18446744073709551616 := by
    split
    · decide
    · exact Nat.lt_trans (Nat.mod_lt _ (by omega)) hw
  rw [e] at hw'
  generalize (if w = 0 then 0 else nv B a % w) = m at *
  rw [show wdW m = m from if_pos hlt, show wdE m = 0 from if_pos hlt] at hw'
  refine AFun.mk fol J0s Try.func26 rfl (ac := a26) (by kernel_rfl) rfl rfl ?_
  apply vm_start
  unfold a26
  simp only [init_eq, initE]
  have zc4 := hq
  have zc5 := hw'
  repeat first | (refine hK _ ?_; clear hK K) | simp only [Sv, ↓reduceIte, Nat.reduceEqDiff] | ((first | refine vm_reg (fun K hK => ?_) | refine vm_dreg (fun K hK => ?_) | refine clp_q ?_ | refine clq_mk (by assumption) ?_); simp (disch := (first | omega | assumption)) only [S1, ↓reduceIte, Nat.reduceEqDiff, Nat.reduceAdd, Nat.reduceMul, Nat.reduceDiv, AOp.sb, AOp.mut, ↓Bool.false_eq_true, beq_self_eq_true, ite_self, Nat.reduceLeDiff, Int.reduceEq, Int.reduceSub, Int.reduceAdd, Int.reduceNeg, Int.reduceLT, Int.reduceLE, Nat.reduceLT, wi, tn_nat, Nat.div_one, Nat.mul_one, W_len, W_nf, W_cell, W_nil, W_get, List.length_nil, List.length_cons, W1])
  simp (disch := (first | omega | assumption)) only [retOk, retN, ret1, retF, ret1F, V.okArg, and_true, true_and, S1, ↓reduceIte, Nat.reduceEqDiff, Nat.reduceAdd, Nat.reduceMul, Nat.reduceDiv, AOp.sb, AOp.mut, ↓Bool.false_eq_true, beq_self_eq_true, ite_self, Nat.reduceLeDiff, Int.reduceEq, Int.reduceSub, Int.reduceAdd, Int.reduceNeg, Int.reduceLT, Int.reduceLE, Nat.reduceLT, wi, tn_nat, Nat.div_one, Nat.mul_one, W_len, W_nf, W_cell, W_nil, W_get, List.length_nil, List.length_cons, W1]

-- surd/surdref04.Mod
def a73 : AC := .seq (.reg [⟨some 4, none, .mv (.k .nl)⟩, 
      ⟨some 5, none, .mv (.k (.i .i64 0))⟩])
  (.seq (.reg [⟨some 10, none, .mv (.t 0)⟩, 
      ⟨some 11, none, .mv (.t 1)⟩, 
      ⟨some 12, none, .call 15 [(1, (.t 10)), (1, (.t 11))]⟩, 
      ⟨some 9, none, .mv (.t 12)⟩, 
      ⟨some 13, none, .ext (.t 9) 0⟩, 
      ⟨some 14, none, .ext (.t 9) 1⟩, 
      ⟨some 15, none, .ext (.t 9) 2⟩, 
      ⟨some 6, none, .mv (.t 13)⟩, 
      ⟨some 7, none, .mv (.t 14)⟩, 
      ⟨some 8, none, .mv (.t 15)⟩])
  (.seq (.reg [⟨some 16, none, .mv (.t 7)⟩, 
      ⟨some 17, none, .mv (.t 8)⟩, 
      ⟨some 4, none, .mv (.t 16)⟩, 
      ⟨some 5, none, .mv (.t 17)⟩])
  (.ret)))
theorem rmod_spec (a b : List Nat) (ha : Wd a) (hb : Wd b) (la : a.length ≤ 1000000000) (lb : b.length ≤ 1000000000) :
    AFun Try.prog J0 73 [.l 1 (W a), .l 1 (W b)] (.t [.l 1 (W (qR (nv B a) (nv B b))), .i .i64 (qE (nv B b))]) := by
  refine AFun.mk fol J0s Try.func73 rfl (ac := a73) (by kernel_rfl) rfl rfl ?_
  apply vm_start
  unfold a73
  simp only [init_eq, initE]
  have zc6 := rquo_spec a b ha hb la lb
  repeat first | (refine hK _ ?_; clear hK K) | simp only [Sv, ↓reduceIte, Nat.reduceEqDiff] | ((first | refine vm_reg (fun K hK => ?_) | refine vm_dreg (fun K hK => ?_) | refine clp_q ?_ | refine clq_mk (by assumption) ?_); simp (disch := (first | omega | assumption)) only [S1, ↓reduceIte, Nat.reduceEqDiff, Nat.reduceAdd, Nat.reduceMul, Nat.reduceDiv, AOp.sb, AOp.mut, ↓Bool.false_eq_true, beq_self_eq_true, ite_self, Nat.reduceLeDiff, Int.reduceEq, Int.reduceSub, Int.reduceAdd, Int.reduceNeg, Int.reduceLT, Int.reduceLE, Nat.reduceLT, wi, tn_nat, Nat.div_one, Nat.mul_one, W_len, W_nf, W_cell, W_nil, W_get, List.length_nil, List.length_cons])
  simp (disch := (first | omega | assumption)) only [retOk, retN, ret1, retF, ret1F, V.okArg, and_true, true_and, S1, ↓reduceIte, Nat.reduceEqDiff, Nat.reduceAdd, Nat.reduceMul, Nat.reduceDiv, AOp.sb, AOp.mut, ↓Bool.false_eq_true, beq_self_eq_true, ite_self, Nat.reduceLeDiff, Int.reduceEq, Int.reduceSub, Int.reduceAdd, Int.reduceNeg, Int.reduceLT, Int.reduceLE, Nat.reduceLT, wi, tn_nat, Nat.div_one, Nat.mul_one, W_len, W_nf, W_cell, W_nil, W_get, List.length_nil, List.length_cons]
-- surd/surdref04.Exact
def a18 : AC := .seq (.reg [⟨some 4, none, .mv (.k .nl)⟩, 
      ⟨some 5, none, .mv (.k (.i .i64 0))⟩])
  (.seq (.reg [⟨some 10, none, .mv (.t 0)⟩, 
      ⟨some 11, none, .mv (.t 1)⟩, 
      ⟨some 12, none, .call 15 [(1, (.t 10)), (1, (.t 11))]⟩, 
      ⟨some 9, none, .mv (.t 12)⟩, 
      ⟨some 13, none, .ext (.t 9) 0⟩, 
      ⟨some 14, none, .ext (.t 9) 1⟩, 
      ⟨some 15, none, .ext (.t 9) 2⟩, 
      ⟨some 6, none, .mv (.t 13)⟩, 
      ⟨some 7, none, .mv (.t 14)⟩, 
      ⟨some 8, none, .mv (.t 15)⟩])
  (.seq (.seq (.reg [⟨some 16, none, .mv (.t 8)⟩, 
        ⟨some 17, none, .bin .neq (.t 16) (.k (.i .i64 0))⟩])
    (.cond (.t 17)
    (.seq (.reg [⟨some 18, none, .mv (.t 8)⟩, 
          ⟨some 4, none, .mv (.k .nl)⟩, 
          ⟨some 5, none, .mv (.t 18)⟩])
      (.ret))
    (.skip)))
  (.seq (.seq (.reg [⟨some 19, none, .mv (.t 7)⟩, 
        ⟨some 20, none, .call 48 [(1, (.t 19))]⟩, 
        ⟨some 21, none, .un .not (.t 20)⟩])
    (.cond (.t 21)
    (.seq (.reg [⟨some 4, none, .mv (.k .nl)⟩, 
          ⟨some 5, none, .mv (.k (.i .i64 4))⟩])
      (.ret))
    (.skip)))
  (.seq (.reg [⟨some 22, none, .mv (.t 6)⟩, 
      ⟨some 4, none, .mv (.t 22)⟩, 
      ⟨some 5, none, .mv (.k (.i .i64 0))⟩])
  (.ret)))))
theorem rexact_spec (a b : List Nat) (ha : Wd a) (hb : Wd b) (la : a.length ≤ 1000000000) (lb : b.length ≤ 1000000000) :
    AFun Try.prog J0 18 [.l 1 (W a), .l 1 (W b)] (.t [.l 1 (W (exQ (nv B a) (nv B b))), .i .i64 (exE (nv B a) (nv B b))]) := by
  have hq := rquo_spec a b ha hb la lb
  have hz := rzero_spec (qR (nv B a) (nv B b)) (qR_Wd _ _) (by have := qR_len (v := nv B b) (nvlt ha la); omega)
  have hr : nv B (qR (nv B a) (nv B b)) = if nv B b = 0 then 0 else nv B a % nv B b := by unfold qR; split; rfl; exact nv_dgB _
  rw [hr] at hz
  generalize nv B a = u at *
  generalize nv B b = v at *
  refine AFun.mk fol J0s Try.func18 rfl (ac := a18) (by kernel_rfl) rfl rfl ?_
  apply vm_start
  unfold a18
  simp only [init_eq, initE]
  by_cases h0 : v = 0
  · rw [show exQ u v = [] from if_pos h0, show exE u v = 1 from if_pos h0]
    subst h0
    have zc7 := hq
    repeat first | (refine hK _ ?_; clear hK K) | simp only [Sv, ↓reduceIte, Nat.reduceEqDiff] | ((first | refine vm_reg (fun K hK => ?_) | refine vm_dreg (fun K hK => ?_) | refine clp_q ?_ | refine clq_mk (by assumption) ?_); simp (disch := (first | omega | assumption)) only [S1, ↓reduceIte, Nat.reduceEqDiff, Nat.reduceAdd, Nat.reduceMul, Nat.reduceDiv, AOp.sb, AOp.mut, ↓Bool.false_eq_true, beq_self_eq_true, ite_self, Nat.reduceLeDiff, Int.reduceEq, Int.reduceSub, Int.reduceAdd, Int.reduceNeg, Int.reduceLT, Int.reduceLE, Nat.reduceLT, wi, tn_nat, Nat.div_one, Nat.mul_one, W_len, W_nf, W_cell, W_nil, W_get, List.length_nil, List.length_cons, qE_0])
    simp (disch := (first | omega | assumption)) only [retOk, retN, ret1, retF, ret1F, V.okArg, and_true, true_and, S1, ↓reduceIte, Nat.reduceEqDiff, Nat.reduceAdd, Nat.reduceMul, Nat.reduceDiv, AOp.sb, AOp.mut, ↓Bool.false_eq_true, beq_self_eq_true, ite_self, Nat.reduceLeDiff, Int.reduceEq, Int.reduceSub, Int.reduceAdd, Int.reduceNeg, Int.reduceLT, Int.reduceLE, Nat.reduceLT, wi, tn_nat, Nat.div_one, Nat.mul_one, W_len, W_nf, W_cell, W_nil, W_get, List.length_nil, List.length_cons, qE_0]
  · have e := qE_p (v := v) (by omega)
    rw [if_neg h0] at hz
    by_cases h1 : u % v = 0
    · rw [show exQ u v = qQ u v from (if_neg h0).trans (if_pos h1), show exE u v = 0 from (if_neg h0).trans (if_pos h1)]
      have zc8 := hq
      have zc9 := hz
      repeat first | (refine hK _ ?_; clear hK K) | simp only [Sv, ↓reduceIte, Nat.reduceEqDiff] | ((first | refine vm_reg (fun K hK => ?_) | refine vm_dreg (fun K hK => ?_) | refine clp_q ?_ | refine clq_mk (by assumption) ?_); simp (disch := (first | omega | assumption)) only [S1, ↓reduceIte, Nat.reduceEqDiff, Nat.reduceAdd, Nat.reduceMul, Nat.reduceDiv, AOp.sb, AOp.mut, ↓Bool.false_eq_true, beq_self_eq_true, ite_self, Nat.reduceLeDiff, Int.reduceEq, Int.reduceSub, Int.reduceAdd, Int.reduceNeg, Int.reduceLT, Int.reduceLE, Nat.reduceLT, wi, tn_nat, Nat.div_one, Nat.mul_one, W_len, W_nf, W_cell, W_nil, W_get, List.length_nil, List.length_cons, e, h1])
      simp (disch := (first | omega | assumption)) only [retOk, retN, ret1, retF, ret1F, V.okArg, and_true, true_and, S1, ↓reduceIte, Nat.reduceEqDiff, Nat.reduceAdd, Nat.reduceMul, Nat.reduceDiv, AOp.sb, AOp.mut, ↓Bool.false_eq_true, beq_self_eq_true, ite_self, Nat.reduceLeDiff, Int.reduceEq, Int.reduceSub, Int.reduceAdd, Int.reduceNeg, Int.reduceLT, Int.reduceLE, Nat.reduceLT, wi, tn_nat, Nat.div_one, Nat.mul_one, W_len, W_nf, W_cell, W_nil, W_get, List.length_nil, List.length_cons, e, h1]
    · rw [show exQ u v = [] from (if_neg h0).trans (if_neg h1), show exE u v = 4 from (if_neg h0).trans (if_neg h1)]
      have zc10 := hq
      have zc11 := hz
      repeat first | (refine hK _ ?_; clear hK K) | simp only [Sv, ↓reduceIte, Nat.reduceEqDiff] | ((first | refine vm_reg (fun K hK => ?_) | refine vm_dreg (fun K hK => ?_) | refine clp_q ?_ | refine clq_mk (by assumption) ?_); simp (disch := (first | omega | assumption)) only [S1, ↓reduceIte, Nat.reduceEqDiff, Nat.reduceAdd, Nat.reduceMul, Nat.reduceDiv, AOp.sb, AOp.mut, ↓Bool.false_eq_true, beq_self_eq_true, ite_self, Nat.reduceLeDiff, Int.reduceEq, Int.reduceSub, Int.reduceAdd, Int.reduceNeg, Int.reduceLT, Int.reduceLE, Nat.reduceLT, wi, tn_nat, Nat.div_one, Nat.mul_one, W_len, W_nf, W_cell, W_nil, W_get, List.length_nil, List.length_cons, e, h1])
      simp (disch := (first | omega | assumption)) only [retOk, retN, ret1, retF, ret1F, V.okArg, and_true, true_and, S1, ↓reduceIte, Nat.reduceEqDiff, Nat.reduceAdd, Nat.reduceMul, Nat.reduceDiv, AOp.sb, AOp.mut, ↓Bool.false_eq_true, beq_self_eq_true, ite_self, Nat.reduceLeDiff, Int.reduceEq, Int.reduceSub, Int.reduceAdd, Int.reduceNeg, Int.reduceLT, Int.reduceLE, Nat.reduceLT, wi, tn_nat, Nat.div_one, Nat.mul_one, W_len, W_nf, W_cell, W_nil, W_get, List.length_nil, List.length_cons, e, h1]
-- surd/surdref04.Divides
def a21 : AC := .seq (.reg [⟨some 4, none, .mv (.k (.b false))⟩])
  (.seq (.seq (.reg [⟨some 8, none, .mv (.t 0)⟩, 
        ⟨some 9, none, .call 48 [(1, (.t 8))]⟩])
    (.cond (.t 9)
    (.seq (.reg [⟨some 10, none, .mv (.t 1)⟩, 
          ⟨some 11, none, .call 48 [(1, (.t 10))]⟩, 
          ⟨some 4, none, .mv (.t 11)⟩])
      (.ret))
    (.skip)))
  (.seq (.reg [⟨some 13, none, .mv (.t 1)⟩, 
      ⟨some 14, none, .mv (.t 0)⟩, 
      ⟨some 15, none, .call 15 [(1, (.t 13)), (1, (.t 14))]⟩, 
      ⟨some 12, none, .mv (.t 15)⟩, 
      ⟨some 16, none, .ext (.t 12) 0⟩, 
      ⟨some 17, none, .ext (.t 12) 1⟩, 
      ⟨some 18, none, .ext (.t 12) 2⟩, 
      ⟨some 5, none, .mv (.t 16)⟩, 
      ⟨some 6, none, .mv (.t 17)⟩, 
      ⟨some 7, none, .mv (.t 18)⟩])
  (.seq (.reg [⟨some 19, none, .mv (.t 6)⟩, 
      ⟨some 20, none, .call 48 [(1, (.t 19))]⟩, 
      ⟨some 4, none, .mv (.t 20)⟩])
  (.ret))))
theorem rdivides_spec (b a : List Nat) (hb : Wd b) (ha : Wd a) (lb : b.length ≤ 1000000000) (la : a.length ≤ 1000000000) :
    AFun Try.prog J0 21 [.l 1 (W b), .l 1 (W a)] (.b (dvB (nv B a) (nv B b))) := by
  have hq := rquo_spec a b ha hb la lb
  have hz := rzero_spec (qR (nv B a) (nv B b)) (qR_Wd _ _) (by have := qR_len (v := nv B b) (nvlt ha la); omega)
  have hr : nv B (qR (nv B a) (nv B b)) = if nv B b = 0 then 0 else nv B a % nv B b := by unfold qR; split; rfl; exact nv_dgB _
  rw [hr] at hz
  have hzb := rzero_spec b hb (by omega)
  have hza := rzero_spec a ha (by omega)
  generalize nv B a = u at *
  generalize nv B b = v at *
  refine AFun.mk fol J0s Try.func21 rfl (ac := a21) (by kernel_rfl) rfl rfl ?_
  apply vm_start
  unfold a21
  simp only [init_eq, initE]
  by_cases h0 : v = 0
  · rw [show dvB u v = decide (u = 0) from if_pos h0]
    have zc12 := hzb
    have zc13 := hza
    repeat first | (refine hK _ ?_; clear hK K) | simp only [Sv, ↓reduceIte, Nat.reduceEqDiff] | ((first | refine vm_reg (fun K hK => ?_) | refine vm_dreg (fun K hK => ?_) | refine clp_q ?_ | refine clq_mk (by assumption) ?_); simp (disch := (first | omega | assumption)) only [S1, ↓reduceIte, Nat.reduceEqDiff, Nat.reduceAdd, Nat.reduceMul, Nat.reduceDiv, AOp.sb, AOp.mut, ↓Bool.false_eq_true, beq_self_eq_true, ite_self, Nat.reduceLeDiff, Int.reduceEq, Int.reduceSub, Int.reduceAdd, Int.reduceNeg, Int.reduceLT, Int.reduceLE, Nat.reduceLT, wi, tn_nat, Nat.div_one, Nat.mul_one, W_len, W_nf, W_cell, W_nil, W_get, List.length_nil, List.length_cons, h0])
    simp (disch := (first | omega | assumption)) only [retOk, retN, ret1, retF, ret1F, V.okArg, and_true, true_and, S1, ↓reduceIte, Nat.reduceEqDiff, Nat.reduceAdd, Nat.reduceMul, Nat.reduceDiv, AOp.sb, AOp.mut, ↓Bool.false_eq_true, beq_self_eq_true, ite_self, Nat.reduceLeDiff, Int.reduceEq, Int.reduceSub, Int.reduceAdd, Int.reduceNeg, Int.reduceLT, Int.reduceLE, Nat.reduceLT, wi, tn_nat, Nat.div_one, Nat.mul_one, W_len, W_nf, W_cell, W_nil, W_get, List.length_nil, List.length_cons, h0]
  · rw [show dvB u v = decide (u % v = 0) from if_neg h0]
    rw [if_neg h0] at hz
    have zc14 := hzb
    have zc15 := hq
    have zc16 := hz
    repeat first | (refine hK _ ?_; clear hK K) | simp only [Sv, ↓reduceIte, Nat.reduceEqDiff] | ((first | refine vm_reg (fun K hK => ?_) | refine vm_dreg (fun K hK => ?_) | refine clp_q ?_ | refine clq_mk (by assumption) ?_); simp (disch := (first | omega | assumption)) only [S1, ↓reduceIte, Nat.reduceEqDiff, Nat.reduceAdd, Nat.reduceMul, Nat.reduceDiv, AOp.sb, AOp.mut, ↓Bool.false_eq_true, beq_self_eq_true, ite_self, Nat.reduceLeDiff, Int.reduceEq, Int.reduceSub, Int.reduceAdd, Int.reduceNeg, Int.reduceLT, Int.reduceLE, Nat.reduceLT, wi, tn_nat, Nat.div_one, Nat.mul_one, W_len, W_nf, W_cell, W_nil, W_get, List.length_nil, List.length_cons, h0])
    simp (disch := (first | omega | assumption)) only [retOk, retN, ret1, retF, ret1F, V.okArg, and_true, true_and, S1, ↓reduceIte, Nat.reduceEqDiff, Nat.reduceAdd, Nat.reduceMul, Nat.reduceDiv, AOp.sb, AOp.mut, ↓Bool.false_eq_true, beq_self_eq_true, ite_self, Nat.reduceLeDiff, Int.reduceEq, Int.reduceSub, Int.reduceAdd, Int.reduceNeg, Int.reduceLT, Int.reduceLE, Nat.reduceLT, wi, tn_nat, Nat.div_one, Nat.mul_one, W_len, W_nf, W_cell, W_nil, W_get, List.length_nil, List.length_cons, h0]
-- surd/surdref04.Up
def a22 : AC := .seq (.reg [⟨some 4, none, .mv (.k .nl)⟩, 
      ⟨some 5, none, .mv (.k (.i .i64 0))⟩])
  (.seq (.reg [⟨some 10, none, .mv (.t 0)⟩, 
      ⟨some 11, none, .mv (.t 1)⟩, 
      ⟨some 12, none, .call 15 [(1, (.t 10)), (1, (.t 11))]⟩, 
      ⟨some 9, none, .mv (.t 12)⟩, 
      ⟨some 13, none, .ext (.t 9) 0⟩, 
      ⟨some 14, none, .ext (.t 9) 1⟩, 
      ⟨some 15, none, .ext (.t 9) 2⟩, 
      ⟨some 6, none, .mv (.t 13)⟩, 
      ⟨some 7, none, .mv (.t 14)⟩, 
      ⟨some 8, none, .mv (.t 15)⟩])
  (.seq (.seq (.reg [⟨some 16, none, .mv (.t 8)⟩, 
        ⟨some 17, none, .bin .eql (.t 16) (.k (.i .i64 0))⟩, 
        ⟨some 18, none, .mv (.t 17)⟩, 
        ⟨some 19, some (18, true), .mv (.t 7)⟩, 
        ⟨some 20, some (18, true), .call 48 [(1, (.t 19))]⟩, 
        ⟨some 21, some (18, true), .un .not (.t 20)⟩, 
        ⟨some 22, none, .pick (.t 18) (.t 21) (.k (.b false))⟩])
    (.cond (.t 22)
    (.reg [⟨some 23, none, .mv (.t 6)⟩, 
        ⟨some 24, none, .call 50 []⟩, 
        ⟨some 25, none, .call 58 [(1, (.t 23)), (1, (.t 24))]⟩, 
        ⟨some 6, none, .mv (.t 25)⟩])
    (.skip)))
  (.seq (.reg [⟨some 26, none, .mv (.t 6)⟩, 
      ⟨some 27, none, .mv (.t 8)⟩, 
      ⟨some 4, none, .mv (.t 26)⟩, 
      ⟨some 5, none, .mv (.t 27)⟩])
  (.ret))))
theorem rup_spec (a b : List Nat) (ha : Wd a) (hb : Wd b) (la : a.length ≤ 1000000000) (lb : b.length ≤ 1000000000) :
    AFun Try.prog J0 22 [.l 1 (W a), .l 1 (W b)] (.t [.l 1 (W (upQ (nv B a) (nv B b))), .i .i64 (qE (nv B b))]) := by
  have hq := rquo_spec a b ha hb la lb
  have hz := rzero_spec (qR (nv B a) (nv B b)) (qR_Wd _ _) (by have := qR_len (v := nv B b) (nvlt ha la); omega)
  have hr : nv B (qR (nv B a) (nv B b)) = if nv B b = 0 then 0 else nv B a % nv B b := by unfold qR; split; rfl; exact nv_dgB _
  rw [hr] at hz
  have hql := qQ_len (v := nv B b) (nvlt ha la)
  have had := radd_spec (qQ (nv B a) (nv B b)) [1] (qQ_Wd _ _) (Wd1 (by decide)) (by omega) (by decide)
  rw [qQ_nv, nv_one] at had
  generalize nv B a = u at *
  generalize nv B b = v at *
  refine AFun.mk fol J0s Try.func22 rfl (ac := a22) (by kernel_rfl) rfl rfl ?_
  apply vm_start
  unfold a22
  simp only [init_eq, initE]
  by_cases h0 : v = 0
  · rw [show upQ u v = [] from if_pos h0]
    subst h0
    rw [qQ_0] at hq
    have zc17 := hq
    repeat first | (refine hK _ ?_; clear hK K) | simp only [Sv, ↓reduceIte, Nat.reduceEqDiff] | ((first | refine vm_reg (fun K hK => ?_) | refine vm_dreg (fun K hK => ?_) | refine clp_q ?_ | refine clq_mk (by assumption) ?_); simp (disch := (first | omega | assumption)) only [S1, ↓reduceIte, Nat.reduceEqDiff, Nat.reduceAdd, Nat.reduceMul, Nat.reduceDiv, AOp.sb, AOp.mut, ↓Bool.false_eq_true, beq_self_eq_true, ite_self, Nat.reduceLeDiff, Int.reduceEq, Int.reduceSub, Int.reduceAdd, Int.reduceNeg, Int.reduceLT, Int.reduceLE, Nat.reduceLT, wi, tn_nat, Nat.div_one, Nat.mul_one, W_len, W_nf, W_cell, W_nil, W_get, List.length_nil, List.length_cons, qE_0])
    simp (disch := (first | omega | assumption)) only [retOk, retN, ret1, retF, ret1F, V.okArg, and_true, true_and, S1, ↓reduceIte, Nat.reduceEqDiff, Nat.reduceAdd, Nat.reduceMul, Nat.reduceDiv, AOp.sb, AOp.mut, ↓Bool.false_eq_true, beq_self_eq_true, ite_self, Nat.reduceLeDiff, Int.reduceEq, Int.reduceSub, Int.reduceAdd, Int.reduceNeg, Int.reduceLT, Int.reduceLE, Nat.reduceLT, wi, tn_nat, Nat.div_one, Nat.mul_one, W_len, W_nf, W_cell, W_nil, W_get, List.length_nil, List.length_cons, qE_0]
  · have e := qE_p (v := v) (by omega)
    rw [if_neg h0] at hz
    by_cases h1 : u % v = 0
    · rw [show upQ u v = qQ u v from (if_neg h0).trans (if_pos h1)]
      have zc18 := hq
      have zc19 := hz
      repeat first | (refine hK _ ?_; clear hK K) | simp only [Sv, ↓reduceIte, Nat.reduceEqDiff] | ((first | refine vm_reg (fun K hK => ?_) | refine vm_dreg (fun K hK => ?_) | refine clp_q ?_ | refine clq_mk (by assumption) ?_); simp (disch := (first | omega | assumption)) only [S1, ↓reduceIte, Nat.reduceEqDiff, Nat.reduceAdd, Nat.reduceMul, Nat.reduceDiv, AOp.sb, AOp.mut, ↓Bool.false_eq_true, beq_self_eq_true, ite_self, Nat.reduceLeDiff, Int.reduceEq, Int.reduceSub, Int.reduceAdd, Int.reduceNeg, Int.reduceLT, Int.reduceLE, Nat.reduceLT, wi, tn_nat, Nat.div_one, Nat.mul_one, W_len, W_nf, W_cell, W_nil, W_get, List.length_nil, List.length_cons, e, h1])
      simp (disch := (first | omega | assumption)) only [retOk, retN, ret1, retF, ret1F, V.okArg, and_true, true_and, S1, ↓reduceIte, Nat.reduceEqDiff, Nat.reduceAdd, Nat.reduceMul, Nat.reduceDiv, AOp.sb, AOp.mut, ↓Bool.false_eq_true, beq_self_eq_true, ite_self, Nat.reduceLeDiff, Int.reduceEq, Int.reduceSub, Int.reduceAdd, Int.reduceNeg, Int.reduceLT, Int.reduceLE, Nat.reduceLT, wi, tn_nat, Nat.div_one, Nat.mul_one, W_len, W_nf, W_cell, W_nil, W_get, List.length_nil, List.length_cons, e, h1]
    · rw [show upQ u v = dg B (u / v + 1) from (if_neg h0).trans (if_neg h1)]
      have zc20 := hq
      have zc21 := hz
      have zc22 := one_spec
      have zc23 := had
      repeat first | (refine hK _ ?_; clear hK K) | simp only [Sv, ↓reduceIte, Nat.reduceEqDiff] | ((first | refine vm_reg (fun K hK => ?_) | refine vm_dreg (fun K hK => ?_) | refine clp_q ?_ | refine clq_mk (by assumption) ?_); simp (disch := (first | omega | assumption)) only [S1, ↓reduceIte, Nat.reduceEqDiff, Nat.reduceAdd, Nat.reduceMul, Nat.reduceDiv, AOp.sb, AOp.mut, ↓Bool.false_eq_true, beq_self_eq_true, ite_self, Nat.reduceLeDiff, Int.reduceEq, Int.reduceSub, Int.reduceAdd, Int.reduceNeg, Int.reduceLT, Int.reduceLE, Nat.reduceLT, wi, tn_nat, Nat.div_one, Nat.mul_one, W_len, W_nf, W_cell, W_nil, W_get, List.length_nil, List.length_cons, e, h1])
      simp (disch := (first | omega | assumption)) only [retOk, retN, ret1, retF, ret1F, V.okArg, and_true, true_and, S1, ↓reduceIte, Nat.reduceEqDiff, Nat.reduceAdd, Nat.reduceMul, Nat.reduceDiv, AOp.sb, AOp.mut, ↓Bool.false_eq_true, beq_self_eq_true, ite_self, Nat.reduceLeDiff, Int.reduceEq, Int.reduceSub, Int.reduceAdd, Int.reduceNeg, Int.reduceLT, Int.reduceLE, Nat.reduceLT, wi, tn_nat, Nat.div_one, Nat.mul_one, W_len, W_nf, W_cell, W_nil, W_get, List.length_nil, List.length_cons, e, h1]
-- surd/surdref04.Near
def a24 : AC := .seq (.reg [⟨some 4, none, .mv (.k .nl)⟩, 
      ⟨some 5, none, .mv (.k (.i .i64 0))⟩])
  (.seq (.reg [⟨some 10, none, .mv (.t 0)⟩, 
      ⟨some 11, none, .mv (.t 1)⟩, 
      ⟨some 12, none, .call 15 [(1, (.t 10)), (1, (.t 11))]⟩, 
      ⟨some 9, none, .mv (.t 12)⟩, 
      ⟨some 13, none, .ext (.t 9) 0⟩, 
      ⟨some 14, none, .ext (.t 9) 1⟩, 
      ⟨some 15, none, .ext (.t 9) 2⟩, 
      ⟨some 6, none, .mv (.t 13)⟩, 
      ⟨some 7, none, .mv (.t 14)⟩, 
      ⟨some 8, none, .mv (.t 15)⟩])
  (.seq (.seq (.reg [⟨some 16, none, .mv (.t 8)⟩, 
        ⟨some 17, none, .bin .eql (.t 16) (.k (.i .i64 0))⟩, 
        ⟨some 18, none, .mv (.t 17)⟩, 
        ⟨some 19, some (18, true), .mv (.t 7)⟩, 
        ⟨some 20, some (18, true), .mv (.t 7)⟩, 
        ⟨some 21, some (18, true), .call 58 [(1, (.t 19)), (1, (.t 20))]⟩, 
        ⟨some 22, some (18, true), .mv (.t 1)⟩, 
        ⟨some 23, some (18, true), .call 49 [(1, (.t 21)), (1, (.t 22))]⟩, 
        ⟨some 24, some (18, true), .bin .geq (.t 23) (.k (.i .i64 0))⟩, 
        ⟨some 25, none, .pick (.t 18) (.t 24) (.k (.b false))⟩])
    (.cond (.t 25)
    (.reg [⟨some 26, none, .mv (.t 6)⟩, 
        ⟨some 27, none, .call 50 []⟩, 
        ⟨some 28, none, .call 58 [(1, (.t 26)), (1, (.t 27))]⟩, 
        ⟨some 6, none, .mv (.t 28)⟩])
    (.skip)))
  (.seq (.reg [⟨some 29, none, .mv (.t 6)⟩, 
      ⟨some 30, none, .mv (.t 8)⟩, 
      ⟨some 4, none, .mv (.t 29)⟩, 
      ⟨some 5, none, .mv (.t 30)⟩])
  (.ret))))
theorem rnear_spec (a b : List Nat) (ha : Wd a) (hb : Wd b) (la : a.length ≤ 1000000000) (lb : b.length ≤ 1000000000) :
    AFun Try.prog J0 24 [.l 1 (W a), .l 1 (W b)] (.t [.l 1 (W (nrQ (nv B a) (nv B b))), .i .i64 (qE (nv B b))]) := by
  obtain ⟨m, hm⟩ : ∃ m, m = 1000000000 := ⟨_, rfl⟩
  have lam : a.length ≤ m := by omega
  have hq := rquo_spec a b ha hb la lb
  have hql := qQ_len (v := nv B b) (nvlt ha la)
  have hrl := qR_len (v := nv B b) (nvlt ha la)
  have hrr := radd_spec (qR (nv B a) (nv B b)) (qR (nv B a) (nv B b)) (qR_Wd _ _) (qR_Wd _ _) (by omega) (by omega)
  have had := radd_spec (qQ (nv B a) (nv B b)) [1] (qQ_Wd _ _) (Wd1 (by decide)) (by omega) (by decide)
  rw [qQ_nv, nv_one] at had
  refine AFun.mk fol J0s Try.func24 rfl (ac := a24) (by kernel_rfl) rfl rfl ?_
  apply vm_start
  unfold a24
  simp only [init_eq, initE]
  by_cases h0 : nv B b = 0
  · rw [show nrQ (nv B a) (nv B b) = [] from if_pos h0]
    rw [h0, qQ_0] at hq
    rw [h0]
    have zc24 := hq
    repeat first | (refine hK _ ?_; clear hK K) | simp only [Sv, ↓reduceIte, Nat.reduceEqDiff] | ((first | refine vm_reg (fun K hK => ?_) | refine vm_dreg (fun K hK => ?_) | refine clp_q ?_ | refine clq_mk (by assumption) ?_); simp (disch := (first | omega | assumption)) only [S1, ↓reduceIte, Nat.reduceEqDiff, Nat.reduceAdd, Nat.reduceMul, Nat.reduceDiv, AOp.sb, AOp.mut, ↓Bool.false_eq_true, beq_self_eq_true, ite_self, Nat.reduceLeDiff, Int.reduceEq, Int.reduceSub, Int.reduceAdd, Int.reduceNeg, Int.reduceLT, Int.reduceLE, Nat.reduceLT, wi, tn_nat, Nat.div_one, Nat.mul_one, W_len, W_nf, W_cell, W_nil, W_get, List.length_nil, List.length_cons, qE_0])
    simp (disch := (first | omega | assumption)) only [retOk, retN, ret1, retF, ret1F, V.okArg, and_true, true_and, S1, ↓reduceIte, Nat.reduceEqDiff, Nat.reduceAdd, Nat.reduceMul, Nat.reduceDiv, AOp.sb, AOp.mut, ↓Bool.false_eq_true, beq_self_eq_true, ite_self, Nat.reduceLeDiff, Int.reduceEq, Int.reduceSub, Int.reduceAdd, Int.reduceNeg, Int.reduceLT, Int.reduceLE, Nat.reduceLT, wi, tn_nat, Nat.div_one, Nat.mul_one, W_len, W_nf, W_cell, W_nil, W_get, List.length_nil, List.length_cons, qE_0]
  · have e := qE_p (v := nv B b) (by omega)
    have hR : nv B (qR (nv B a) (nv B b)) = nv B a % nv B b := by rw [qR_p (by omega), nv_dgB]
    rw [hR] at hrr
    have hr2 : (dg B (nv B a % nv B b + nv B a % nv B b)).length ≤ m + 1 := dlen (padd (Nat.lt_of_le_of_lt (Nat.mod_le _ _) (nvlt ha lam)) (Nat.lt_of_le_of_lt (Nat.mod_le _ _) (nvlt ha lam)))
    have hcm := rcmp_spec (dg B (nv B a % nv B b + nv B a % nv B b)) b (Wd_dg _) hb (by omega) (by omega)
    rw [nv_dgB] at hcm
    by_cases h1 : nv B a % nv B b + nv B a % nv B b < nv B b
    · have hs : (0 ≤ sg (nv B a % nv B b + nv B a % nv B b) (nv B b)) = False := by
        have := sg_lt (x := nv B a % nv B b + nv B a % nv B b) (y := nv B b)
        exact eq_false (fun h => by have := this.mpr h1; omega)
      rw [show nrQ (nv B a) (nv B b) = qQ (nv B a) (nv B b) from (if_neg h0).trans (if_pos h1)]
      have zc25 := hq
      have zc26 := hrr
      have zc27 := hcm
      repeat first | (refine hK _ ?_; clear hK K) | simp only [Sv, ↓reduceIte, Nat.reduceEqDiff] | ((first | refine vm_reg (fun K hK => ?_) | refine vm_dreg (fun K hK => ?_) | refine clp_q ?_ | refine clq_mk (by assumption) ?_); simp (disch := (first | omega | assumption)) only [S1, ↓reduceIte, Nat.reduceEqDiff, Nat.reduceAdd, Nat.reduceMul, Nat.reduceDiv, AOp.sb, AOp.mut, ↓Bool.false_eq_true, beq_self_eq_true, ite_self, Nat.reduceLeDiff, Int.reduceEq, Int.reduceSub, Int.reduceAdd, Int.reduceNeg, Int.reduceLT, Int.reduceLE, Nat.reduceLT, wi, tn_nat, Nat.div_one, Nat.mul_one, W_len, W_nf, W_cell, W_nil, W_get, List.length_nil, List.length_cons, e, hs])
      simp (disch := (first | omega | assumption)) only [retOk, retN, ret1, retF, ret1F, V.okArg, and_true, true_and, S1, ↓reduceIte, Nat.reduceEqDiff, Nat.reduceAdd, Nat.reduceMul, Nat.reduceDiv, AOp.sb, AOp.mut, ↓Bool.false_eq_true, beq_self_eq_true, ite_self, Nat.reduceLeDiff, Int.reduceEq, Int.reduceSub, Int.reduceAdd, Int.reduceNeg, Int.reduceLT, Int.reduceLE, Nat.reduceLT, wi, tn_nat, Nat.div_one, Nat.mul_one, W_len, W_nf, W_cell, W_nil, W_get, List.length_nil, List.length_cons, e, hs]
    · have hs : (0 ≤ sg (nv B a % nv B b + nv B a % nv B b) (nv B b)) = True := by
        have := sg_lt (x := nv B a % nv B b + nv B a % nv B b) (y := nv B b)
        refine eq_true (Int.not_lt.1 fun h => h1 (this.mp h))
      rw [show nrQ (nv B a) (nv B b) = dg B (nv B a / nv B b + 1) from (if_neg h0).trans (if_neg h1)]
      have zc28 := hq
      have zc29 := hrr
      have zc30 := hcm
      have zc31 := one_spec
      have zc32 := had
      repeat first | (refine hK _ ?_; clear hK K) | simp only [Sv, ↓reduceIte, Nat.reduceEqDiff] | ((first | refine vm_reg (fun K hK => ?_) | refine vm_dreg (fun K hK => ?_) | refine clp_q ?_ | refine clq_mk (by assumption) ?_); simp (disch := (first | omega | assumption)) only [S1, ↓reduceIte, Nat.reduceEqDiff, Nat.reduceAdd, Nat.reduceMul, Nat.reduceDiv, AOp.sb, AOp.mut, ↓Bool.false_eq_true, beq_self_eq_true, ite_self, Nat.reduceLeDiff, Int.reduceEq, Int.reduceSub, Int.reduceAdd, Int.reduceNeg, Int.reduceLT, Int.reduceLE, Nat.reduceLT, wi, tn_nat, Nat.div_one, Nat.mul_one, W_len, W_nf, W_cell, W_nil, W_get, List.length_nil, List.length_cons, e, hs])
      simp (disch := (first | omega | assumption)) only [retOk, retN, ret1, retF, ret1F, V.okArg, and_true, true_and, S1, ↓reduceIte, Nat.reduceEqDiff, Nat.reduceAdd, Nat.reduceMul, Nat.reduceDiv, AOp.sb, AOp.mut, ↓Bool.false_eq_true, beq_self_eq_true, ite_self, Nat.reduceLeDiff, Int.reduceEq, Int.reduceSub, Int.reduceAdd, Int.reduceNeg, Int.reduceLT, Int.reduceLE, Nat.reduceLT, wi, tn_nat, Nat.div_one, Nat.mul_one, W_len, W_nf, W_cell, W_nil, W_get, List.length_nil, List.length_cons, e, hs]
end Go.Proofs.Ytngohbpgdeiodaa
