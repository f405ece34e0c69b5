/-
  gauss: sums, products, conjugates, norms, powers; zpoly.Norm.
-/
import Derived.Test.YtfkldohgiifgbaaG1
namespace Go.Proofs.Ytfkldohgiifgbaa
open Go Go.RowKit Ab
set_option linter.unusedSimpArgs false
set_option linter.unusedVariables false
set_option maxHeartbeats 10000000
theorem bz_G2 : type_of% (And.intro @W_len (And.intro @D_len (And.intro @Nat.div_one (And.intro @Nat.mul_one (And.intro @tn_nat (And.intro @W_nf (And.intro @D_nf (And.intro @W_nil (And.intro @D_nil (And.intro @wi (And.intro @nf_g (And.intro @Bool.false_and (And.intro @W_cell (And.intro @ZC_cell (@ZC_nil))))))))))))))) := And.intro @W_len (And.intro @D_len (And.intro @Nat.div_one (And.intro @Nat.mul_one (And.intro @tn_nat (And.intro @W_nf (And.intro @D_nf (And.intro @W_nil (And.intro @D_nil (And.intro @wi (And.intro @nf_g (And.intro @Bool.false_and (And.intro @W_cell (And.intro @ZC_cell (@ZC_nil))))))))))))))

theorem gsize_ok {z : GZ} (h : gsz z < SM) : AFun Try.prog J0 35 [nV z] (.t [.i .i64 ((gsz z : Nat) : Int), .i .i64 0]) := by
  have := gsize_spec z
  rwa [show szV z = ((gsz z : Nat) : Int) from if_pos h, show szE z = 0 from if_pos h] at this
theorem gsize_bad {z : GZ} (h : ¬ gsz z < SM) : AFun Try.prog J0 35 [nV z] (.t [.i .i64 0, .i .i64 13]) := by
  have := gsize_spec z
  rwa [show szV z = 0 from if_neg h, show szE z = 13 from if_neg h] at this
def aF (x y : GZ) : GZ := if gsz x + gsz y < SM then gadd x y else (0, 0)
def aE (x y : GZ) : Int := if gsz x + gsz y < SM then 0 else 13
-- surd/gauss.Add
def a37 : AC := .seq (.reg [⟨some 2, none, .bx 31 (.t 0)⟩, 
      ⟨some 3, none, .bx 31 (.t 1)⟩, 
      ⟨some 4, none, .al 31 [(.i .i64 0), (.i .i64 0)]⟩, 
      ⟨some 5, none, .mv (.k (.i .i64 0))⟩])
  (.seq (.reg [⟨some 11, none, .ld true 2 (.t 2)⟩, 
      ⟨some 12, none, .call 35 [(1, (.t 11))]⟩, 
      ⟨some 10, none, .mv (.t 12)⟩, 
      ⟨some 13, none, .ext (.t 10) 0⟩, 
      ⟨some 14, none, .ext (.t 10) 1⟩, 
      ⟨some 6, none, .mv (.t 13)⟩, 
      ⟨some 7, none, .mv (.t 14)⟩])
  (.seq (.reg [⟨some 16, none, .ld true 2 (.t 3)⟩, 
      ⟨some 17, none, .call 35 [(1, (.t 16))]⟩, 
      ⟨some 15, none, .mv (.t 17)⟩, 
      ⟨some 18, none, .ext (.t 15) 0⟩, 
      ⟨some 19, none, .ext (.t 15) 1⟩, 
      ⟨some 8, none, .mv (.t 18)⟩, 
      ⟨some 9, none, .mv (.t 19)⟩])
  (.seq (.seq (.reg [⟨some 20, none, .mv (.t 7)⟩, 
        ⟨some 21, none, .bin .neq (.t 20) (.k (.i .i64 0))⟩, 
        ⟨some 22, none, .mv (.t 21)⟩, 
        ⟨some 23, some (22, false), .mv (.t 9)⟩, 
        ⟨some 24, some (22, false), .bin .neq (.t 23) (.k (.i .i64 0))⟩, 
        ⟨some 25, none, .pick (.t 22) (.k (.b true)) (.t 24)⟩, 
        ⟨some 26, none, .mv (.t 25)⟩, 
        ⟨some 27, some (26, false), .mv (.t 6)⟩, 
        ⟨some 28, some (26, false), .mv (.t 8)⟩, 
        ⟨some 29, some (26, false), .bin .add (.t 27) (.t 28)⟩, 
        ⟨some 30, some (26, false), .bin .geq (.t 29) (.k (.i .i64 1125899906842624))⟩, 
        ⟨some 31, none, .pick (.t 26) (.k (.b true)) (.t 30)⟩])
    (.cond (.t 31)
    (.seq (.reg [⟨some 32, none, .bld [(.i .i64 0), (.i .i64 0)] []⟩, 
          ⟨none, none, .st 2 (.t 4) (.t 32)⟩, 
          ⟨some 5, none, .mv (.k (.i .i64 13))⟩])
      (.ret))
    (.skip)))
  (.seq (.dreg [⟨some 33, none, .ld true 2 (.t 2)⟩, 
      ⟨some 34, none, .call 67 [(1, (.t 33))]⟩, 
      ⟨some 35, none, .ld true 2 (.t 3)⟩, 
      ⟨some 36, none, .call 67 [(1, (.t 35))]⟩, 
      ⟨some 37, none, .pur (.nm .zadd) [(.t 34), (.t 36)]⟩, 
      ⟨some 38, none, .call 68 [(1, (.t 37))]⟩, 
      ⟨none, none, .st 2 (.t 4) (.t 38)⟩, 
      ⟨some 5, none, .mv (.k (.i .i64 0))⟩])
  (.ret)))))
theorem gaddS (x y : GZ) : AFun Try.prog J0 37 [nV x, nV y] (.t [nV (aF x y), .i .i64 (aE x y)]) := by
  obtain ⟨a, b⟩ := x
  obtain ⟨c, e⟩ := y
  have o1 := inside_spec (a, b)
  have o2 := inside_spec (c, e)
  have o3 := outside_spec (gadd (a, b) (c, e))
  have g3 := gsz_add (a, b) (c, e)
  have s1 := gsize_ok (z := (a, b))
  have s2 := gsize_ok (z := (c, e))
  have t1 := gsize_bad (z := (a, b))
  have t2 := gsize_bad (z := (c, e))
  have hz : gsz (a, b) + gsz (c, e) < SM → (a + c).natAbs < 9007199254740992 ∧ (b + e).natAbs < 9007199254740992 := fun h => by unfold gsz at h; simp only [SM] at h; omega
  simp only [nV, gadd] at *
  by_cases h1 : gsz (a, b) < SM
  · have p1 := s1 h1
    by_cases h2 : gsz (c, e) < SM
    · have p2 := s2 h2
      by_cases h3 : gsz (a, b) + gsz (c, e) < SM
      · rw [show aF (a, b) (c, e) = (a + c, b + e) from if_pos h3, show aE (a, b) (c, e) = 0 from if_pos h3]
        have q1 := o1 h1
        have q2 := o2 h2
        have q3 := o3 (Nat.lt_of_le_of_lt g3 h3)
        have hz := hz h3
        simp only [SM] at h1 h2 h3
        generalize gsz (a, b) = s at *
        generalize gsz (c, e) = t at *
        have k : ¬ (1125899906842624 : Int) ≤ (s : Int) + (t : Int) := by omega
        refine AFun.mkc fol J0s Try.func37 rfl (ac := a37) (by kernel_rfl) (rs := [.c 4 true 2, .t 5]) (by kernel_rfl) rfl ?_
        apply vm_start
        unfold a37
        simp only [init_eq, initE]
        have zc1 := p1
        have zc2 := p2
        have zc3 := q1
        have zc4 := q2
        have zc5 := q3
        repeat first | (refine hK _ ?_; clear hK K) | simp only [Sv, ↓reduceIte, Nat.reduceEqDiff] | ((first | refine vm_reg (fun K hK => ?_) | refine vm_dreg (fun K hK => ?_) | refine clp_q ?_ | refine clq_mk (by assumption) ?_); simp (disch := (first | omega | assumption)) only [S1, ↓reduceIte, Nat.reduceEqDiff, Nat.reduceAdd, Nat.reduceMul, Nat.reduceDiv, AOp.sb, AOp.mut, ↓Bool.false_eq_true, beq_self_eq_true, ite_self, Nat.reduceLeDiff, Int.reduceEq, Int.reduceSub, Int.reduceAdd, Int.reduceNeg, Int.reduceLT, Int.reduceLE, Nat.reduceLT, bz_G2, k, hz])
        simp (disch := (first | omega | assumption)) only [retC, rsVs_nil, rsVs_cons, rsV_t, rsV_c, rsp_pt, rsq_t, rsq_f, ocons_ss, retV_1, retV_2, retNV_nil, retNV_cons, retOk, retN, ret1, retF, ret1F, V.okArg, and_true, true_and, S1, ↓reduceIte, Nat.reduceEqDiff, Nat.reduceAdd, Nat.reduceMul, Nat.reduceDiv, AOp.sb, AOp.mut, ↓Bool.false_eq_true, beq_self_eq_true, ite_self, Nat.reduceLeDiff, Int.reduceEq, Int.reduceSub, Int.reduceAdd, Int.reduceNeg, Int.reduceLT, Int.reduceLE, Nat.reduceLT, bz_G2, k, hz]
      · rw [show aF (a, b) (c, e) = (0, 0) from if_neg h3, show aE (a, b) (c, e) = 13 from if_neg h3]
        simp only [SM] at h1 h2 h3
        generalize gsz (a, b) = s at *
        generalize gsz (c, e) = t at *
        have k : (1125899906842624 : Int) ≤ (s : Int) + (t : Int) := by omega
        refine AFun.mkc fol J0s Try.func37 rfl (ac := a37) (by kernel_rfl) (rs := [.c 4 true 2, .t 5]) (by kernel_rfl) rfl ?_
        apply vm_start
        unfold a37
        simp only [init_eq, initE]
        have zc6 := p1
        have zc7 := p2
        repeat first | (refine hK _ ?_; clear hK K) | simp only [Sv, ↓reduceIte, Nat.reduceEqDiff] | ((first | refine vm_reg (fun K hK => ?_) | refine vm_dreg (fun K hK => ?_) | refine clp_q ?_ | refine clq_mk (by assumption) ?_); simp (disch := (first | omega | assumption)) only [S1, ↓reduceIte, Nat.reduceEqDiff, Nat.reduceAdd, Nat.reduceMul, Nat.reduceDiv, AOp.sb, AOp.mut, ↓Bool.false_eq_true, beq_self_eq_true, ite_self, Nat.reduceLeDiff, Int.reduceEq, Int.reduceSub, Int.reduceAdd, Int.reduceNeg, Int.reduceLT, Int.reduceLE, Nat.reduceLT, bz_G2, k])
        simp (disch := (first | omega | assumption)) only [retC, rsVs_nil, rsVs_cons, rsV_t, rsV_c, rsp_pt, rsq_t, rsq_f, ocons_ss, retV_1, retV_2, retNV_nil, retNV_cons, retOk, retN, ret1, retF, ret1F, V.okArg, and_true, true_and, S1, ↓reduceIte, Nat.reduceEqDiff, Nat.reduceAdd, Nat.reduceMul, Nat.reduceDiv, AOp.sb, AOp.mut, ↓Bool.false_eq_true, beq_self_eq_true, ite_self, Nat.reduceLeDiff, Int.reduceEq, Int.reduceSub, Int.reduceAdd, Int.reduceNeg, Int.reduceLT, Int.reduceLE, Nat.reduceLT, bz_G2, k]
    · have p2 := t2 h2
      have h3 : ¬ gsz (a, b) + gsz (c, e) < SM := by omega
      rw [show aF (a, b) (c, e) = (0, 0) from if_neg h3, show aE (a, b) (c, e) = 13 from if_neg h3]
      refine AFun.mkc fol J0s Try.func37 rfl (ac := a37) (by kernel_rfl) (rs := [.c 4 true 2, .t 5]) (by kernel_rfl) rfl ?_
      apply vm_start
      unfold a37
      simp only [init_eq, initE]
      have zc8 := p1
      have zc9 := p2
      repeat first | (refine hK _ ?_; clear hK K) | simp only [Sv, ↓reduceIte, Nat.reduceEqDiff] | ((first | refine vm_reg (fun K hK => ?_) | refine vm_dreg (fun K hK => ?_) | refine clp_q ?_ | refine clq_mk (by assumption) ?_); simp (disch := (first | omega | assumption)) only [S1, ↓reduceIte, Nat.reduceEqDiff, Nat.reduceAdd, Nat.reduceMul, Nat.reduceDiv, AOp.sb, AOp.mut, ↓Bool.false_eq_true, beq_self_eq_true, ite_self, Nat.reduceLeDiff, Int.reduceEq, Int.reduceSub, Int.reduceAdd, Int.reduceNeg, Int.reduceLT, Int.reduceLE, Nat.reduceLT, bz_G2])
      simp (disch := (first | omega | assumption)) only [retC, rsVs_nil, rsVs_cons, rsV_t, rsV_c, rsp_pt, rsq_t, rsq_f, ocons_ss, retV_1, retV_2, retNV_nil, retNV_cons, retOk, retN, ret1, retF, ret1F, V.okArg, and_true, true_and, S1, ↓reduceIte, Nat.reduceEqDiff, Nat.reduceAdd, Nat.reduceMul, Nat.reduceDiv, AOp.sb, AOp.mut, ↓Bool.false_eq_true, beq_self_eq_true, ite_self, Nat.reduceLeDiff, Int.reduceEq, Int.reduceSub, Int.reduceAdd, Int.reduceNeg, Int.reduceLT, Int.reduceLE, Nat.reduceLT, bz_G2]
  · have p1 := t1 h1
    have h3 : ¬ gsz (a, b) + gsz (c, e) < SM := by omega
    have p2 := gsize_spec (c, e)
    rw [show aF (a, b) (c, e) = (0, 0) from if_neg h3, show aE (a, b) (c, e) = 13 from if_neg h3]
    refine AFun.mkc fol J0s Try.func37 rfl (ac := a37) (by kernel_rfl) (rs := [.c 4 true 2, .t 5]) (by kernel_rfl) rfl ?_
    apply vm_start
    unfold a37
    simp only [init_eq, initE]
    have zc10 := p1
    have zc11 := p2
    repeat first | (refine hK _ ?_; clear hK K) | simp only [Sv, ↓reduceIte, Nat.reduceEqDiff] | ((first | refine vm_reg (fun K hK => ?_) | refine vm_dreg (fun K hK => ?_) | refine clp_q ?_ | refine clq_mk (by assumption) ?_); simp (disch := (first | omega | assumption)) only [S1, ↓reduceIte, Nat.reduceEqDiff, Nat.reduceAdd, Nat.reduceMul, Nat.reduceDiv, AOp.sb, AOp.mut, ↓Bool.false_eq_true, beq_self_eq_true, ite_self, Nat.reduceLeDiff, Int.reduceEq, Int.reduceSub, Int.reduceAdd, Int.reduceNeg, Int.reduceLT, Int.reduceLE, Nat.reduceLT, bz_G2])
    simp (disch := (first | omega | assumption)) only [retC, rsVs_nil, rsVs_cons, rsV_t, rsV_c, rsp_pt, rsq_t, rsq_f, ocons_ss, retV_1, retV_2, retNV_nil, retNV_cons, retOk, retN, ret1, retF, ret1F, V.okArg, and_true, true_and, S1, ↓reduceIte, Nat.reduceEqDiff, Nat.reduceAdd, Nat.reduceMul, Nat.reduceDiv, AOp.sb, AOp.mut, ↓Bool.false_eq_true, beq_self_eq_true, ite_self, Nat.reduceLeDiff, Int.reduceEq, Int.reduceSub, Int.reduceAdd, Int.reduceNeg, Int.reduceLT, Int.reduceLE, Nat.reduceLT, bz_G2]
def mOk (x y : GZ) : Prop := gsz x < SM ∧ gsz y < SM ∧ gsz x * gsz y < SM
instance (x y : GZ) : Decidable (mOk x y) := by unfold mOk; infer_instance
def mF (x y : GZ) : GZ := if mOk x y then gmul x y else (0, 0)
def mE (x y : GZ) : Int := if mOk x y then 0 else 13
-- surd/gauss.Mul
def a39 : AC := .seq (.reg [⟨some 2, none, .bx 31 (.t 0)⟩, 
      ⟨some 3, none, .bx 31 (.t 1)⟩, 
      ⟨some 4, none, .al 31 [(.i .i64 0), (.i .i64 0)]⟩, 
      ⟨some 5, none, .mv (.k (.i .i64 0))⟩])
  (.seq (.reg [⟨some 11, none, .ld true 2 (.t 2)⟩, 
      ⟨some 12, none, .call 35 [(1, (.t 11))]⟩, 
      ⟨some 10, none, .mv (.t 12)⟩, 
      ⟨some 13, none, .ext (.t 10) 0⟩, 
      ⟨some 14, none, .ext (.t 10) 1⟩, 
      ⟨some 6, none, .mv (.t 13)⟩, 
      ⟨some 7, none, .mv (.t 14)⟩])
  (.seq (.reg [⟨some 16, none, .ld true 2 (.t 3)⟩, 
      ⟨some 17, none, .call 35 [(1, (.t 16))]⟩, 
      ⟨some 15, none, .mv (.t 17)⟩, 
      ⟨some 18, none, .ext (.t 15) 0⟩, 
      ⟨some 19, none, .ext (.t 15) 1⟩, 
      ⟨some 8, none, .mv (.t 18)⟩, 
      ⟨some 9, none, .mv (.t 19)⟩])
  (.seq (.seq (.reg [⟨some 20, none, .mv (.t 7)⟩, 
        ⟨some 21, none, .bin .neq (.t 20) (.k (.i .i64 0))⟩, 
        ⟨some 22, none, .mv (.t 21)⟩, 
        ⟨some 23, some (22, false), .mv (.t 9)⟩, 
        ⟨some 24, some (22, false), .bin .neq (.t 23) (.k (.i .i64 0))⟩, 
        ⟨some 25, none, .pick (.t 22) (.k (.b true)) (.t 24)⟩, 
        ⟨some 26, none, .mv (.t 25)⟩, 
        ⟨some 27, some (26, false), .mv (.t 6)⟩, 
        ⟨some 28, some (26, false), .mv (.t 8)⟩, 
        ⟨some 29, some (26, false), .call 66 [(1, (.t 27)), (1, (.t 28))]⟩, 
        ⟨some 30, some (26, false), .un .not (.t 29)⟩, 
        ⟨some 31, none, .pick (.t 26) (.k (.b true)) (.t 30)⟩])
    (.cond (.t 31)
    (.seq (.reg [⟨some 32, none, .bld [(.i .i64 0), (.i .i64 0)] []⟩, 
          ⟨none, none, .st 2 (.t 4) (.t 32)⟩, 
          ⟨some 5, none, .mv (.k (.i .i64 13))⟩])
      (.ret))
    (.skip)))
  (.seq (.dreg [⟨some 33, none, .ld true 2 (.t 2)⟩, 
      ⟨some 34, none, .call 67 [(1, (.t 33))]⟩, 
      ⟨some 35, none, .ld true 2 (.t 3)⟩, 
      ⟨some 36, none, .call 67 [(1, (.t 35))]⟩, 
      ⟨some 37, none, .pur (.nm .zmul) [(.t 34), (.t 36)]⟩, 
      ⟨some 38, none, .call 68 [(1, (.t 37))]⟩, 
      ⟨none, none, .st 2 (.t 4) (.t 38)⟩, 
      ⟨some 5, none, .mv (.k (.i .i64 0))⟩])
  (.ret)))))
theorem gmulS (x y : GZ) : AFun Try.prog J0 39 [nV x, nV y] (.t [nV (mF x y), .i .i64 (mE x y)]) := by
  have hok := gmul_ok (x := x) (y := y)
  obtain ⟨a, b⟩ := x
  obtain ⟨c, e⟩ := y
  have o1 := inside_spec (a, b)
  have o2 := inside_spec (c, e)
  have o3 := outside_spec (gmul (a, b) (c, e))
  have g3 := gsz_mul (a, b) (c, e)
  have s1 := gsize_ok (z := (a, b))
  have s2 := gsize_ok (z := (c, e))
  have t1 := gsize_bad (z := (a, b))
  have t2 := gsize_bad (z := (c, e))
  simp only [nV, gmul] at *
  by_cases h1 : gsz (a, b) < SM
  · have p1 := s1 h1
    by_cases h2 : gsz (c, e) < SM
    · have p2 := s2 h2
      have pf := gfits_spec (gsz (a, b)) (gsz (c, e)) (Nat.le_of_lt h2)
      by_cases h3 : gsz (a, b) * gsz (c, e) < SM
      · rw [show mF (a, b) (c, e) = (a * c - b * e, a * e + b * c) from if_pos ⟨h1, h2, h3⟩, show mE (a, b) (c, e) = 0 from if_pos ⟨h1, h2, h3⟩]
        have q1 := o1 h1
        have q2 := o2 h2
        have q3 := o3 (Nat.lt_of_le_of_lt g3 h3)
        have hz := hok h3
        rw [decide_eq_true h3] at pf
        refine AFun.mkc fol J0s Try.func39 rfl (ac := a39) (by kernel_rfl) (rs := [.c 4 true 2, .t 5]) (by kernel_rfl) rfl ?_
        apply vm_start
        unfold a39
        simp only [init_eq, initE]
        have zc12 := p1
        have zc13 := p2
        have zc14 := pf
        have zc15 := q1
        have zc16 := q2
        have zc17 := q3
        repeat first | (refine hK _ ?_; clear hK K) | simp only [Sv, ↓reduceIte, Nat.reduceEqDiff] | ((first | refine vm_reg (fun K hK => ?_) | refine vm_dreg (fun K hK => ?_) | refine clp_q ?_ | refine clq_mk (by assumption) ?_); simp (disch := (first | omega | assumption)) only [S1, ↓reduceIte, Nat.reduceEqDiff, Nat.reduceAdd, Nat.reduceMul, Nat.reduceDiv, AOp.sb, AOp.mut, ↓Bool.false_eq_true, beq_self_eq_true, ite_self, Nat.reduceLeDiff, Int.reduceEq, Int.reduceSub, Int.reduceAdd, Int.reduceNeg, Int.reduceLT, Int.reduceLE, Nat.reduceLT, bz_G2, hz])
        simp (disch := (first | omega | assumption)) only [retC, rsVs_nil, rsVs_cons, rsV_t, rsV_c, rsp_pt, rsq_t, rsq_f, ocons_ss, retV_1, retV_2, retNV_nil, retNV_cons, retOk, retN, ret1, retF, ret1F, V.okArg, and_true, true_and, S1, ↓reduceIte, Nat.reduceEqDiff, Nat.reduceAdd, Nat.reduceMul, Nat.reduceDiv, AOp.sb, AOp.mut, ↓Bool.false_eq_true, beq_self_eq_true, ite_self, Nat.reduceLeDiff, Int.reduceEq, Int.reduceSub, Int.reduceAdd, Int.reduceNeg, Int.reduceLT, Int.reduceLE, Nat.reduceLT, bz_G2, hz]
      · rw [show mF (a, b) (c, e) = (0, 0) from if_neg fun h => h3 h.2.2, show mE (a, b) (c, e) = 13 from if_neg fun h => h3 h.2.2]
        rw [decide_eq_false h3] at pf
        refine AFun.mkc fol J0s Try.func39 rfl (ac := a39) (by kernel_rfl) (rs := [.c 4 true 2, .t 5]) (by kernel_rfl) rfl ?_
        apply vm_start
        unfold a39
        simp only [init_eq, initE]
        have zc18 := p1
        have zc19 := p2
        have zc20 := pf
        repeat first | (refine hK _ ?_; clear hK K) | simp only [Sv, ↓reduceIte, Nat.reduceEqDiff] | ((first | refine vm_reg (fun K hK => ?_) | refine vm_dreg (fun K hK => ?_) | refine clp_q ?_ | refine clq_mk (by assumption) ?_); simp (disch := (first | omega | assumption)) only [S1, ↓reduceIte, Nat.reduceEqDiff, Nat.reduceAdd, Nat.reduceMul, Nat.reduceDiv, AOp.sb, AOp.mut, ↓Bool.false_eq_true, beq_self_eq_true, ite_self, Nat.reduceLeDiff, Int.reduceEq, Int.reduceSub, Int.reduceAdd, Int.reduceNeg, Int.reduceLT, Int.reduceLE, Nat.reduceLT, bz_G2])
        simp (disch := (first | omega | assumption)) only [retC, rsVs_nil, rsVs_cons, rsV_t, rsV_c, rsp_pt, rsq_t, rsq_f, ocons_ss, retV_1, retV_2, retNV_nil, retNV_cons, retOk, retN, ret1, retF, ret1F, V.okArg, and_true, true_and, S1, ↓reduceIte, Nat.reduceEqDiff, Nat.reduceAdd, Nat.reduceMul, Nat.reduceDiv, AOp.sb, AOp.mut, ↓Bool.false_eq_true, beq_self_eq_true, ite_self, Nat.reduceLeDiff, Int.reduceEq, Int.reduceSub, Int.reduceAdd, Int.reduceNeg, Int.reduceLT, Int.reduceLE, Nat.reduceLT, bz_G2]
    · have p2 := t2 h2
      rw [show mF (a, b) (c, e) = (0, 0) from if_neg fun h => h2 h.2.1, show mE (a, b) (c, e) = 13 from if_neg fun h => h2 h.2.1]
      refine AFun.mkc fol J0s Try.func39 rfl (ac := a39) (by kernel_rfl) (rs := [.c 4 true 2, .t 5]) (by kernel_rfl) rfl ?_
      apply vm_start
      unfold a39
      simp only [init_eq, initE]
      have zc21 := p1
      have zc22 := p2
      repeat first | (refine hK _ ?_; clear hK K) | simp only [Sv, ↓reduceIte, Nat.reduceEqDiff] | ((first | refine vm_reg (fun K hK => ?_) | refine vm_dreg (fun K hK => ?_) | refine clp_q ?_ | refine clq_mk (by assumption) ?_); simp (disch := (first | omega | assumption)) only [S1, ↓reduceIte, Nat.reduceEqDiff, Nat.reduceAdd, Nat.reduceMul, Nat.reduceDiv, AOp.sb, AOp.mut, ↓Bool.false_eq_true, beq_self_eq_true, ite_self, Nat.reduceLeDiff, Int.reduceEq, Int.reduceSub, Int.reduceAdd, Int.reduceNeg, Int.reduceLT, Int.reduceLE, Nat.reduceLT, bz_G2])
      simp (disch := (first | omega | assumption)) only [retC, rsVs_nil, rsVs_cons, rsV_t, rsV_c, rsp_pt, rsq_t, rsq_f, ocons_ss, retV_1, retV_2, retNV_nil, retNV_cons, retOk, retN, ret1, retF, ret1F, V.okArg, and_true, true_and, S1, ↓reduceIte, Nat.reduceEqDiff, Nat.reduceAdd, Nat.reduceMul, Nat.reduceDiv, AOp.sb, AOp.mut, ↓Bool.false_eq_true, beq_self_eq_true, ite_self, Nat.reduceLeDiff, Int.reduceEq, Int.reduceSub, Int.reduceAdd, Int.reduceNeg, Int.reduceLT, Int.reduceLE, Nat.reduceLT, bz_G2]
  · have p1 := t1 h1
    have p2 := gsize_spec (c, e)
    rw [show mF (a, b) (c, e) = (0, 0) from if_neg fun h => h1 h.1, show mE (a, b) (c, e) = 13 from if_neg fun h => h1 h.1]
    refine AFun.mkc fol J0s Try.func39 rfl (ac := a39) (by kernel_rfl) (rs := [.c 4 true 2, .t 5]) (by kernel_rfl) rfl ?_
    apply vm_start
    unfold a39
    simp only [init_eq, initE]
    have zc23 := p1
    have zc24 := p2
    repeat first | (refine hK _ ?_; clear hK K) | simp only [Sv, ↓reduceIte, Nat.reduceEqDiff] | ((first | refine vm_reg (fun K hK => ?_) | refine vm_dreg (fun K hK => ?_) | refine clp_q ?_ | refine clq_mk (by assumption) ?_); simp (disch := (first | omega | assumption)) only [S1, ↓reduceIte, Nat.reduceEqDiff, Nat.reduceAdd, Nat.reduceMul, Nat.reduceDiv, AOp.sb, AOp.mut, ↓Bool.false_eq_true, beq_self_eq_true, ite_self, Nat.reduceLeDiff, Int.reduceEq, Int.reduceSub, Int.reduceAdd, Int.reduceNeg, Int.reduceLT, Int.reduceLE, Nat.reduceLT, bz_G2])
    simp (disch := (first | omega | assumption)) only [retC, rsVs_nil, rsVs_cons, rsV_t, rsV_c, rsp_pt, rsq_t, rsq_f, ocons_ss, retV_1, retV_2, retNV_nil, retNV_cons, retOk, retN, ret1, retF, ret1F, V.okArg, and_true, true_and, S1, ↓reduceIte, Nat.reduceEqDiff, Nat.reduceAdd, Nat.reduceMul, Nat.reduceDiv, AOp.sb, AOp.mut, ↓Bool.false_eq_true, beq_self_eq_true, ite_self, Nat.reduceLeDiff, Int.reduceEq, Int.reduceSub, Int.reduceAdd, Int.reduceNeg, Int.reduceLT, Int.reduceLE, Nat.reduceLT, bz_G2]
def gconj (z : GZ) : GZ := (z.1, -z.2)
def cF (z : GZ) : GZ := if gsz z < SM then gconj z else (0, 0)
-- surd/gauss.Conj
def a41 : AC := .seq (.reg [⟨some 1, none, .bx 31 (.t 0)⟩, 
      ⟨some 2, none, .al 31 [(.i .i64 0), (.i .i64 0)]⟩, 
      ⟨some 3, none, .mv (.k (.i .i64 0))⟩])
  (.seq (.seq (.reg [⟨some 7, none, .ld true 2 (.t 1)⟩, 
        ⟨some 8, none, .call 35 [(1, (.t 7))]⟩, 
        ⟨some 6, none, .mv (.t 8)⟩, 
        ⟨some 9, none, .ext (.t 6) 0⟩, 
        ⟨some 10, none, .ext (.t 6) 1⟩, 
        ⟨some 4, none, .mv (.t 9)⟩, 
        ⟨some 5, none, .mv (.t 10)⟩])
    (.seq (.reg [⟨some 11, none, .mv (.t 5)⟩, 
        ⟨some 12, none, .bin .neq (.t 11) (.k (.i .i64 0))⟩])
    (.cond (.t 12)
    (.seq (.reg [⟨some 13, none, .bld [(.i .i64 0), (.i .i64 0)] []⟩, 
          ⟨some 14, none, .mv (.t 5)⟩, 
          ⟨none, none, .st 2 (.t 2) (.t 13)⟩, 
          ⟨some 3, none, .mv (.t 14)⟩])
      (.ret))
    (.skip))))
  (.seq (.reg [⟨some 15, none, .fad 0 (.t 1)⟩, 
      ⟨some 16, none, .ld false 1 (.t 15)⟩, 
      ⟨some 17, none, .fad 1 (.t 1)⟩, 
      ⟨some 18, none, .ld false 1 (.t 17)⟩, 
      ⟨some 19, none, .un .neg (.t 18)⟩, 
      ⟨some 20, none, .bld [(.i .i64 0), (.i .i64 0)] [(0, 1, (.t 16)), (1, 1, (.t 19))]⟩, 
      ⟨none, none, .st 2 (.t 2) (.t 20)⟩, 
      ⟨some 3, none, .mv (.k (.i .i64 0))⟩])
  (.ret)))
theorem gconjS (x : GZ) : AFun Try.prog J0 41 [nV x] (.t [nV (cF x), .i .i64 (szE x)]) := by
  obtain ⟨a, b⟩ := x
  by_cases h1 : gsz (a, b) < SM
  · have p1 := gsize_ok h1
    rw [show cF (a, b) = (a, -b) from if_pos h1, show szE (a, b) = 0 from if_pos h1]
    unfold gsz at h1; simp only [SM, nV] at *
    have w : IntKind.i64.wrap (0 - b) = -b := by rw [wi (by omega)]; omega
    refine AFun.mkc fol J0s Try.func41 rfl (ac := a41) (by kernel_rfl) (rs := [.c 2 true 2, .t 3]) (by kernel_rfl) rfl ?_
    apply vm_start
    unfold a41
    simp only [init_eq, initE]
    have zc25 := p1
    repeat first | (refine hK _ ?_; clear hK K) | simp only [Sv, ↓reduceIte, Nat.reduceEqDiff] | ((first | refine vm_reg (fun K hK => ?_) | refine vm_dreg (fun K hK => ?_) | refine clp_q ?_ | refine clq_mk (by assumption) ?_); simp (disch := (first | omega | assumption)) only [S1, ↓reduceIte, Nat.reduceEqDiff, Nat.reduceAdd, Nat.reduceMul, Nat.reduceDiv, AOp.sb, AOp.mut, ↓Bool.false_eq_true, beq_self_eq_true, ite_self, Nat.reduceLeDiff, Int.reduceEq, Int.reduceSub, Int.reduceAdd, Int.reduceNeg, Int.reduceLT, Int.reduceLE, Nat.reduceLT, bz_G2, w])
    simp (disch := (first | omega | assumption)) only [retC, rsVs_nil, rsVs_cons, rsV_t, rsV_c, rsp_pt, rsq_t, rsq_f, ocons_ss, retV_1, retV_2, retNV_nil, retNV_cons, retOk, retN, ret1, retF, ret1F, V.okArg, and_true, true_and, S1, ↓reduceIte, Nat.reduceEqDiff, Nat.reduceAdd, Nat.reduceMul, Nat.reduceDiv, AOp.sb, AOp.mut, ↓Bool.false_eq_true, beq_self_eq_true, ite_self, Nat.reduceLeDiff, Int.reduceEq, Int.reduceSub, Int.reduceAdd, Int.reduceNeg, Int.reduceLT, Int.reduceLE, Nat.reduceLT, bz_G2, w]
  · have p1 := gsize_bad h1
    rw [show cF (a, b) = (0, 0) from if_neg h1, show szE (a, b) = 13 from if_neg h1]
    simp only [nV] at *
    refine AFun.mkc fol J0s Try.func41 rfl (ac := a41) (by kernel_rfl) (rs := [.c 2 true 2, .t 3]) (by kernel_rfl) rfl ?_
    apply vm_start
    unfold a41
    simp only [init_eq, initE]
    have zc26 := p1
    repeat first | (refine hK _ ?_; clear hK K) | simp only [Sv, ↓reduceIte, Nat.reduceEqDiff] | ((first | refine vm_reg (fun K hK => ?_) | refine vm_dreg (fun K hK => ?_) | refine clp_q ?_ | refine clq_mk (by assumption) ?_); simp (disch := (first | omega | assumption)) only [S1, ↓reduceIte, Nat.reduceEqDiff, Nat.reduceAdd, Nat.reduceMul, Nat.reduceDiv, AOp.sb, AOp.mut, ↓Bool.false_eq_true, beq_self_eq_true, ite_self, Nat.reduceLeDiff, Int.reduceEq, Int.reduceSub, Int.reduceAdd, Int.reduceNeg, Int.reduceLT, Int.reduceLE, Nat.reduceLT, bz_G2])
    simp (disch := (first | omega | assumption)) only [retC, rsVs_nil, rsVs_cons, rsV_t, rsV_c, rsp_pt, rsq_t, rsq_f, ocons_ss, retV_1, retV_2, retNV_nil, retNV_cons, retOk, retN, ret1, retF, ret1F, V.okArg, and_true, true_and, S1, ↓reduceIte, Nat.reduceEqDiff, Nat.reduceAdd, Nat.reduceMul, Nat.reduceDiv, AOp.sb, AOp.mut, ↓Bool.false_eq_true, beq_self_eq_true, ite_self, Nat.reduceLeDiff, Int.reduceEq, Int.reduceSub, Int.reduceAdd, Int.reduceNeg, Int.reduceLT, Int.reduceLE, Nat.reduceLT, bz_G2]
def nF (z : GZ) : Int := if gsz z * gsz z < SM then z.1 * z.1 + z.2 * z.2 else 0
def nE (z : GZ) : Int := if gsz z * gsz z < SM then 0 else 13
theorem sq_lt {n : Nat} (h : n * n < SM) : n < SM := by
  rcases Nat.eq_zero_or_pos n with h0 | h0
  · subst h0; decide
  · have := Nat.mul_le_mul_left n h0; omega
theorem gsz_conj (a b : Int) : gsz (a, -b) = gsz (a, b) := by unfold gsz; simp
end Go.Proofs.Ytfkldohgiifgbaa
