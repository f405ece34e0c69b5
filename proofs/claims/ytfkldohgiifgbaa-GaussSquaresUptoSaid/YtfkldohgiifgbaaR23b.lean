/-
  surdref23: sizes, sums, products, norms, powers, eighths.
-/
import Derived.Test.YtfkldohgiifgbaaR23a
namespace Go.Proofs.Ytfkldohgiifgbaa
open Go Go.RowKit Ab
set_option linter.unusedSimpArgs false
set_option linter.unusedVariables false
set_option maxHeartbeats 10000000
theorem bz_R23b : type_of% (And.intro @W_len (And.intro @D_len (And.intro @Nat.div_one (And.intro @Nat.mul_one (And.intro @tn_nat (And.intro @W_nf (And.intro @D_nf (And.intro @W_nil (And.intro @D_nil (And.intro @wi (And.intro @nf_g (And.intro @Bool.false_and (And.intro @W_cell (And.intro @ZC_cell (@ZC_nil))))))))))))))) := And.intro @W_len (And.intro @D_len (And.intro @Nat.div_one (And.intro @Nat.mul_one (And.intro @tn_nat (And.intro @W_nf (And.intro @D_nf (And.intro @W_nil (And.intro @D_nil (And.intro @wi (And.intro @nf_g (And.intro @Bool.false_and (And.intro @W_cell (And.intro @ZC_cell (@ZC_nil))))))))))))))

def Pz (z : GZ) : Prop := Pi z.1 ∧ Pi z.2
theorem gsz_B2 {z : GZ} (h : Pz z) : gsz z < B ^ 2 := by
  unfold Pz Pi at h; unfold gsz
  have : B ^ 2 = 340282366920938463463374607431768211456 := rfl
  omega
theorem SM_B1 {u : Nat} (h : u < SM) : u < B ^ 1 := BW1 (by simp only [SM] at h; omega)
theorem gsz_parts {z : GZ} (h : gsz z < SM) : z.1.natAbs < 9223372036854775808 ∧ z.2.natAbs < 9223372036854775808 := by
  unfold gsz at h; simp only [SM] at h; omega
-- surd/surdref23.Size
def a34 : AC := .seq (.reg [⟨some 1, none, .bx 27 (.t 0)⟩, 
      ⟨some 2, none, .mv (.k (.i .i64 0))⟩, 
      ⟨some 3, none, .mv (.k (.i .i64 0))⟩])
  (.seq (.reg [⟨some 5, none, .ld true 2 (.t 1)⟩, 
      ⟨some 6, none, .call 53 [(1, (.t 5))]⟩, 
      ⟨some 7, none, .call 52 [(1, (.t 6))]⟩, 
      ⟨some 4, none, .mv (.t 7)⟩])
  (.seq (.seq (.reg [⟨some 8, none, .mv (.t 4)⟩, 
        ⟨some 9, none, .call 54 [(1, (.t 8))]⟩, 
        ⟨some 10, none, .un .not (.t 9)⟩])
    (.cond (.t 10)
    (.seq (.reg [⟨some 2, none, .mv (.k (.i .i64 0))⟩, 
          ⟨some 3, none, .mv (.k (.i .i64 13))⟩])
      (.ret))
    (.skip)))
  (.seq (.reg [⟨some 11, none, .mv (.t 4)⟩, 
      ⟨some 12, none, .call 72 [(1, (.k (.b false))), (1, (.t 11))]⟩, 
      ⟨some 13, none, .call 71 [(1, (.t 12))]⟩, 
      ⟨some 2, none, .mv (.t 13)⟩, 
      ⟨some 3, none, .mv (.k (.i .i64 0))⟩])
  (.ret))))
theorem rsizeS (z : GZ) (h : Pz z) : AFun Try.prog J0 34 [nV z] (.t [.i .i64 (szV z), .i .i64 (szE z)]) := by
  have p1 := of23_spec z h
  have p2 := size23_spec z 1 (by decide) (ZB_pi h)
  have p3 := small23_spec (gsz z) 2 (by decide) (by decide) (gsz_B2 h)
  simp only [nV, LV, LZ] at *
  by_cases hs : gsz z < SM
  · have p4 := hID false (SM_B1 hs) (by decide)
    have p5 := plain_spec (gsz z : Int) (by simp only [SM] at hs; omega)
    rw [show zI false (gsz z) = ((gsz z : Nat) : Int) from rfl] at p4
    rw [show szV z = ((gsz z : Nat) : Int) from if_pos hs, show szE z = 0 from if_pos hs]
    rw [decide_eq_true hs] at p3
    refine AFun.mk fol J0s Try.func34 rfl (ac := a34) (by kernel_rfl) rfl rfl ?_
    apply vm_start
    unfold a34
    simp only [init_eq, initE]
    have zc1 := p1
    have zc2 := p2
    have zc3 := p3
    have zc4 := p4
    have zc5 := p5
    repeat first | (refine hK _ ?_; clear hK K) | simp only [Sv, ↓reduceIte, Nat.reduceEqDiff] | ((first | refine vm_reg (fun K hK => ?_) | refine vm_dreg (fun K hK => ?_) | refine clp_q ?_ | refine clq_mk (by assumption) ?_); simp (disch := (first | omega | assumption)) only [S1, ↓reduceIte, Nat.reduceEqDiff, Nat.reduceAdd, Nat.reduceMul, Nat.reduceDiv, AOp.sb, AOp.mut, ↓Bool.false_eq_true, beq_self_eq_true, ite_self, Nat.reduceLeDiff, Int.reduceEq, Int.reduceSub, Int.reduceAdd, Int.reduceNeg, Int.reduceLT, Int.reduceLE, Nat.reduceLT, bz_R23b])
    simp (disch := (first | omega | assumption)) only [retOk, retN, ret1, retF, ret1F, V.okArg, and_true, true_and, S1, ↓reduceIte, Nat.reduceEqDiff, Nat.reduceAdd, Nat.reduceMul, Nat.reduceDiv, AOp.sb, AOp.mut, ↓Bool.false_eq_true, beq_self_eq_true, ite_self, Nat.reduceLeDiff, Int.reduceEq, Int.reduceSub, Int.reduceAdd, Int.reduceNeg, Int.reduceLT, Int.reduceLE, Nat.reduceLT, bz_R23b]
  · rw [decide_eq_false hs] at p3
    rw [show szV z = 0 from if_neg hs, show szE z = 13 from if_neg hs]
    refine AFun.mk fol J0s Try.func34 rfl (ac := a34) (by kernel_rfl) rfl rfl ?_
    apply vm_start
    unfold a34
    simp only [init_eq, initE]
    have zc6 := p1
    have zc7 := p2
    have zc8 := p3
    repeat first | (refine hK _ ?_; clear hK K) | simp only [Sv, ↓reduceIte, Nat.reduceEqDiff] | ((first | refine vm_reg (fun K hK => ?_) | refine vm_dreg (fun K hK => ?_) | refine clp_q ?_ | refine clq_mk (by assumption) ?_); simp (disch := (first | omega | assumption)) only [S1, ↓reduceIte, Nat.reduceEqDiff, Nat.reduceAdd, Nat.reduceMul, Nat.reduceDiv, AOp.sb, AOp.mut, ↓Bool.false_eq_true, beq_self_eq_true, ite_self, Nat.reduceLeDiff, Int.reduceEq, Int.reduceSub, Int.reduceAdd, Int.reduceNeg, Int.reduceLT, Int.reduceLE, Nat.reduceLT, bz_R23b])
    simp (disch := (first | omega | assumption)) only [retOk, retN, ret1, retF, ret1F, V.okArg, and_true, true_and, S1, ↓reduceIte, Nat.reduceEqDiff, Nat.reduceAdd, Nat.reduceMul, Nat.reduceDiv, AOp.sb, AOp.mut, ↓Bool.false_eq_true, beq_self_eq_true, ite_self, Nat.reduceLeDiff, Int.reduceEq, Int.reduceSub, Int.reduceAdd, Int.reduceNeg, Int.reduceLT, Int.reduceLE, Nat.reduceLT, bz_R23b]
-- surd/surdref23.Add
def a36 : AC := .seq (.reg [⟨some 2, none, .bx 27 (.t 0)⟩, 
      ⟨some 3, none, .bx 27 (.t 1)⟩, 
      ⟨some 4, none, .al 27 [(.i .i64 0), (.i .i64 0)]⟩, 
      ⟨some 5, none, .mv (.k (.i .i64 0))⟩])
  (.seq (.seq (.dreg [⟨some 6, none, .ld true 2 (.t 2)⟩, 
        ⟨some 7, none, .call 53 [(1, (.t 6))]⟩, 
        ⟨some 8, none, .call 52 [(1, (.t 7))]⟩, 
        ⟨some 9, none, .ld true 2 (.t 3)⟩, 
        ⟨some 10, none, .call 53 [(1, (.t 9))]⟩, 
        ⟨some 11, none, .call 52 [(1, (.t 10))]⟩, 
        ⟨some 12, none, .call 57 [(1, (.t 8)), (1, (.t 11))]⟩, 
        ⟨some 13, none, .call 54 [(1, (.t 12))]⟩, 
        ⟨some 14, none, .un .not (.t 13)⟩])
    (.cond (.t 14)
    (.seq (.reg [⟨some 15, none, .bld [(.i .i64 0), (.i .i64 0)] []⟩, 
          ⟨none, none, .st 2 (.t 4) (.t 15)⟩, 
          ⟨some 5, none, .mv (.k (.i .i64 13))⟩])
      (.ret))
    (.skip)))
  (.seq (.dreg [⟨some 16, none, .ld true 2 (.t 2)⟩, 
      ⟨some 17, none, .call 53 [(1, (.t 16))]⟩, 
      ⟨some 18, none, .ld true 2 (.t 3)⟩, 
      ⟨some 19, none, .call 53 [(1, (.t 18))]⟩, 
      ⟨some 20, none, .call 59 [(1, (.t 17)), (1, (.t 19))]⟩, 
      ⟨some 21, none, .call 62 [(1, (.t 20))]⟩, 
      ⟨none, none, .st 2 (.t 4) (.t 21)⟩, 
      ⟨some 5, none, .mv (.k (.i .i64 0))⟩])
  (.ret)))
theorem raddS (x y : GZ) (hx : Pz x) (hy : Pz y) : AFun Try.prog J0 36 [nV x, nV y] (.t [nV (aF x y), .i .i64 (aE x y)]) := by
  have p1 := of23_spec x hx
  have p2 := of23_spec y hy
  have p3 := size23_spec x 1 (by decide) (ZB_pi hx)
  have p4 := size23_spec y 1 (by decide) (ZB_pi hy)
  have p5 := (haddN (gsz_B2 hx) (gsz_B2 hy) (by decide)).frozen
  have p6 := small23_spec (gsz x + gsz y) 3 (by decide) (by decide) (padd (gsz_B2 hx) (gsz_B2 hy))
  have p7 := add23_spec x y 1 (by decide) (ZB_pi hx) (ZB_pi hy)
  by_cases hs : gsz x + gsz y < SM
  · have p8 := num23_spec (gadd x y) (gsz_parts (Nat.lt_of_le_of_lt (gsz_add x y) hs))
    rw [show aF x y = gadd x y from if_pos hs, show aE x y = 0 from if_pos hs]
    rw [decide_eq_true hs] at p6
    generalize gadd x y = r at *
    simp only [nV, LV, LZ] at *
    refine AFun.mkc fol J0s Try.func36 rfl (ac := a36) (by kernel_rfl) (rs := [.c 4 true 2, .t 5]) (by kernel_rfl) rfl ?_
    apply vm_start
    unfold a36
    simp only [init_eq, initE]
    have zc9 := p1
    have zc10 := p2
    have zc11 := p3
    have zc12 := p4
    have zc13 := p5
    have zc14 := p6
    have zc15 := p7
    have zc16 := p8
    repeat first | (refine hK _ ?_; clear hK K) | simp only [Sv, ↓reduceIte, Nat.reduceEqDiff] | ((first | refine vm_reg (fun K hK => ?_) | refine vm_dreg (fun K hK => ?_) | refine clp_q ?_ | refine clq_mk (by assumption) ?_); simp (disch := (first | omega | assumption)) only [S1, ↓reduceIte, Nat.reduceEqDiff, Nat.reduceAdd, Nat.reduceMul, Nat.reduceDiv, AOp.sb, AOp.mut, ↓Bool.false_eq_true, beq_self_eq_true, ite_self, Nat.reduceLeDiff, Int.reduceEq, Int.reduceSub, Int.reduceAdd, Int.reduceNeg, Int.reduceLT, Int.reduceLE, Nat.reduceLT, bz_R23b])
    simp (disch := (first | omega | assumption)) only [retC, rsVs_nil, rsVs_cons, rsV_t, rsV_c, rsp_pt, rsq_t, rsq_f, ocons_ss, retV_1, retV_2, retNV_nil, retNV_cons, retOk, retN, ret1, retF, ret1F, V.okArg, and_true, true_and, S1, ↓reduceIte, Nat.reduceEqDiff, Nat.reduceAdd, Nat.reduceMul, Nat.reduceDiv, AOp.sb, AOp.mut, ↓Bool.false_eq_true, beq_self_eq_true, ite_self, Nat.reduceLeDiff, Int.reduceEq, Int.reduceSub, Int.reduceAdd, Int.reduceNeg, Int.reduceLT, Int.reduceLE, Nat.reduceLT, bz_R23b]
  · rw [decide_eq_false hs] at p6
    rw [show aF x y = (0, 0) from if_neg hs, show aE x y = 13 from if_neg hs]
    simp only [nV, LV, LZ] at p1 p2 p3 p4 ⊢
    refine AFun.mkc fol J0s Try.func36 rfl (ac := a36) (by kernel_rfl) (rs := [.c 4 true 2, .t 5]) (by kernel_rfl) rfl ?_
    apply vm_start
    unfold a36
    simp only [init_eq, initE]
    have zc17 := p1
    have zc18 := p2
    have zc19 := p3
    have zc20 := p4
    have zc21 := p5
    have zc22 := p6
    repeat first | (refine hK _ ?_; clear hK K) | simp only [Sv, ↓reduceIte, Nat.reduceEqDiff] | ((first | refine vm_reg (fun K hK => ?_) | refine vm_dreg (fun K hK => ?_) | refine clp_q ?_ | refine clq_mk (by assumption) ?_); simp (disch := (first | omega | assumption)) only [S1, ↓reduceIte, Nat.reduceEqDiff, Nat.reduceAdd, Nat.reduceMul, Nat.reduceDiv, AOp.sb, AOp.mut, ↓Bool.false_eq_true, beq_self_eq_true, ite_self, Nat.reduceLeDiff, Int.reduceEq, Int.reduceSub, Int.reduceAdd, Int.reduceNeg, Int.reduceLT, Int.reduceLE, Nat.reduceLT, bz_R23b])
    simp (disch := (first | omega | assumption)) only [retC, rsVs_nil, rsVs_cons, rsV_t, rsV_c, rsp_pt, rsq_t, rsq_f, ocons_ss, retV_1, retV_2, retNV_nil, retNV_cons, retOk, retN, ret1, retF, ret1F, V.okArg, and_true, true_and, S1, ↓reduceIte, Nat.reduceEqDiff, Nat.reduceAdd, Nat.reduceMul, Nat.reduceDiv, AOp.sb, AOp.mut, ↓Bool.false_eq_true, beq_self_eq_true, ite_self, Nat.reduceLeDiff, Int.reduceEq, Int.reduceSub, Int.reduceAdd, Int.reduceNeg, Int.reduceLT, Int.reduceLE, Nat.reduceLT, bz_R23b]
theorem pmul2 {u v : Nat} (h : u < B ^ 2) (k : v < B ^ 2) : u * v < B ^ 4 := by
  rw [show B ^ 4 = B ^ 2 * B ^ 2 from by rw [← Nat.pow_add]]; exact Nat.mul_lt_mul_of_lt_of_lt h k
-- surd/surdref23.Mul
def a38 : AC := .seq (.reg [⟨some 2, none, .bx 27 (.t 0)⟩, 
      ⟨some 3, none, .bx 27 (.t 1)⟩, 
      ⟨some 4, none, .al 27 [(.i .i64 0), (.i .i64 0)]⟩, 
      ⟨some 5, none, .mv (.k (.i .i64 0))⟩])
  (.seq (.dreg [⟨some 8, none, .ld true 2 (.t 2)⟩, 
      ⟨some 9, none, .call 53 [(1, (.t 8))]⟩, 
      ⟨some 10, none, .call 52 [(1, (.t 9))]⟩, 
      ⟨some 11, none, .ld true 2 (.t 3)⟩, 
      ⟨some 12, none, .call 53 [(1, (.t 11))]⟩, 
      ⟨some 13, none, .call 52 [(1, (.t 12))]⟩, 
      ⟨some 6, none, .mv (.t 10)⟩, 
      ⟨some 7, none, .mv (.t 13)⟩])
  (.seq (.seq (.reg [⟨some 14, none, .mv (.t 6)⟩, 
        ⟨some 15, none, .call 54 [(1, (.t 14))]⟩, 
        ⟨some 16, none, .un .not (.t 15)⟩, 
        ⟨some 17, none, .mv (.t 16)⟩, 
        ⟨some 18, some (17, false), .mv (.t 7)⟩, 
        ⟨some 19, some (17, false), .call 54 [(1, (.t 18))]⟩, 
        ⟨some 20, some (17, false), .un .not (.t 19)⟩, 
        ⟨some 21, none, .pick (.t 17) (.k (.b true)) (.t 20)⟩, 
        ⟨some 22, none, .mv (.t 21)⟩, 
        ⟨some 23, some (22, false), .mv (.t 6)⟩, 
        ⟨some 24, some (22, false), .mv (.t 7)⟩, 
        ⟨some 25, some (22, false), .call 58 [(1, (.t 23)), (1, (.t 24))]⟩, 
        ⟨some 26, some (22, false), .call 54 [(1, (.t 25))]⟩, 
        ⟨some 27, some (22, false), .un .not (.t 26)⟩, 
        ⟨some 28, none, .pick (.t 22) (.k (.b true)) (.t 27)⟩])
    (.cond (.t 28)
    (.seq (.reg [⟨some 29, none, .bld [(.i .i64 0), (.i .i64 0)] []⟩, 
          ⟨none, none, .st 2 (.t 4) (.t 29)⟩, 
          ⟨some 5, none, .mv (.k (.i .i64 13))⟩])
      (.ret))
    (.skip)))
  (.seq (.dreg [⟨some 30, none, .ld true 2 (.t 2)⟩, 
      ⟨some 31, none, .call 53 [(1, (.t 30))]⟩, 
      ⟨some 32, none, .ld true 2 (.t 3)⟩, 
      ⟨some 33, none, .call 53 [(1, (.t 32))]⟩, 
      ⟨some 34, none, .call 60 [(1, (.t 31)), (1, (.t 33))]⟩, 
      ⟨some 35, none, .call 62 [(1, (.t 34))]⟩, 
      ⟨none, none, .st 2 (.t 4) (.t 35)⟩, 
      ⟨some 5, none, .mv (.k (.i .i64 0))⟩])
  (.ret))))
theorem rmulS (x y : GZ) (hx : Pz x) (hy : Pz y) : AFun Try.prog J0 38 [nV x, nV y] (.t [nV (mF x y), .i .i64 (mE x y)]) := by
  have p1 := of23_spec x hx
  have p2 := of23_spec y hy
  have p3 := size23_spec x 1 (by decide) (ZB_pi hx)
  have p4 := size23_spec y 1 (by decide) (ZB_pi hy)
  have q1 := small23_spec (gsz x) 2 (by decide) (by decide) (gsz_B2 hx)
  have q2 := small23_spec (gsz y) 2 (by decide) (by decide) (gsz_B2 hy)
  have p5 := (hmulN (gsz_B2 hx) (gsz_B2 hy) (by decide)).frozen
  have q3 := small23_spec (gsz x * gsz y) 4 (by decide) (by decide) (pmul2 (gsz_B2 hx) (gsz_B2 hy))
  have p7 := mul23_spec x y 1 (by decide) (ZB_pi hx) (ZB_pi hy)
  by_cases h1 : gsz x < SM
  · rw [decide_eq_true h1] at q1
    by_cases h2 : gsz y < SM
    · rw [decide_eq_true h2] at q2
      by_cases hs : gsz x * gsz y < SM
      · have ok : mOk x y := ⟨h1, h2, hs⟩
        have p8 := num23_spec (gmul x y) (gsz_parts (Nat.lt_of_le_of_lt (gsz_mul x y) hs))
        rw [show mF x y = gmul x y from if_pos ok, show mE x y = 0 from if_pos ok]
        rw [decide_eq_true hs] at q3
        generalize gmul x y = r at *
        simp only [nV, LV, LZ] at *
        refine AFun.mkc fol J0s Try.func38 rfl (ac := a38) (by kernel_rfl) (rs := [.c 4 true 2, .t 5]) (by kernel_rfl) rfl ?_
        apply vm_start
        unfold a38
        simp only [init_eq, initE]
        have zc23 := p1
        have zc24 := p2
        have zc25 := p3
        have zc26 := p4
        have zc27 := q1
        have zc28 := q2
        have zc29 := p5
        have zc30 := q3
        have zc31 := p7
        have zc32 := p8
        repeat first | (refine hK _ ?_; clear hK K) | simp only [Sv, ↓reduceIte, Nat.reduceEqDiff] | ((first | refine vm_reg (fun K hK => ?_) | refine vm_dreg (fun K hK => ?_) | refine clp_q ?_ | refine clq_mk (by assumption) ?_); simp (disch := (first | omega | assumption)) only [S1, ↓reduceIte, Nat.reduceEqDiff, Nat.reduceAdd, Nat.reduceMul, Nat.reduceDiv, AOp.sb, AOp.mut, ↓Bool.false_eq_true, beq_self_eq_true, ite_self, Nat.reduceLeDiff, Int.reduceEq, Int.reduceSub, Int.reduceAdd, Int.reduceNeg, Int.reduceLT, Int.reduceLE, Nat.reduceLT, bz_R23b])
        simp (disch := (first | omega | assumption)) only [retC, rsVs_nil, rsVs_cons, rsV_t, rsV_c, rsp_pt, rsq_t, rsq_f, ocons_ss, retV_1, retV_2, retNV_nil, retNV_cons, retOk, retN, ret1, retF, ret1F, V.okArg, and_true, true_and, S1, ↓reduceIte, Nat.reduceEqDiff, Nat.reduceAdd, Nat.reduceMul, Nat.reduceDiv, AOp.sb, AOp.mut, ↓Bool.false_eq_true, beq_self_eq_true, ite_self, Nat.reduceLeDiff, Int.reduceEq, Int.reduceSub, Int.reduceAdd, Int.reduceNeg, Int.reduceLT, Int.reduceLE, Nat.reduceLT, bz_R23b]
      · rw [decide_eq_false hs] at q3
        have no : ¬ mOk x y := fun h => hs h.2.2
        rw [show mF x y = (0, 0) from if_neg no, show mE x y = 13 from if_neg no]
        simp only [nV, LV, LZ] at p1 p2 p3 p4 ⊢
        refine AFun.mkc fol J0s Try.func38 rfl (ac := a38) (by kernel_rfl) (rs := [.c 4 true 2, .t 5]) (by kernel_rfl) rfl ?_
        apply vm_start
        unfold a38
        simp only [init_eq, initE]
        have zc33 := p1
        have zc34 := p2
        have zc35 := p3
        have zc36 := p4
        have zc37 := q1
        have zc38 := q2
        have zc39 := p5
        have zc40 := q3
        repeat first | (refine hK _ ?_; clear hK K) | simp only [Sv, ↓reduceIte, Nat.reduceEqDiff] | ((first | refine vm_reg (fun K hK => ?_) | refine vm_dreg (fun K hK => ?_) | refine clp_q ?_ | refine clq_mk (by assumption) ?_); simp (disch := (first | omega | assumption)) only [S1, ↓reduceIte, Nat.reduceEqDiff, Nat.reduceAdd, Nat.reduceMul, Nat.reduceDiv, AOp.sb, AOp.mut, ↓Bool.false_eq_true, beq_self_eq_true, ite_self, Nat.reduceLeDiff, Int.reduceEq, Int.reduceSub, Int.reduceAdd, Int.reduceNeg, Int.reduceLT, Int.reduceLE, Nat.reduceLT, bz_R23b])
        simp (disch := (first | omega | assumption)) only [retC, rsVs_nil, rsVs_cons, rsV_t, rsV_c, rsp_pt, rsq_t, rsq_f, ocons_ss, retV_1, retV_2, retNV_nil, retNV_cons, retOk, retN, ret1, retF, ret1F, V.okArg, and_true, true_and, S1, ↓reduceIte, Nat.reduceEqDiff, Nat.reduceAdd, Nat.reduceMul, Nat.reduceDiv, AOp.sb, AOp.mut, ↓Bool.false_eq_true, beq_self_eq_true, ite_self, Nat.reduceLeDiff, Int.reduceEq, Int.reduceSub, Int.reduceAdd, Int.reduceNeg, Int.reduceLT, Int.reduceLE, Nat.reduceLT, bz_R23b]
    · rw [decide_eq_false h2] at q2
      have no : ¬ mOk x y := fun h => h2 h.2.1
      rw [show mF x y = (0, 0) from if_neg no, show mE x y = 13 from if_neg no]
      simp only [nV, LV, LZ] at p1 p2 p3 p4 ⊢
      refine AFun.mkc fol J0s Try.func38 rfl (ac := a38) (by kernel_rfl) (rs := [.c 4 true 2, .t 5]) (by kernel_rfl) rfl ?_
      apply vm_start
      unfold a38
      simp only [init_eq, initE]
      have zc41 := p1
      have zc42 := p2
      have zc43 := p3
      have zc44 := p4
      have zc45 := q1
      have zc46 := q2
      have zc47 := p5
      have zc48 := q3
      repeat first | (refine hK _ ?_; clear hK K) | simp only [Sv, ↓reduceIte, Nat.reduceEqDiff] | ((first | refine vm_reg (fun K hK => ?_) | refine vm_dreg (fun K hK => ?_) | refine clp_q ?_ | refine clq_mk (by assumption) ?_); simp (disch := (first | omega | assumption)) only [S1, ↓reduceIte, Nat.reduceEqDiff, Nat.reduceAdd, Nat.reduceMul, Nat.reduceDiv, AOp.sb, AOp.mut, ↓Bool.false_eq_true, beq_self_eq_true, ite_self, Nat.reduceLeDiff, Int.reduceEq, Int.reduceSub, Int.reduceAdd, Int.reduceNeg, Int.reduceLT, Int.reduceLE, Nat.reduceLT, bz_R23b])
      simp (disch := (first | omega | assumption)) only [retC, rsVs_nil, rsVs_cons, rsV_t, rsV_c, rsp_pt, rsq_t, rsq_f, ocons_ss, retV_1, retV_2, retNV_nil, retNV_cons, retOk, retN, ret1, retF, ret1F, V.okArg, and_true, true_and, S1, ↓reduceIte, Nat.reduceEqDiff, Nat.reduceAdd, Nat.reduceMul, Nat.reduceDiv, AOp.sb, AOp.mut, ↓Bool.false_eq_true, beq_self_eq_true, ite_self, Nat.reduceLeDiff, Int.reduceEq, Int.reduceSub, Int.reduceAdd, Int.reduceNeg, Int.reduceLT, Int.reduceLE, Nat.reduceLT, bz_R23b]
  · rw [decide_eq_false h1] at q1
    have no : ¬ mOk x y := fun h => h1 h.1
    rw [show mF x y = (0, 0) from if_neg no, show mE x y = 13 from if_neg no]
    simp only [nV, LV, LZ] at p1 p2 p3 p4 ⊢
    refine AFun.mkc fol J0s Try.func38 rfl (ac := a38) (by kernel_rfl) (rs := [.c 4 true 2, .t 5]) (by kernel_rfl) rfl ?_
    apply vm_start
    unfold a38
    simp only [init_eq, initE]
    have zc49 := p1
    have zc50 := p2
    have zc51 := p3
    have zc52 := p4
    have zc53 := q1
    have zc54 := q2
    have zc55 := p5
    have zc56 := q3
    repeat first | (refine hK _ ?_; clear hK K) | simp only [Sv, ↓reduceIte, Nat.reduceEqDiff] | ((first | refine vm_reg (fun K hK => ?_) | refine vm_dreg (fun K hK => ?_) | refine clp_q ?_ | refine clq_mk (by assumption) ?_); simp (disch := (first | omega | assumption)) only [S1, ↓reduceIte, Nat.reduceEqDiff, Nat.reduceAdd, Nat.reduceMul, Nat.reduceDiv, AOp.sb, AOp.mut, ↓Bool.false_eq_true, beq_self_eq_true, ite_self, Nat.reduceLeDiff, Int.reduceEq, Int.reduceSub, Int.reduceAdd, Int.reduceNeg, Int.reduceLT, Int.reduceLE, Nat.reduceLT, bz_R23b])
    simp (disch := (first | omega | assumption)) only [retC, rsVs_nil, rsVs_cons, rsV_t, rsV_c, rsp_pt, rsq_t, rsq_f, ocons_ss, retV_1, retV_2, retNV_nil, retNV_cons, retOk, retN, ret1, retF, ret1F, V.okArg, and_true, true_and, S1, ↓reduceIte, Nat.reduceEqDiff, Nat.reduceAdd, Nat.reduceMul, Nat.reduceDiv, AOp.sb, AOp.mut, ↓Bool.false_eq_true, beq_self_eq_true, ite_self, Nat.reduceLeDiff, Int.reduceEq, Int.reduceSub, Int.reduceAdd, Int.reduceNeg, Int.reduceLT, Int.reduceLE, Nat.reduceLT, bz_R23b]
-- surd/surdref23.Conj
def a40 : AC := .seq (.reg [⟨some 1, none, .bx 27 (.t 0)⟩, 
      ⟨some 2, none, .al 27 [(.i .i64 0), (.i .i64 0)]⟩, 
      ⟨some 3, none, .mv (.k (.i .i64 0))⟩])
  (.seq (.seq (.reg [⟨some 4, none, .ld true 2 (.t 1)⟩, 
        ⟨some 5, none, .call 53 [(1, (.t 4))]⟩, 
        ⟨some 6, none, .call 52 [(1, (.t 5))]⟩, 
        ⟨some 7, none, .call 54 [(1, (.t 6))]⟩, 
        ⟨some 8, none, .un .not (.t 7)⟩])
    (.cond (.t 8)
    (.seq (.reg [⟨some 9, none, .bld [(.i .i64 0), (.i .i64 0)] []⟩, 
          ⟨none, none, .st 2 (.t 2) (.t 9)⟩, 
          ⟨some 3, none, .mv (.k (.i .i64 13))⟩])
      (.ret))
    (.skip)))
  (.seq (.reg [⟨some 10, none, .fad 0 (.t 1)⟩, 
      ⟨some 11, none, .ld false 1 (.t 10)⟩, 
      ⟨some 12, none, .fad 1 (.t 1)⟩, 
      ⟨some 13, none, .ld false 1 (.t 12)⟩, 
      ⟨some 14, none, .un .neg (.t 13)⟩, 
      ⟨some 15, none, .bld [(.i .i64 0), (.i .i64 0)] [(0, 1, (.t 11)), (1, 1, (.t 14))]⟩, 
      ⟨none, none, .st 2 (.t 2) (.t 15)⟩, 
      ⟨some 3, none, .mv (.k (.i .i64 0))⟩])
  (.ret)))
theorem rconjS (x : GZ) (h : Pz x) : AFun Try.prog J0 40 [nV x] (.t [nV (cF x), .i .i64 (szE x)]) := by
  have p1 := of23_spec x h
  have p2 := size23_spec x 1 (by decide) (ZB_pi h)
  have p3 := small23_spec (gsz x) 2 (by decide) (by decide) (gsz_B2 h)
  by_cases hs : gsz x < SM
  · rw [decide_eq_true hs] at p3
    rw [show cF x = (x.1, -x.2) from if_pos hs, show szE x = 0 from if_pos hs]
    have w : IntKind.i64.wrap (0 - x.2) = -x.2 := by unfold gsz at hs; simp only [SM] at hs; rw [wi (by omega)]; omega
    simp only [nV, LV, LZ] at *
    refine AFun.mkc fol J0s Try.func40 rfl (ac := a40) (by kernel_rfl) (rs := [.c 2 true 2, .t 3]) (by kernel_rfl) rfl ?_
    apply vm_start
    unfold a40
    simp only [init_eq, initE]
    have zc57 := p1
    have zc58 := p2
    have zc59 := p3
    repeat first | (refine hK _ ?_; clear hK K) | simp only [Sv, ↓reduceIte, Nat.reduceEqDiff] | ((first | refine vm_reg (fun K hK => ?_) | refine vm_dreg (fun K hK => ?_) | refine clp_q ?_ | refine clq_mk (by assumption) ?_); simp (disch := (first | omega | assumption)) only [S1, ↓reduceIte, Nat.reduceEqDiff, Nat.reduceAdd, Nat.reduceMul, Nat.reduceDiv, AOp.sb, AOp.mut, ↓Bool.false_eq_true, beq_self_eq_true, ite_self, Nat.reduceLeDiff, Int.reduceEq, Int.reduceSub, Int.reduceAdd, Int.reduceNeg, Int.reduceLT, Int.reduceLE, Nat.reduceLT, bz_R23b, w])
    simp (disch := (first | omega | assumption)) only [retC, rsVs_nil, rsVs_cons, rsV_t, rsV_c, rsp_pt, rsq_t, rsq_f, ocons_ss, retV_1, retV_2, retNV_nil, retNV_cons, retOk, retN, ret1, retF, ret1F, V.okArg, and_true, true_and, S1, ↓reduceIte, Nat.reduceEqDiff, Nat.reduceAdd, Nat.reduceMul, Nat.reduceDiv, AOp.sb, AOp.mut, ↓Bool.false_eq_true, beq_self_eq_true, ite_self, Nat.reduceLeDiff, Int.reduceEq, Int.reduceSub, Int.reduceAdd, Int.reduceNeg, Int.reduceLT, Int.reduceLE, Nat.reduceLT, bz_R23b, w]
  · rw [decide_eq_false hs] at p3
    rw [show cF x = (0, 0) from if_neg hs, show szE x = 13 from if_neg hs]
    simp only [nV, LV, LZ] at *
    refine AFun.mkc fol J0s Try.func40 rfl (ac := a40) (by kernel_rfl) (rs := [.c 2 true 2, .t 3]) (by kernel_rfl) rfl ?_
    apply vm_start
    unfold a40
    simp only [init_eq, initE]
    have zc60 := p1
    have zc61 := p2
    have zc62 := p3
    repeat first | (refine hK _ ?_; clear hK K) | simp only [Sv, ↓reduceIte, Nat.reduceEqDiff] | ((first | refine vm_reg (fun K hK => ?_) | refine vm_dreg (fun K hK => ?_) | refine clp_q ?_ | refine clq_mk (by assumption) ?_); simp (disch := (first | omega | assumption)) only [S1, ↓reduceIte, Nat.reduceEqDiff, Nat.reduceAdd, Nat.reduceMul, Nat.reduceDiv, AOp.sb, AOp.mut, ↓Bool.false_eq_true, beq_self_eq_true, ite_self, Nat.reduceLeDiff, Int.reduceEq, Int.reduceSub, Int.reduceAdd, Int.reduceNeg, Int.reduceLT, Int.reduceLE, Nat.reduceLT, bz_R23b])
    simp (disch := (first | omega | assumption)) only [retC, rsVs_nil, rsVs_cons, rsV_t, rsV_c, rsp_pt, rsq_t, rsq_f, ocons_ss, retV_1, retV_2, retNV_nil, retNV_cons, retOk, retN, ret1, retF, ret1F, V.okArg, and_true, true_and, S1, ↓reduceIte, Nat.reduceEqDiff, Nat.reduceAdd, Nat.reduceMul, Nat.reduceDiv, AOp.sb, AOp.mut, ↓Bool.false_eq_true, beq_self_eq_true, ite_self, Nat.reduceLeDiff, Int.reduceEq, Int.reduceSub, Int.reduceAdd, Int.reduceNeg, Int.reduceLT, Int.reduceLE, Nat.reduceLT, bz_R23b]
-- surd/surdref23.Norm
def a42 : AC := .seq (.reg [⟨some 1, none, .bx 27 (.t 0)⟩, 
      ⟨some 2, none, .mv (.k (.i .i64 0))⟩, 
      ⟨some 3, none, .mv (.k (.i .i64 0))⟩])
  (.seq (.reg [⟨some 5, none, .ld true 2 (.t 1)⟩, 
      ⟨some 6, none, .call 53 [(1, (.t 5))]⟩, 
      ⟨some 7, none, .call 52 [(1, (.t 6))]⟩, 
      ⟨some 4, none, .mv (.t 7)⟩])
  (.seq (.seq (.reg [⟨some 8, none, .mv (.t 4)⟩, 
        ⟨some 9, none, .mv (.t 4)⟩, 
        ⟨some 10, none, .call 58 [(1, (.t 8)), (1, (.t 9))]⟩, 
        ⟨some 11, none, .call 54 [(1, (.t 10))]⟩, 
        ⟨some 12, none, .un .not (.t 11)⟩])
    (.cond (.t 12)
    (.seq (.reg [⟨some 2, none, .mv (.k (.i .i64 0))⟩, 
          ⟨some 3, none, .mv (.k (.i .i64 13))⟩])
      (.ret))
    (.skip)))
  (.seq (.reg [⟨some 13, none, .fad 0 (.t 1)⟩, 
      ⟨some 14, none, .ld false 1 (.t 13)⟩, 
      ⟨some 15, none, .fad 0 (.t 1)⟩, 
      ⟨some 16, none, .ld false 1 (.t 15)⟩, 
      ⟨some 17, none, .bin .mul (.t 14) (.t 16)⟩, 
      ⟨some 18, none, .fad 1 (.t 1)⟩, 
      ⟨some 19, none, .ld false 1 (.t 18)⟩, 
      ⟨some 20, none, .fad 1 (.t 1)⟩, 
      ⟨some 21, none, .ld false 1 (.t 20)⟩, 
      ⟨some 22, none, .bin .mul (.t 19) (.t 21)⟩, 
      ⟨some 23, none, .bin .add (.t 17) (.t 22)⟩, 
      ⟨some 2, none, .mv (.t 23)⟩, 
      ⟨some 3, none, .mv (.k (.i .i64 0))⟩])
  (.ret))))
theorem rnormS (x : GZ) (h : Pz x) : AFun Try.prog J0 42 [nV x] (.t [.i .i64 (nF x), .i .i64 (nE x)]) := by
  have p1 := of23_spec x h
  have p2 := size23_spec x 1 (by decide) (ZB_pi h)
  have p4 := (hmulN (gsz_B2 h) (gsz_B2 h) (by decide)).frozen
  have p3 := small23_spec (gsz x * gsz x) 4 (by decide) (by decide) (pmul2 (gsz_B2 h) (gsz_B2 h))
  by_cases hs : gsz x * gsz x < SM
  · rw [decide_eq_true hs] at p3
    rw [show nF x = x.1 * x.1 + x.2 * x.2 from if_pos hs, show nE x = 0 from if_pos hs]
    have hb : (x.1 * x.1).natAbs + (x.2 * x.2).natAbs < SM := by
      have h := gsz_prod x.1 x.2 x.1 x.2
      unfold gsz at hs; omega
    simp only [SM] at hb
    have w1 : IntKind.i64.wrap (x.1 * x.1) = x.1 * x.1 := wi (by omega)
    have w2 : IntKind.i64.wrap (x.2 * x.2) = x.2 * x.2 := wi (by omega)
    have w3 : IntKind.i64.wrap (x.1 * x.1 + x.2 * x.2) = x.1 * x.1 + x.2 * x.2 := wi (by omega)
    simp only [nV, LV, LZ] at *
    refine AFun.mk fol J0s Try.func42 rfl (ac := a42) (by kernel_rfl) rfl rfl ?_
    apply vm_start
    unfold a42
    simp only [init_eq, initE]
    have zc63 := p1
    have zc64 := p2
    have zc65 := p4
    have zc66 := p3
    repeat first | (refine hK _ ?_; clear hK K) | simp only [Sv, ↓reduceIte, Nat.reduceEqDiff] | ((first | refine vm_reg (fun K hK => ?_) | refine vm_dreg (fun K hK => ?_) | refine clp_q ?_ | refine clq_mk (by assumption) ?_); simp (disch := (first | omega | assumption)) only [S1, ↓reduceIte, Nat.reduceEqDiff, Nat.reduceAdd, Nat.reduceMul, Nat.reduceDiv, AOp.sb, AOp.mut, ↓Bool.false_eq_true, beq_self_eq_true, ite_self, Nat.reduceLeDiff, Int.reduceEq, Int.reduceSub, Int.reduceAdd, Int.reduceNeg, Int.reduceLT, Int.reduceLE, Nat.reduceLT, bz_R23b, w1, w2, w3])
    simp (disch := (first | omega | assumption)) only [retOk, retN, ret1, retF, ret1F, V.okArg, and_true, true_and, S1, ↓reduceIte, Nat.reduceEqDiff, Nat.reduceAdd, Nat.reduceMul, Nat.reduceDiv, AOp.sb, AOp.mut, ↓Bool.false_eq_true, beq_self_eq_true, ite_self, Nat.reduceLeDiff, Int.reduceEq, Int.reduceSub, Int.reduceAdd, Int.reduceNeg, Int.reduceLT, Int.reduceLE, Nat.reduceLT, bz_R23b, w1, w2, w3]
  · rw [decide_eq_false hs] at p3
    rw [show nF x = 0 from if_neg hs, show nE x = 13 from if_neg hs]
    simp only [nV, LV, LZ] at *
    refine AFun.mk fol J0s Try.func42 rfl (ac := a42) (by kernel_rfl) rfl rfl ?_
    apply vm_start
    unfold a42
    simp only [init_eq, initE]
    have zc67 := p1
    have zc68 := p2
    have zc69 := p4
    have zc70 := p3
    repeat first | (refine hK _ ?_; clear hK K) | simp only [Sv, ↓reduceIte, Nat.reduceEqDiff] | ((first | refine vm_reg (fun K hK => ?_) | refine vm_dreg (fun K hK => ?_) | refine clp_q ?_ | refine clq_mk (by assumption) ?_); simp (disch := (first | omega | assumption)) only [S1, ↓reduceIte, Nat.reduceEqDiff, Nat.reduceAdd, Nat.reduceMul, Nat.reduceDiv, AOp.sb, AOp.mut, ↓Bool.false_eq_true, beq_self_eq_true, ite_self, Nat.reduceLeDiff, Int.reduceEq, Int.reduceSub, Int.reduceAdd, Int.reduceNeg, Int.reduceLT, Int.reduceLE, Nat.reduceLT, bz_R23b])
    simp (disch := (first | omega | assumption)) only [retOk, retN, ret1, retF, ret1F, V.okArg, and_true, true_and, S1, ↓reduceIte, Nat.reduceEqDiff, Nat.reduceAdd, Nat.reduceMul, Nat.reduceDiv, AOp.sb, AOp.mut, ↓Bool.false_eq_true, beq_self_eq_true, ite_self, Nat.reduceLeDiff, Int.reduceEq, Int.reduceSub, Int.reduceAdd, Int.reduceNeg, Int.reduceLT, Int.reduceLE, Nat.reduceLT, bz_R23b]
-- surd/surdref23.Eighth
def a21 : AC := .seq (.reg [⟨some 1, none, .bx 27 (.t 0)⟩, 
      ⟨some 2, none, .mv (.k (.i .i64 0))⟩, 
      ⟨some 3, none, .mv (.k (.i .i64 0))⟩])
  (.seq (.seq (.reg [⟨some 4, none, .ld true 2 (.t 1)⟩, 
        ⟨some 5, none, .call 53 [(1, (.t 4))]⟩, 
        ⟨some 6, none, .call 52 [(1, (.t 5))]⟩, 
        ⟨some 7, none, .call 54 [(1, (.t 6))]⟩, 
        ⟨some 8, none, .un .not (.t 7)⟩])
    (.cond (.t 8)
    (.seq (.reg [⟨some 2, none, .mv (.k (.i .i64 0))⟩, 
          ⟨some 3, none, .mv (.k (.i .i64 13))⟩])
      (.ret))
    (.skip)))
  (.seq (.blk 0
    (.seq (.reg [⟨some 10, none, .fad 0 (.t 1)⟩, 
          ⟨some 11, none, .ld false 1 (.t 10)⟩, 
          ⟨some 12, none, .bin .eql (.t 11) (.k (.i .i64 0))⟩, 
          ⟨some 13, none, .mv (.t 12)⟩, 
          ⟨some 14, some (13, true), .fad 1 (.t 1)⟩, 
          ⟨some 15, some (13, true), .ld false 1 (.t 14)⟩, 
          ⟨some 16, some (13, true), .bin .eql (.t 15) (.k (.i .i64 0))⟩, 
          ⟨some 17, none, .pick (.t 13) (.t 16) (.k (.b false))⟩, 
          ⟨some 9, none, .mv (.t 17)⟩])
      (.cond (.t 9)
      (.seq (.reg [⟨some 2, none, .mv (.k (.i .i64 0))⟩, 
            ⟨some 3, none, .mv (.k (.i .i64 1))⟩])
        (.ret))
      (.seq (.reg [⟨some 19, none, .fad 1 (.t 1)⟩, 
            ⟨some 20, none, .ld false 1 (.t 19)⟩, 
            ⟨some 21, none, .bin .eql (.t 20) (.k (.i .i64 0))⟩, 
            ⟨some 22, none, .mv (.t 21)⟩, 
            ⟨some 23, some (22, true), .fad 0 (.t 1)⟩, 
            ⟨some 24, some (22, true), .ld false 1 (.t 23)⟩, 
            ⟨some 25, some (22, true), .bin .gtr (.t 24) (.k (.i .i64 0))⟩, 
            ⟨some 26, none, .pick (.t 22) (.t 25) (.k (.b false))⟩, 
            ⟨some 18, none, .mv (.t 26)⟩])
        (.cond (.t 18)
        (.seq (.reg [⟨some 2, none, .mv (.k (.i .i64 0))⟩, 
              ⟨some 3, none, .mv (.k (.i .i64 0))⟩])
          (.ret))
        (.seq (.reg [⟨some 28, none, .fad 1 (.t 1)⟩, 
              ⟨some 29, none, .ld false 1 (.t 28)⟩, 
              ⟨some 30, none, .bin .gtr (.t 29) (.k (.i .i64 0))⟩, 
              ⟨some 31, none, .mv (.t 30)⟩, 
              ⟨some 32, some (31, true), .fad 0 (.t 1)⟩, 
              ⟨some 33, some (31, true), .ld false 1 (.t 32)⟩, 
              ⟨some 34, some (31, true), .bin .gtr (.t 33) (.k (.i .i64 0))⟩, 
              ⟨some 35, none, .pick (.t 31) (.t 34) (.k (.b false))⟩, 
              ⟨some 27, none, .mv (.t 35)⟩])
          (.cond (.t 27)
          (.seq (.reg [⟨some 2, none, .mv (.k (.i .i64 1))⟩, 
                ⟨some 3, none, .mv (.k (.i .i64 0))⟩])
            (.ret))
          (.seq (.reg [⟨some 37, none, .fad 1 (.t 1)⟩, 
                ⟨some 38, none, .ld false 1 (.t 37)⟩, 
                ⟨some 39, none, .bin .gtr (.t 38) (.k (.i .i64 0))⟩, 
                ⟨some 40, none, .mv (.t 39)⟩, 
                ⟨some 41, some (40, true), .fad 0 (.t 1)⟩, 
                ⟨some 42, some (40, true), .ld false 1 (.t 41)⟩, 
                ⟨some 43, some (40, true), .bin .eql (.t 42) (.k (.i .i64 0))⟩, 
                ⟨some 44, none, .pick (.t 40) (.t 43) (.k (.b false))⟩, 
                ⟨some 36, none, .mv (.t 44)⟩])
            (.cond (.t 36)
            (.seq (.reg [⟨some 2, none, .mv (.k (.i .i64 2))⟩, 
                  ⟨some 3, none, .mv (.k (.i .i64 0))⟩])
              (.ret))
            (.seq (.reg [⟨some 46, none, .fad 1 (.t 1)⟩, 
                  ⟨some 47, none, .ld false 1 (.t 46)⟩, 
                  ⟨some 48, none, .bin .gtr (.t 47) (.k (.i .i64 0))⟩, 
                  ⟨some 45, none, .mv (.t 48)⟩])
              (.cond (.t 45)
              (.seq (.reg [⟨some 2, none, .mv (.k (.i .i64 3))⟩, 
                    ⟨some 3, none, .mv (.k (.i .i64 0))⟩])
                (.ret))
              (.seq (.reg [⟨some 50, none, .fad 1 (.t 1)⟩, 
                    ⟨some 51, none, .ld false 1 (.t 50)⟩, 
                    ⟨some 52, none, .bin .eql (.t 51) (.k (.i .i64 0))⟩, 
                    ⟨some 49, none, .mv (.t 52)⟩])
                (.cond (.t 49)
                (.seq (.reg [⟨some 2, none, .mv (.k (.i .i64 4))⟩, 
                      ⟨some 3, none, .mv (.k (.i .i64 0))⟩])
                  (.ret))
                (.seq (.reg [⟨some 54, none, .fad 0 (.t 1)⟩, 
                      ⟨some 55, none, .ld false 1 (.t 54)⟩, 
                      ⟨some 56, none, .bin .lss (.t 55) (.k (.i .i64 0))⟩, 
                      ⟨some 53, none, .mv (.t 56)⟩])
                  (.cond (.t 53)
                  (.seq (.reg [⟨some 2, none, .mv (.k (.i .i64 5))⟩, 
                        ⟨some 3, none, .mv (.k (.i .i64 0))⟩])
                    (.ret))
                  (.seq (.reg [⟨some 58, none, .fad 0 (.t 1)⟩, 
                        ⟨some 59, none, .ld false 1 (.t 58)⟩, 
                        ⟨some 60, none, .bin .eql (.t 59) (.k (.i .i64 0))⟩, 
                        ⟨some 57, none, .mv (.t 60)⟩])
                    (.cond (.t 57)
                    (.seq (.reg [⟨some 2, none, .mv (.k (.i .i64 6))⟩, 
                          ⟨some 3, none, .mv (.k (.i .i64 0))⟩])
                      (.ret))
                    (.skip))))))))))))))))))
  (.seq (.reg [⟨some 2, none, .mv (.k (.i .i64 7))⟩, 
      ⟨some 3, none, .mv (.k (.i .i64 0))⟩])
  (.ret))))
theorem reiS (z : GZ) (hz : Pz z) : AFun Try.prog J0 21 [nV z] (.t [.i .i64 (eiF z), .i .i64 (eiE z)]) := by
  have p1 := of23_spec z hz
  have p2 := size23_spec z 1 (by decide) (ZB_pi hz)
  have p3 := small23_spec (gsz z) 2 (by decide) (by decide) (gsz_B2 hz)
  clear hz
  obtain ⟨a, b⟩ := z
  by_cases h1 : gsz (a, b) < SM
  · have hE : eiE (a, b) = if a = 0 ∧ b = 0 then 1 else 0 := by unfold eiE; rw [if_pos h1]; simp only [Prod.mk.injEq]
    rw [decide_eq_true h1] at p3
    simp only [nV, LV, LZ] at *
    generalize gsz (a, b) = s at *
    generalize decide (a < 0) = s1 at p1 p2
    generalize W (dg B a.natAbs) = c1 at p1 p2
    generalize decide (b < 0) = s2 at p1 p2
    generalize W (dg B b.natAbs) = c2 at p1 p2
    rcases Int.lt_trichotomy a 0 with ha | ha | ha <;> rcases Int.lt_trichotomy b 0 with hb | hb | hb
    all_goals
      first
        | (have e0 : eiE (a, b) = 0 := by rw [hE]; exact if_neg (by omega)
           rw [show eiF (a, b) = ei (a, b) from if_pos e0, e0])
        | (have e0 : eiE (a, b) = 1 := by rw [hE]; exact if_pos (by omega)
           rw [show eiF (a, b) = 0 from if_neg (by rw [e0]; decide), e0])
    · have a1 : ¬ a = 0 := by omega
      have b1 : ¬ b = 0 := by omega
      have b2 : ¬ 0 < b := by omega
      rw [show ei (a, b) = 5 from by unfold ei; simp only [a1, b1, b2, ha, if_true, if_false]]
      refine AFun.mk fol J0s Try.func21 rfl (ac := a21) (by kernel_rfl) rfl rfl ?_
      apply vm_start
      unfold a21
      simp only [init_eq, initE]
      have zc71 := p1
      have zc72 := p2
      have zc73 := p3
      repeat first | (refine hK _ ?_; clear hK K) | simp only [Sv, ↓reduceIte, Nat.reduceEqDiff] | ((first | refine vm_reg (fun K hK => ?_) | refine vm_dreg (fun K hK => ?_) | refine clp_q ?_ | refine clq_mk (by assumption) ?_); simp (disch := (first | omega | assumption)) only [S1, ↓reduceIte, Nat.reduceEqDiff, Nat.reduceAdd, Nat.reduceMul, Nat.reduceDiv, AOp.sb, AOp.mut, ↓Bool.false_eq_true, beq_self_eq_true, ite_self, Nat.reduceLeDiff, Int.reduceEq, Int.reduceSub, Int.reduceAdd, Int.reduceNeg, Int.reduceLT, Int.reduceLE, Nat.reduceLT, bz_R23b, a1, b1, b2, ha])
      simp (disch := (first | omega | assumption)) only [retOk, retN, ret1, retF, ret1F, V.okArg, and_true, true_and, S1, ↓reduceIte, Nat.reduceEqDiff, Nat.reduceAdd, Nat.reduceMul, Nat.reduceDiv, AOp.sb, AOp.mut, ↓Bool.false_eq_true, beq_self_eq_true, ite_self, Nat.reduceLeDiff, Int.reduceEq, Int.reduceSub, Int.reduceAdd, Int.reduceNeg, Int.reduceLT, Int.reduceLE, Nat.reduceLT, bz_R23b, a1, b1, b2, ha]
    · subst hb
      have a1 : ¬ a = 0 := by omega
      have a2 : ¬ 0 < a := by omega
      rw [show ei (a, 0) = 4 from by unfold ei; simp only [a2, if_true, if_false]]
      refine AFun.mk fol J0s Try.func21 rfl (ac := a21) (by kernel_rfl) rfl rfl ?_
      apply vm_start
      unfold a21
      simp only [init_eq, initE]
      have zc74 := p1
      have zc75 := p2
      have zc76 := p3
      repeat first | (refine hK _ ?_; clear hK K) | simp only [Sv, ↓reduceIte, Nat.reduceEqDiff] | ((first | refine vm_reg (fun K hK => ?_) | refine vm_dreg (fun K hK => ?_) | refine clp_q ?_ | refine clq_mk (by assumption) ?_); simp (disch := (first | omega | assumption)) only [S1, ↓reduceIte, Nat.reduceEqDiff, Nat.reduceAdd, Nat.reduceMul, Nat.reduceDiv, AOp.sb, AOp.mut, ↓Bool.false_eq_true, beq_self_eq_true, ite_self, Nat.reduceLeDiff, Int.reduceEq, Int.reduceSub, Int.reduceAdd, Int.reduceNeg, Int.reduceLT, Int.reduceLE, Nat.reduceLT, bz_R23b, a1, a2])
      simp (disch := (first | omega | assumption)) only [retOk, retN, ret1, retF, ret1F, V.okArg, and_true, true_and, S1, ↓reduceIte, Nat.reduceEqDiff, Nat.reduceAdd, Nat.reduceMul, Nat.reduceDiv, AOp.sb, AOp.mut, ↓Bool.false_eq_true, beq_self_eq_true, ite_self, Nat.reduceLeDiff, Int.reduceEq, Int.reduceSub, Int.reduceAdd, Int.reduceNeg, Int.reduceLT, Int.reduceLE, Nat.reduceLT, bz_R23b, a1, a2]
    · have a1 : ¬ a = 0 := by omega
      have a2 : ¬ 0 < a := by omega
      have b1 : ¬ b = 0 := by omega
      rw [show ei (a, b) = 3 from by unfold ei; simp only [a1, a2, b1, hb, if_true, if_false]]
      refine AFun.mk fol J0s Try.func21 rfl (ac := a21) (by kernel_rfl) rfl rfl ?_
      apply vm_start
      unfold a21
      simp only [init_eq, initE]
      have zc77 := p1
      have zc78 := p2
      have zc79 := p3
      repeat first | (refine hK _ ?_; clear hK K) | simp only [Sv, ↓reduceIte, Nat.reduceEqDiff] | ((first | refine vm_reg (fun K hK => ?_) | refine vm_dreg (fun K hK => ?_) | refine clp_q ?_ | refine clq_mk (by assumption) ?_); simp (disch := (first | omega | assumption)) only [S1, ↓reduceIte, Nat.reduceEqDiff, Nat.reduceAdd, Nat.reduceMul, Nat.reduceDiv, AOp.sb, AOp.mut, ↓Bool.false_eq_true, beq_self_eq_true, ite_self, Nat.reduceLeDiff, Int.reduceEq, Int.reduceSub, Int.reduceAdd, Int.reduceNeg, Int.reduceLT, Int.reduceLE, Nat.reduceLT, bz_R23b, a1, a2, b1, hb])
      simp (disch := (first | omega | assumption)) only [retOk, retN, ret1, retF, ret1F, V.okArg, and_true, true_and, S1, ↓reduceIte, Nat.reduceEqDiff, Nat.reduceAdd, Nat.reduceMul, Nat.reduceDiv, AOp.sb, AOp.mut, ↓Bool.false_eq_true, beq_self_eq_true, ite_self, Nat.reduceLeDiff, Int.reduceEq, Int.reduceSub, Int.reduceAdd, Int.reduceNeg, Int.reduceLT, Int.reduceLE, Nat.reduceLT, bz_R23b, a1, a2, b1, hb]
    · subst ha
      have b1 : ¬ b = 0 := by omega
      have b2 : ¬ 0 < b := by omega
      rw [show ei (0, b) = 6 from by unfold ei; simp only [b1, b2, if_true, if_false]]
      refine AFun.mk fol J0s Try.func21 rfl (ac := a21) (by kernel_rfl) rfl rfl ?_
      apply vm_start
      unfold a21
      simp only [init_eq, initE]
      have zc80 := p1
      have zc81 := p2
      have zc82 := p3
      repeat first | (refine hK _ ?_; clear hK K) | simp only [Sv, ↓reduceIte, Nat.reduceEqDiff] | ((first | refine vm_reg (fun K hK => ?_) | refine vm_dreg (fun K hK => ?_) | refine clp_q ?_ | refine clq_mk (by assumption) ?_); simp (disch := (first | omega | assumption)) only [S1, ↓reduceIte, Nat.reduceEqDiff, Nat.reduceAdd, Nat.reduceMul, Nat.reduceDiv, AOp.sb, AOp.mut, ↓Bool.false_eq_true, beq_self_eq_true, ite_self, Nat.reduceLeDiff, Int.reduceEq, Int.reduceSub, Int.reduceAdd, Int.reduceNeg, Int.reduceLT, Int.reduceLE, Nat.reduceLT, bz_R23b, b1, b2])
      simp (disch := (first | omega | assumption)) only [retOk, retN, ret1, retF, ret1F, V.okArg, and_true, true_and, S1, ↓reduceIte, Nat.reduceEqDiff, Nat.reduceAdd, Nat.reduceMul, Nat.reduceDiv, AOp.sb, AOp.mut, ↓Bool.false_eq_true, beq_self_eq_true, ite_self, Nat.reduceLeDiff, Int.reduceEq, Int.reduceSub, Int.reduceAdd, Int.reduceNeg, Int.reduceLT, Int.reduceLE, Nat.reduceLT, bz_R23b, b1, b2]
    · subst ha
      subst hb
      refine AFun.mk fol J0s Try.func21 rfl (ac := a21) (by kernel_rfl) rfl rfl ?_
      apply vm_start
      unfold a21
      simp only [init_eq, initE]
      have zc83 := p1
      have zc84 := p2
      have zc85 := p3
      repeat first | (refine hK _ ?_; clear hK K) | simp only [Sv, ↓reduceIte, Nat.reduceEqDiff] | ((first | refine vm_reg (fun K hK => ?_) | refine vm_dreg (fun K hK => ?_) | refine clp_q ?_ | refine clq_mk (by assumption) ?_); simp (disch := (first | omega | assumption)) only [S1, ↓reduceIte, Nat.reduceEqDiff, Nat.reduceAdd, Nat.reduceMul, Nat.reduceDiv, AOp.sb, AOp.mut, ↓Bool.false_eq_true, beq_self_eq_true, ite_self, Nat.reduceLeDiff, Int.reduceEq, Int.reduceSub, Int.reduceAdd, Int.reduceNeg, Int.reduceLT, Int.reduceLE, Nat.reduceLT, bz_R23b, e0])
      simp (disch := (first | omega | assumption)) only [retOk, retN, ret1, retF, ret1F, V.okArg, and_true, true_and, S1, ↓reduceIte, Nat.reduceEqDiff, Nat.reduceAdd, Nat.reduceMul, Nat.reduceDiv, AOp.sb, AOp.mut, ↓Bool.false_eq_true, beq_self_eq_true, ite_self, Nat.reduceLeDiff, Int.reduceEq, Int.reduceSub, Int.reduceAdd, Int.reduceNeg, Int.reduceLT, Int.reduceLE, Nat.reduceLT, bz_R23b, e0]
    · subst ha
      have b1 : ¬ b = 0 := by omega
      rw [show ei (0, b) = 2 from by unfold ei; simp only [b1, hb, if_true, if_false]]
      refine AFun.mk fol J0s Try.func21 rfl (ac := a21) (by kernel_rfl) rfl rfl ?_
      apply vm_start
      unfold a21
      simp only [init_eq, initE]
      have zc86 := p1
      have zc87 := p2
      have zc88 := p3
      repeat first | (refine hK _ ?_; clear hK K) | simp only [Sv, ↓reduceIte, Nat.reduceEqDiff] | ((first | refine vm_reg (fun K hK => ?_) | refine vm_dreg (fun K hK => ?_) | refine clp_q ?_ | refine clq_mk (by assumption) ?_); simp (disch := (first | omega | assumption)) only [S1, ↓reduceIte, Nat.reduceEqDiff, Nat.reduceAdd, Nat.reduceMul, Nat.reduceDiv, AOp.sb, AOp.mut, ↓Bool.false_eq_true, beq_self_eq_true, ite_self, Nat.reduceLeDiff, Int.reduceEq, Int.reduceSub, Int.reduceAdd, Int.reduceNeg, Int.reduceLT, Int.reduceLE, Nat.reduceLT, bz_R23b, b1, hb])
      simp (disch := (first | omega | assumption)) only [retOk, retN, ret1, retF, ret1F, V.okArg, and_true, true_and, S1, ↓reduceIte, Nat.reduceEqDiff, Nat.reduceAdd, Nat.reduceMul, Nat.reduceDiv, AOp.sb, AOp.mut, ↓Bool.false_eq_true, beq_self_eq_true, ite_self, Nat.reduceLeDiff, Int.reduceEq, Int.reduceSub, Int.reduceAdd, Int.reduceNeg, Int.reduceLT, Int.reduceLE, Nat.reduceLT, bz_R23b, b1, hb]
    · have a1 : ¬ a = 0 := by omega
      have a2 : ¬ a < 0 := by omega
      have b1 : ¬ b = 0 := by omega
      have b2 : ¬ 0 < b := by omega
      rw [show ei (a, b) = 7 from by unfold ei; simp only [a1, a2, b1, b2, if_true, if_false]]
      refine AFun.mk fol J0s Try.func21 rfl (ac := a21) (by kernel_rfl) rfl rfl ?_
      apply vm_start
      unfold a21
      simp only [init_eq, initE]
      have zc89 := p1
      have zc90 := p2
      have zc91 := p3
      repeat first | (refine hK _ ?_; clear hK K) | simp only [Sv, ↓reduceIte, Nat.reduceEqDiff] | ((first | refine vm_reg (fun K hK => ?_) | refine vm_dreg (fun K hK => ?_) | refine clp_q ?_ | refine clq_mk (by assumption) ?_); simp (disch := (first | omega | assumption)) only [S1, ↓reduceIte, Nat.reduceEqDiff, Nat.reduceAdd, Nat.reduceMul, Nat.reduceDiv, AOp.sb, AOp.mut, ↓Bool.false_eq_true, beq_self_eq_true, ite_self, Nat.reduceLeDiff, Int.reduceEq, Int.reduceSub, Int.reduceAdd, Int.reduceNeg, Int.reduceLT, Int.reduceLE, Nat.reduceLT, bz_R23b, a1, a2, b1, b2])
      simp (disch := (first | omega | assumption)) only [retOk, retN, ret1, retF, ret1F, V.okArg, and_true, true_and, S1, ↓reduceIte, Nat.reduceEqDiff, Nat.reduceAdd, Nat.reduceMul, Nat.reduceDiv, AOp.sb, AOp.mut, ↓Bool.false_eq_true, beq_self_eq_true, ite_self, Nat.reduceLeDiff, Int.reduceEq, Int.reduceSub, Int.reduceAdd, Int.reduceNeg, Int.reduceLT, Int.reduceLE, Nat.reduceLT, bz_R23b, a1, a2, b1, b2]
    · subst hb
      have a1 : ¬ a = 0 := by omega
      rw [show ei (a, 0) = 0 from by unfold ei; simp only [ha, if_true, if_false]]
      refine AFun.mk fol J0s Try.func21 rfl (ac := a21) (by kernel_rfl) rfl rfl ?_
      apply vm_start
      unfold a21
      simp only [init_eq, initE]
      have zc92 := p1
      have zc93 := p2
      have zc94 := p3
      repeat first | (refine hK _ ?_; clear hK K) | simp only [Sv, ↓reduceIte, Nat.reduceEqDiff] | ((first | refine vm_reg (fun K hK => ?_) | refine vm_dreg (fun K hK => ?_) | refine clp_q ?_ | refine clq_mk (by assumption) ?_); simp (disch := (first | omega | assumption)) only [S1, ↓reduceIte, Nat.reduceEqDiff, Nat.reduceAdd, Nat.reduceMul, Nat.reduceDiv, AOp.sb, AOp.mut, ↓Bool.false_eq_true, beq_self_eq_true, ite_self, Nat.reduceLeDiff, Int.reduceEq, Int.reduceSub, Int.reduceAdd, Int.reduceNeg, Int.reduceLT, Int.reduceLE, Nat.reduceLT, bz_R23b, a1, ha])
      simp (disch := (first | omega | assumption)) only [retOk, retN, ret1, retF, ret1F, V.okArg, and_true, true_and, S1, ↓reduceIte, Nat.reduceEqDiff, Nat.reduceAdd, Nat.reduceMul, Nat.reduceDiv, AOp.sb, AOp.mut, ↓Bool.false_eq_true, beq_self_eq_true, ite_self, Nat.reduceLeDiff, Int.reduceEq, Int.reduceSub, Int.reduceAdd, Int.reduceNeg, Int.reduceLT, Int.reduceLE, Nat.reduceLT, bz_R23b, a1, ha]
    · have a1 : ¬ a = 0 := by omega
      have b1 : ¬ b = 0 := by omega
      rw [show ei (a, b) = 1 from by unfold ei; simp only [a1, ha, b1, hb, if_true, if_false]]
      refine AFun.mk fol J0s Try.func21 rfl (ac := a21) (by kernel_rfl) rfl rfl ?_
      apply vm_start
      unfold a21
      simp only [init_eq, initE]
      have zc95 := p1
      have zc96 := p2
      have zc97 := p3
      repeat first | (refine hK _ ?_; clear hK K) | simp only [Sv, ↓reduceIte, Nat.reduceEqDiff] | ((first | refine vm_reg (fun K hK => ?_) | refine vm_dreg (fun K hK => ?_) | refine clp_q ?_ | refine clq_mk (by assumption) ?_); simp (disch := (first | omega | assumption)) only [S1, ↓reduceIte, Nat.reduceEqDiff, Nat.reduceAdd, Nat.reduceMul, Nat.reduceDiv, AOp.sb, AOp.mut, ↓Bool.false_eq_true, beq_self_eq_true, ite_self, Nat.reduceLeDiff, Int.reduceEq, Int.reduceSub, Int.reduceAdd, Int.reduceNeg, Int.reduceLT, Int.reduceLE, Nat.reduceLT, bz_R23b, a1, ha, b1, hb])
      simp (disch := (first | omega | assumption)) only [retOk, retN, ret1, retF, ret1F, V.okArg, and_true, true_and, S1, ↓reduceIte, Nat.reduceEqDiff, Nat.reduceAdd, Nat.reduceMul, Nat.reduceDiv, AOp.sb, AOp.mut, ↓Bool.false_eq_true, beq_self_eq_true, ite_self, Nat.reduceLeDiff, Int.reduceEq, Int.reduceSub, Int.reduceAdd, Int.reduceNeg, Int.reduceLT, Int.reduceLE, Nat.reduceLT, bz_R23b, a1, ha, b1, hb]
  · have e0 : eiE (a, b) = 13 := if_neg h1
    rw [show eiF (a, b) = 0 from if_neg (by rw [e0]; decide), e0]
    rw [decide_eq_false h1] at p3
    simp only [nV, LV, LZ] at *
    refine AFun.mk fol J0s Try.func21 rfl (ac := a21) (by kernel_rfl) rfl rfl ?_
    apply vm_start
    unfold a21
    simp only [init_eq, initE]
    have zc98 := p1
    have zc99 := p2
    have zc100 := p3
    repeat first | (refine hK _ ?_; clear hK K) | simp only [Sv, ↓reduceIte, Nat.reduceEqDiff] | ((first | refine vm_reg (fun K hK => ?_) | refine vm_dreg (fun K hK => ?_) | refine clp_q ?_ | refine clq_mk (by assumption) ?_); simp (disch := (first | omega | assumption)) only [S1, ↓reduceIte, Nat.reduceEqDiff, Nat.reduceAdd, Nat.reduceMul, Nat.reduceDiv, AOp.sb, AOp.mut, ↓Bool.false_eq_true, beq_self_eq_true, ite_self, Nat.reduceLeDiff, Int.reduceEq, Int.reduceSub, Int.reduceAdd, Int.reduceNeg, Int.reduceLT, Int.reduceLE, Nat.reduceLT, bz_R23b])
    simp (disch := (first | omega | assumption)) only [retOk, retN, ret1, retF, ret1F, V.okArg, and_true, true_and, S1, ↓reduceIte, Nat.reduceEqDiff, Nat.reduceAdd, Nat.reduceMul, Nat.reduceDiv, AOp.sb, AOp.mut, ↓Bool.false_eq_true, beq_self_eq_true, ite_self, Nat.reduceLeDiff, Int.reduceEq, Int.reduceSub, Int.reduceAdd, Int.reduceNeg, Int.reduceLT, Int.reduceLE, Nat.reduceLT, bz_R23b]
end Go.Proofs.Ytfkldohgiifgbaa
