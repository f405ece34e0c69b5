/-
  The texts R1, R2, R3.
-/
import Derived.Test.YtfhgnlkcecogcaaGG
import Derived.Test.YtfhgnlkcecogcaaGE
import Derived.Test.YtfhgnlkcecogcaaGC
/- R1 -/
namespace Go.Proofs.Ytfhgnlkcecogcaa
open Go Go.RowKit Ab
set_option linter.unusedSimpArgs false
set_option linter.unusedVariables false
set_option maxHeartbeats 10000000
theorem bz_R1 : type_of% (And.intro @W_len (And.intro @D_len (And.intro @Bl_len (And.intro @Nat.div_one (And.intro @Nat.mul_one (And.intro @tn_nat (And.intro @W_nf (And.intro @D_nf (And.intro @Bl_nf (And.intro @W_nil (And.intro @D_nil (And.intro @Bl_nil (@wi))))))))))))) := And.intro @W_len (And.intro @D_len (And.intro @Bl_len (And.intro @Nat.div_one (And.intro @Nat.mul_one (And.intro @tn_nat (And.intro @W_nf (And.intro @D_nf (And.intro @Bl_nf (And.intro @W_nil (And.intro @D_nil (And.intro @Bl_nil (@wi))))))))))))

theorem D_set (a : List Nat) (i x : Nat) : (D a).set i (.i .i64 (x : Int)) = D (a.set i x) := by simp [D]
theorem Bl_setT (a : List Nat) (i : Nat) : (Bl a).set i (.b true) = Bl (a.set i 1) := by simp [Bl]
theorem mk_Bl (n : Nat) : (List.replicate n [V.b false]).flatten = Bl (List.replicate n 0) := by
  induction n with
  | zero => rfl
  | succ n ih => rw [List.replicate_succ, List.flatten_cons, ih, List.replicate_succ]; rfl
theorem mk_D (n : Nat) : (List.replicate n [V.i .i64 0]).flatten = D (List.replicate n 0) := by
  induction n with
  | zero => rfl
  | succ n ih => rw [List.replicate_succ, List.flatten_cons, ih, List.replicate_succ]; rfl
theorem dg2_len {a : List Nat} (ha : Wd a) : (dg 2 (nv B a)).length ≤ 64 * a.length := dg_len (by decide) (by
  have := nv_lt ha
  rwa [B64, ← Nat.pow_mul] at this)

-- surd/surdref02.Bits
def a53 : AC := .seq (.reg [⟨some 2, none, .mv (.k (.i .i64 0))⟩])
  (.seq (.reg [⟨some 3, none, .mv (.t 0)⟩, 
      ⟨some 4, none, .call 59 [(1, (.t 3))]⟩, 
      ⟨some 5, none, .len (.t 4)⟩, 
      ⟨some 2, none, .mv (.t 5)⟩])
  (.ret))
theorem rbits_spec (a : List Nat) (ha : Wd a) (la : a.length ≤ 10000000000) : AFun Try.prog J0 53 [.l 1 (W a)] (.i .i64 (((dg 2 (nv B a)).length : Nat) : Int)) := by
  refine AFun.mk fol J0s Try.func53 rfl (ac := a53) (by kernel_rfl) rfl rfl ?_
  apply vm_start
  unfold a53
  simp only [init_eq, initE]
  have zc1 := row_spec a ha la
  repeat first | (refine hK _ ?_; clear hK K) | simp only [Sv, ↓reduceIte, Nat.reduceEqDiff] | ((first | refine vm_reg (fun K hK => ?_) | refine vm_dreg (fun K hK => ?_) | refine vm_dregx (fun K hK => ?_) | refine clp_q ?_ | refine clq_mk (by assumption) ?_); simp (disch := (first | omega | assumption)) only [S1, ↓reduceIte, Nat.reduceEqDiff, Nat.reduceAdd, Nat.reduceMul, Nat.reduceDiv, AOp.sb, AOp.mut, ↓Bool.false_eq_true, beq_self_eq_true, ite_self, Nat.reduceLeDiff, Int.reduceEq, Int.reduceSub, Int.reduceAdd, Int.reduceNeg, Int.reduceLT, Int.reduceLE, Nat.reduceLT, bz_R1])
  simp (disch := (first | omega | assumption)) only [retOk, retN, ret1, retF, ret1F, V.okArg, and_true, true_and, S1, ↓reduceIte, Nat.reduceEqDiff, Nat.reduceAdd, Nat.reduceMul, Nat.reduceDiv, AOp.sb, AOp.mut, ↓Bool.false_eq_true, beq_self_eq_true, ite_self, Nat.reduceLeDiff, Int.reduceEq, Int.reduceSub, Int.reduceAdd, Int.reduceNeg, Int.reduceLT, Int.reduceLE, Nat.reduceLT, bz_R1]
-- surd/surdref04.zero
def a58 : AC := .seq (.reg [⟨some 2, none, .mv (.k (.b false))⟩])
  (.seq (.reg [⟨some 3, none, .mv (.t 0)⟩, 
      ⟨some 4, none, .call 53 [(1, (.t 3))]⟩, 
      ⟨some 5, none, .bin .eql (.t 4) (.k (.i .i64 0))⟩, 
      ⟨some 2, none, .mv (.t 5)⟩])
  (.ret))
theorem rzero_spec (a : List Nat) (ha : Wd a) (la : a.length ≤ 10000000000) : AFun Try.prog J0 58 [.l 1 (W a)] (.b (decide (nv B a = 0))) := by
  have e : ((((dg 2 (nv B a)).length : Nat) : Int) = 0) = (nv B a = 0) := by
    refine propext ⟨fun h => (dg_nil (b := 2) (by decide)).1 (List.eq_nil_of_length_eq_zero (by omega)), fun h => by rw [h]; rfl⟩
  refine AFun.mk fol J0s Try.func58 rfl (ac := a58) (by kernel_rfl) rfl rfl ?_
  apply vm_start
  unfold a58
  simp only [init_eq, initE]
  have zc2 := rbits_spec a ha la
  repeat first | (refine hK _ ?_; clear hK K) | simp only [Sv, ↓reduceIte, Nat.reduceEqDiff] | ((first | refine vm_reg (fun K hK => ?_) | refine vm_dreg (fun K hK => ?_) | refine vm_dregx (fun K hK => ?_) | refine clp_q ?_ | refine clq_mk (by assumption) ?_); simp (disch := (first | omega | assumption)) only [S1, ↓reduceIte, Nat.reduceEqDiff, Nat.reduceAdd, Nat.reduceMul, Nat.reduceDiv, AOp.sb, AOp.mut, ↓Bool.false_eq_true, beq_self_eq_true, ite_self, Nat.reduceLeDiff, Int.reduceEq, Int.reduceSub, Int.reduceAdd, Int.reduceNeg, Int.reduceLT, Int.reduceLE, Nat.reduceLT, bz_R1, e])
  simp (disch := (first | omega | assumption)) only [retOk, retN, ret1, retF, ret1F, V.okArg, and_true, true_and, S1, ↓reduceIte, Nat.reduceEqDiff, Nat.reduceAdd, Nat.reduceMul, Nat.reduceDiv, AOp.sb, AOp.mut, ↓Bool.false_eq_true, beq_self_eq_true, ite_self, Nat.reduceLeDiff, Int.reduceEq, Int.reduceSub, Int.reduceAdd, Int.reduceNeg, Int.reduceLT, Int.reduceLE, Nat.reduceLT, bz_R1, e]
-- surd/surdref04.least
def a60 : AC := .seq (.reg [⟨some 4, none, .mv (.k (.b false))⟩])
  (.seq (.seq (.reg [⟨some 6, none, .mv (.t 0)⟩, 
        ⟨some 7, none, .len (.t 6)⟩, 
        ⟨some 8, none, .bin .sub (.t 7) (.k (.i .i64 1))⟩, 
        ⟨some 5, none, .mv (.t 8)⟩])
    (.blk 0
    (.loop
      (.seq (.seq (.reg [⟨some 9, none, .mv (.t 5)⟩, 
              ⟨some 10, none, .bin .geq (.t 9) (.k (.i .i64 0))⟩])
          (.cond (.t 10)
          (.skip)
          (.exit 0)))
        (.seq (.blk 1
          (.seq (.dreg [⟨some 13, none, .mv (.t 0)⟩, 
                ⟨some 14, none, .mv (.t 5)⟩, 
                ⟨some 15, none, .idx 1 (.t 13) (.t 14)⟩, 
                ⟨some 16, none, .ld false 1 (.t 15)⟩, 
                ⟨some 17, none, .mv (.t 1)⟩, 
                ⟨some 18, none, .mv (.t 5)⟩, 
                ⟨some 19, none, .idx 1 (.t 17) (.t 18)⟩, 
                ⟨some 20, none, .ld false 1 (.t 19)⟩, 
                ⟨some 21, none, .bin .neq (.t 16) (.t 20)⟩])
            (.cond (.t 21)
            (.seq (.dreg [⟨some 22, none, .mv (.t 0)⟩, 
                  ⟨some 23, none, .mv (.t 5)⟩, 
                  ⟨some 24, none, .idx 1 (.t 22) (.t 23)⟩, 
                  ⟨some 25, none, .ld false 1 (.t 24)⟩, 
                  ⟨some 26, none, .mv (.t 1)⟩, 
                  ⟨some 27, none, .mv (.t 5)⟩, 
                  ⟨some 28, none, .idx 1 (.t 26) (.t 27)⟩, 
                  ⟨some 29, none, .ld false 1 (.t 28)⟩, 
                  ⟨some 30, none, .bin .gtr (.t 25) (.t 29)⟩, 
                  ⟨some 4, none, .mv (.t 30)⟩])
              (.ret))
            (.skip))))
        (.reg [⟨some 11, none, .mv (.t 5)⟩, 
          ⟨some 12, none, .bin .sub (.t 11) (.k (.i .i64 1))⟩, 
          ⟨some 5, none, .mv (.t 12)⟩]))))))
  (.seq (.reg [⟨some 4, none, .mv (.k (.b true))⟩])
  (.ret)))
theorem least_spec (x y : List Nat) (hx : Lt 256 x) (hy : Lt 256 y) (hl : x.length = y.length) (lx : x.length ≤ 1000000000000) :
    AFun Try.prog J0 60 [.l 1 (D x), .l 1 (D y)] (.b (decide (nv 256 y ≤ nv 256 x))) := by
  refine AFun.mk fol J0s Try.func60 rfl (ac := a60) (by kernel_rfl) rfl rfl ?_
  apply vm_start
  unfold a60
  simp only [init_eq, initE]
  repeat first
    | (refine hK _ ?_; clear hK K)
    | ((first | refine vm_reg (fun K hK => ?_) | refine vm_dreg (fun K hK => ?_) | refine vm_dregx (fun K hK => ?_)); simp (disch := (first | omega | assumption)) only [S1, ↓reduceIte, Nat.reduceEqDiff, Nat.reduceAdd, Nat.reduceMul, Nat.reduceDiv, AOp.sb, AOp.mut, ↓Bool.false_eq_true, beq_self_eq_true, ite_self, Nat.reduceLeDiff, Int.reduceEq, Int.reduceSub, Int.reduceAdd, Int.reduceNeg, Int.reduceLT, Int.reduceLE, Nat.reduceLT, bz_R1]; refine hK _ ?_; clear hK K)
    | simp only [Sv, ↓reduceIte, Nat.reduceEqDiff]
  refine vm_loopA [] Nat (fun i => ⟨[(0, .l 1 (D x)), (1, .l 1 (D y)), (5, .i .i64 ((i : Int) - 1))], [], 0⟩) (fun i => i ≤ x.length ∧ ∀ j, i ≤ j → x.getD j 0 = y.getD j 0) (fun i => i) x.length
    ⟨Nat.le_refl _, fun j hj => by rw [List.getD_eq_getElem?_getD, List.getD_eq_getElem?_getD, List.getElem?_eq_none hj, List.getElem?_eq_none (by omega)]⟩ (by simp (disch := (first | omega | assumption)) only [Sl, Sa, Sw, ↓reduceIte, Nat.reduceEqDiff, Nat.reduceLT, List.all_nil, List.all_cons, Nat.reduceBneDiff, Nat.reduceAdd, bne_iff_ne, ne_eq, reduceCtorEq, not_false_eq_true, not_true_eq_false, Bool.and_true, Bool.true_and, and_true, true_and, and_self]) (by
    simp (disch := (first | omega | assumption)) only [Sl, Sa, Sw, ↓reduceIte, Nat.reduceEqDiff, Nat.reduceLT, List.all_nil, List.all_cons, Nat.reduceBneDiff, Nat.reduceAdd, bne_iff_ne, ne_eq, reduceCtorEq, not_false_eq_true, not_true_eq_false, Bool.and_true, Bool.true_and, and_true, true_and, and_self, i_eq]
    try rfl) ?_
  intro i ⟨hi, hj⟩ Q' hQ he hr
  cases i with
  | zero =>
    have e := least_eq hl hj
    subst e
    repeat first
      | (refine hK _ ?_; clear hK K)
      | ((first | refine vm_reg (fun K hK => ?_) | refine vm_dreg (fun K hK => ?_) | refine vm_dregx (fun K hK => ?_)); simp (disch := (first | omega | assumption)) only [S1, ↓reduceIte, Nat.reduceEqDiff, Nat.reduceAdd, Nat.reduceMul, Nat.reduceDiv, AOp.sb, AOp.mut, ↓Bool.false_eq_true, beq_self_eq_true, ite_self, Nat.reduceLeDiff, Int.reduceEq, Int.reduceSub, Int.reduceAdd, Int.reduceNeg, Int.reduceLT, Int.reduceLE, Nat.reduceLT, bz_R1]; refine hK _ ?_; clear hK K)
      | simp only [Sv, ↓reduceIte, Nat.reduceEqDiff]
    refine he _ _ ?_
    repeat first | (refine hK _ ?_; clear hK K) | simp only [Sv, ↓reduceIte, Nat.reduceEqDiff] | ((first | refine vm_reg (fun K hK => ?_) | refine vm_dreg (fun K hK => ?_) | refine vm_dregx (fun K hK => ?_)); simp (disch := (first | omega | assumption)) only [S1, ↓reduceIte, Nat.reduceEqDiff, Nat.reduceAdd, Nat.reduceMul, Nat.reduceDiv, AOp.sb, AOp.mut, ↓Bool.false_eq_true, beq_self_eq_true, ite_self, Nat.reduceLeDiff, Int.reduceEq, Int.reduceSub, Int.reduceAdd, Int.reduceNeg, Int.reduceLT, Int.reduceLE, Nat.reduceLT, bz_R1, Nat.le_refl])
    simp (disch := (first | omega | assumption)) only [retOk, retN, ret1, retF, ret1F, V.okArg, and_true, true_and, S1, ↓reduceIte, Nat.reduceEqDiff, Nat.reduceAdd, Nat.reduceMul, Nat.reduceDiv, AOp.sb, AOp.mut, ↓Bool.false_eq_true, beq_self_eq_true, ite_self, Nat.reduceLeDiff, Int.reduceEq, Int.reduceSub, Int.reduceAdd, Int.reduceNeg, Int.reduceLT, Int.reduceLE, Nat.reduceLT, bz_R1, Nat.le_refl]
  | succ k =>
    have g1 : (0 : Int) ≤ ((k + 1 : Nat) : Int) - 1 := by omega
    have g2 : (((k + 1 : Nat) : Int) - 1).toNat = k := by omega
    by_cases h1 : x.getD k 0 = y.getD k 0
    · have h2 : (((x.getD k 0 : Nat) : Int) = ((y.getD k 0 : Nat) : Int)) = True := eq_true (by rw [h1])
      repeat first
        | (refine hK _ ?_; clear hK K)
        | ((first | refine vm_reg (fun K hK => ?_) | refine vm_dreg (fun K hK => ?_) | refine vm_dregx (fun K hK => ?_)); simp (disch := (first | omega | assumption)) only [S1, ↓reduceIte, Nat.reduceEqDiff, Nat.reduceAdd, Nat.reduceMul, Nat.reduceDiv, AOp.sb, AOp.mut, ↓Bool.false_eq_true, beq_self_eq_true, ite_self, Nat.reduceLeDiff, Int.reduceEq, Int.reduceSub, Int.reduceAdd, Int.reduceNeg, Int.reduceLT, Int.reduceLE, Nat.reduceLT, bz_R1, g1, g2, D_get, h2]; refine hK _ ?_; clear hK K)
        | simp only [Sv, ↓reduceIte, Nat.reduceEqDiff]
      refine hQ _ k ⟨by omega, fun j hk => ?_⟩ (by omega) ?_
      · rcases Nat.lt_or_ge k j with h3 | h3
        · exact hj j h3
        · obtain rfl : j = k := by omega
          exact h1
      · simp (disch := (first | omega | assumption)) only [Sl, Sa, Sw, ↓reduceIte, Nat.reduceEqDiff, Nat.reduceLT, List.all_nil, List.all_cons, Nat.reduceBneDiff, Nat.reduceAdd, bne_iff_ne, ne_eq, reduceCtorEq, not_false_eq_true, not_true_eq_false, Bool.and_true, Bool.true_and, and_true, true_and, and_self, i_eq]
        omega
    · have h2 : (((x.getD k 0 : Nat) : Int) = ((y.getD k 0 : Nat) : Int)) = False := eq_false (fun h => h1 (by omega))
      have e := least_of hx hy k hj h1
      have h3 : (((y.getD k 0 : Nat) : Int) < ((x.getD k 0 : Nat) : Int)) = (nv 256 y ≤ nv 256 x) := by rw [← e]; exact propext (by omega)
      repeat first
        | (refine hK _ ?_; clear hK K)
        | ((first | refine vm_reg (fun K hK => ?_) | refine vm_dreg (fun K hK => ?_) | refine vm_dregx (fun K hK => ?_)); simp (disch := (first | omega | assumption)) only [S1, ↓reduceIte, Nat.reduceEqDiff, Nat.reduceAdd, Nat.reduceMul, Nat.reduceDiv, AOp.sb, AOp.mut, ↓Bool.false_eq_true, beq_self_eq_true, ite_self, Nat.reduceLeDiff, Int.reduceEq, Int.reduceSub, Int.reduceAdd, Int.reduceNeg, Int.reduceLT, Int.reduceLE, Nat.reduceLT, bz_R1, g1, g2, D_get, h2]; refine hK _ ?_; clear hK K)
        | simp only [Sv, ↓reduceIte, Nat.reduceEqDiff]
      refine hr _ ?_
      repeat first | (refine hK _ ?_; clear hK K) | simp only [Sv, ↓reduceIte, Nat.reduceEqDiff] | ((first | refine vm_reg (fun K hK => ?_) | refine vm_dreg (fun K hK => ?_) | refine vm_dregx (fun K hK => ?_)); simp (disch := (first | omega | assumption)) only [S1, ↓reduceIte, Nat.reduceEqDiff, Nat.reduceAdd, Nat.reduceMul, Nat.reduceDiv, AOp.sb, AOp.mut, ↓Bool.false_eq_true, beq_self_eq_true, ite_self, Nat.reduceLeDiff, Int.reduceEq, Int.reduceSub, Int.reduceAdd, Int.reduceNeg, Int.reduceLT, Int.reduceLE, Nat.reduceLT, bz_R1, h3])
      simp (disch := (first | omega | assumption)) only [retOk, retN, ret1, retF, ret1F, V.okArg, and_true, true_and, S1, ↓reduceIte, Nat.reduceEqDiff, Nat.reduceAdd, Nat.reduceMul, Nat.reduceDiv, AOp.sb, AOp.mut, ↓Bool.false_eq_true, beq_self_eq_true, ite_self, Nat.reduceLeDiff, Int.reduceEq, Int.reduceSub, Int.reduceAdd, Int.reduceNeg, Int.reduceLT, Int.reduceLE, Nat.reduceLT, bz_R1, h3]

-- surd/surdref04.Quo
def a39 : AC := .seq (.reg [⟨some 4, none, .mv (.k .nl)⟩, 
      ⟨some 5, none, .mv (.k .nl)⟩, 
      ⟨some 6, none, .mv (.k (.i .i64 0))⟩])
  (.seq (.seq (.reg [⟨some 18, none, .mv (.t 1)⟩, 
        ⟨some 19, none, .call 58 [(1, (.t 18))]⟩])
    (.cond (.t 19)
    (.seq (.reg [⟨some 4, none, .mv (.k .nl)⟩, 
          ⟨some 5, none, .mv (.k .nl)⟩, 
          ⟨some 6, none, .mv (.k (.i .i64 1))⟩])
      (.ret))
    (.skip)))
  (.seq (.reg [⟨some 20, none, .bsl 3 1 0 [] []⟩, 
      ⟨some 21, none, .mv (.t 1)⟩, 
      ⟨some 22, none, .call 52 [(1, (.t 21))]⟩, 
      ⟨some 23, none, .app 3 1 8 (.t 20) (.t 22)⟩, 
      ⟨some 24, none, .bsl 3 1 1 [(.i .i64 0)] [(0, (.k (.i .i64 0)))]⟩, 
      ⟨some 25, none, .app 3 1 8 (.t 23) (.t 24)⟩, 
      ⟨some 7, none, .mv (.t 25)⟩])
  (.seq (.reg [⟨some 26, none, .mv (.t 0)⟩, 
      ⟨some 27, none, .call 59 [(1, (.t 26))]⟩, 
      ⟨some 8, none, .mv (.t 27)⟩])
  (.seq (.reg [⟨some 28, none, .mv (.t 8)⟩, 
      ⟨some 29, none, .len (.t 28)⟩, 
      ⟨some 30, none, .mk 4 1 1 [(.b false)] (.t 29) (.t 29)⟩, 
      ⟨some 9, none, .mv (.t 30)⟩])
  (.seq (.reg [⟨some 31, none, .mv (.t 7)⟩, 
      ⟨some 32, none, .len (.t 31)⟩, 
      ⟨some 33, none, .mk 3 1 8 [(.i .i64 0)] (.t 32) (.t 32)⟩, 
      ⟨some 10, none, .mv (.t 33)⟩])
  (.seq (.seq (.reg [⟨some 34, none, .mv (.t 8)⟩, 
        ⟨some 35, none, .len (.t 34)⟩, 
        ⟨some 36, none, .bin .sub (.t 35) (.k (.i .i64 1))⟩, 
        ⟨some 11, none, .mv (.t 36)⟩])
    (.blk 0
    (.loop
      (.seq (.seq (.reg [⟨some 37, none, .mv (.t 11)⟩, 
              ⟨some 38, none, .bin .geq (.t 37) (.k (.i .i64 0))⟩])
          (.cond (.t 38)
          (.skip)
          (.exit 0)))
        (.seq (.blk 1
          (.seq (.reg [⟨some 12, none, .mv (.k (.i .i64 0))⟩])
            (.seq (.seq (.reg [⟨some 41, none, .mv (.t 8)⟩, 
                  ⟨some 42, none, .mv (.t 11)⟩, 
                  ⟨some 43, none, .idx 1 (.t 41) (.t 42)⟩, 
                  ⟨some 44, none, .ld false 1 (.t 43)⟩])
              (.cond (.t 44)
              (.reg [⟨some 12, none, .mv (.k (.i .i64 1))⟩])
              (.skip)))
            (.seq (.seq (.reg [⟨some 13, none, .mv (.k (.i .i64 0))⟩])
              (.blk 2
              (.loop
                (.seq (.seq (.reg [⟨some 45, none, .mv (.t 13)⟩, 
                        ⟨some 46, none, .mv (.t 10)⟩, 
                        ⟨some 47, none, .len (.t 46)⟩, 
                        ⟨some 48, none, .bin .lss (.t 45) (.t 47)⟩])
                    (.cond (.t 48)
                    (.skip)
                    (.exit 2)))
                  (.seq (.blk 3
                    (.seq (.reg [⟨some 51, none, .mv (.t 10)⟩, 
                          ⟨some 52, none, .mv (.t 13)⟩, 
                          ⟨some 53, none, .idx 1 (.t 51) (.t 52)⟩, 
                          ⟨some 54, none, .ld false 1 (.t 53)⟩, 
                          ⟨some 55, none, .bin .mul (.k (.i .i64 2)) (.t 54)⟩, 
                          ⟨some 56, none, .mv (.t 12)⟩, 
                          ⟨some 57, none, .bin .add (.t 55) (.t 56)⟩, 
                          ⟨some 14, none, .mv (.t 57)⟩])
                      (.seq (.reg [⟨some 58, none, .mv (.t 10)⟩, 
                          ⟨some 59, none, .mv (.t 13)⟩, 
                          ⟨some 60, none, .mv (.t 14)⟩, 
                          ⟨some 61, none, .bin .rem (.t 60) (.k (.i .i64 256))⟩, 
                          ⟨some 62, none, .idx 1 (.t 58) (.t 59)⟩, 
                          ⟨none, none, .st 1 (.t 62) (.t 61)⟩])
                      (.reg [⟨some 63, none, .mv (.t 14)⟩, 
                        ⟨some 64, none, .bin .quo (.t 63) (.k (.i .i64 256))⟩, 
                        ⟨some 12, none, .mv (.t 64)⟩]))))
                  (.reg [⟨some 49, none, .mv (.t 13)⟩, 
                    ⟨some 50, none, .bin .add (.t 49) (.k (.i .i64 1))⟩, 
                    ⟨some 13, none, .mv (.t 50)⟩]))))))
            (.seq (.reg [⟨some 65, none, .mv (.t 10)⟩, 
                ⟨some 66, none, .mv (.t 7)⟩, 
                ⟨some 67, none, .call 60 [(1, (.t 65)), (1, (.t 66))]⟩])
            (.cond (.t 67)
            (.seq (.reg [⟨some 68, none, .mv (.t 9)⟩, 
                  ⟨some 69, none, .mv (.t 11)⟩, 
                  ⟨some 70, none, .idx 1 (.t 68) (.t 69)⟩, 
                  ⟨none, none, .st 1 (.t 70) (.k (.b true))⟩])
              (.seq (.reg [⟨some 15, none, .mv (.k (.i .i64 0))⟩])
              (.seq (.reg [⟨some 16, none, .mv (.k (.i .i64 0))⟩])
              (.blk 4
              (.loop
                (.seq (.seq (.reg [⟨some 71, none, .mv (.t 16)⟩, 
                        ⟨some 72, none, .mv (.t 10)⟩, 
                        ⟨some 73, none, .len (.t 72)⟩, 
                        ⟨some 74, none, .bin .lss (.t 71) (.t 73)⟩])
                    (.cond (.t 74)
                    (.skip)
                    (.exit 4)))
                  (.seq (.blk 5
                    (.seq (.dreg [⟨some 77, none, .mv (.t 10)⟩, 
                          ⟨some 78, none, .mv (.t 16)⟩, 
                          ⟨some 79, none, .idx 1 (.t 77) (.t 78)⟩, 
                          ⟨some 80, none, .ld false 1 (.t 79)⟩, 
                          ⟨some 81, none, .mv (.t 7)⟩, 
                          ⟨some 82, none, .mv (.t 16)⟩, 
                          ⟨some 83, none, .idx 1 (.t 81) (.t 82)⟩, 
                          ⟨some 84, none, .ld false 1 (.t 83)⟩, 
                          ⟨some 85, none, .bin .sub (.t 80) (.t 84)⟩, 
                          ⟨some 86, none, .mv (.t 15)⟩, 
                          ⟨some 87, none, .bin .sub (.t 85) (.t 86)⟩, 
                          ⟨some 17, none, .mv (.t 87)⟩])
                      (.seq (.reg [⟨some 15, none, .mv (.k (.i .i64 0))⟩])
                      (.seq (.seq (.reg [⟨some 88, none, .mv (.t 17)⟩, 
                            ⟨some 89, none, .bin .lss (.t 88) (.k (.i .i64 0))⟩])
                        (.cond (.t 89)
                        (.seq (.reg [⟨some 90, none, .mv (.t 17)⟩, 
                              ⟨some 91, none, .bin .add (.t 90) (.k (.i .i64 256))⟩, 
                              ⟨some 17, none, .mv (.t 91)⟩])
                          (.reg [⟨some 15, none, .mv (.k (.i .i64 1))⟩]))
                        (.skip)))
                      (.reg [⟨some 92, none, .mv (.t 10)⟩, 
                        ⟨some 93, none, .mv (.t 16)⟩, 
                        ⟨some 94, none, .mv (.t 17)⟩, 
                        ⟨some 95, none, .idx 1 (.t 92) (.t 93)⟩, 
                        ⟨none, none, .st 1 (.t 95) (.t 94)⟩])))))
                  (.reg [⟨some 75, none, .mv (.t 16)⟩, 
                    ⟨some 76, none, .bin .add (.t 75) (.k (.i .i64 1))⟩, 
                    ⟨some 16, none, .mv (.t 76)⟩]))))))))
            (.skip)))))))
        (.reg [⟨some 39, none, .mv (.t 11)⟩, 
          ⟨some 40, none, .bin .sub (.t 39) (.k (.i .i64 1))⟩, 
          ⟨some 11, none, .mv (.t 40)⟩]))))))
  (.seq (.reg [⟨some 96, none, .mv (.t 9)⟩, 
      ⟨some 97, none, .call 61 [(1, (.t 96))]⟩, 
      ⟨some 98, none, .mv (.t 10)⟩, 
      ⟨some 99, none, .call 51 [(1, (.t 98))]⟩, 
      ⟨some 4, none, .mv (.t 97)⟩, 
      ⟨some 5, none, .mv (.t 99)⟩, 
      ⟨some 6, none, .mv (.k (.i .i64 0))⟩])
  (.ret))))))))
theorem rquo_spec (a b : List Nat) (ha : Wd a) (hb : Wd b) (la : a.length ≤ 1000000000) (lb : b.length ≤ 1000000000) :
    AFun Try.prog J0 39 [.l 1 (W a), .l 1 (W b)] (.t [.l 1 (W (qQ (nv B a) (nv B b))), .l 1 (W (qR (nv B a) (nv B b))), .i .i64 (qE (nv B b))]) := by
  have hz := rzero_spec b hb (by omega)
  have hdl := dg256_len hb
  have hdg := digits_spec b hb (by omega)
  have hrl := dg2_len ha
  have hrow := row_spec a ha (by omega)
  have hrv : ∀ i, (dg 2 (nv B a)).getD i 0 = nv B a / 2 ^ i % 2 := fun i => by
    rw [nv_digit (b := 2) (by decide) (dg_Lt (by decide) _), nv_dg (by decide)]
  have hA : nv B a < 2 ^ (dg 2 (nv B a)).length := by
    have := nv_lt (dg_Lt (b := 2) (by decide) (nv B a)); rwa [nv_dg (by decide)] at this
  have hbv := nv_lt (dg_Lt (b := 256) (by decide) (nv B b))
  rw [nv_dg (by decide)] at hbv
  have hbn : nv 256 (dg 256 (nv B b) ++ [0]) = nv B b := by rw [nv_app, nv_one, nv_dg (by decide)]; omega
  have hbL : Lt 256 (dg 256 (nv B b) ++ [0]) := Lt_app.2 ⟨dg_Lt (by decide) _, fun x hx => by rw [List.mem_singleton] at hx; omega⟩
  have hbl : (dg 256 (nv B b) ++ [0]).length = (dg 256 (nv B b)).length + 1 := by simp
  generalize dg 256 (nv B b) = d at *
  generalize dg 2 (nv B a) = row at *
  generalize nv B a = A at *
  generalize nv B b = b' at *
  refine AFun.mk fol J0s Try.func39 rfl (ac := a39) (by kernel_rfl) rfl rfl ?_
  apply vm_start
  unfold a39
  simp only [init_eq, initE]
  by_cases h0 : b' = 0
  · subst h0
    rw [qQ_0, qR_0, qE_0]
    have zc3 := hz
    repeat first | (refine hK _ ?_; clear hK K) | simp only [Sv, ↓reduceIte, Nat.reduceEqDiff] | ((first | refine vm_reg (fun K hK => ?_) | refine vm_dreg (fun K hK => ?_) | refine vm_dregx (fun K hK => ?_) | refine clp_q ?_ | refine clq_mk (by assumption) ?_); simp (disch := (first | omega | assumption)) only [S1, ↓reduceIte, Nat.reduceEqDiff, Nat.reduceAdd, Nat.reduceMul, Nat.reduceDiv, AOp.sb, AOp.mut, ↓Bool.false_eq_true, beq_self_eq_true, ite_self, Nat.reduceLeDiff, Int.reduceEq, Int.reduceSub, Int.reduceAdd, Int.reduceNeg, Int.reduceLT, Int.reduceLE, Nat.reduceLT, bz_R1])
    simp (disch := (first | omega | assumption)) only [retOk, retN, ret1, retF, ret1F, V.okArg, and_true, true_and, S1, ↓reduceIte, Nat.reduceEqDiff, Nat.reduceAdd, Nat.reduceMul, Nat.reduceDiv, AOp.sb, AOp.mut, ↓Bool.false_eq_true, beq_self_eq_true, ite_self, Nat.reduceLeDiff, Int.reduceEq, Int.reduceSub, Int.reduceAdd, Int.reduceNeg, Int.reduceLT, Int.reduceLE, Nat.reduceLT, bz_R1]
  · have hb0 : 0 < b' := by omega
    rw [qE_p hb0, qR_p hb0]
    obtain ⟨n, hn⟩ : ∃ n, n = d.length + 1 := ⟨_, rfl⟩
    obtain ⟨y, hy⟩ : ∃ y, y = d ++ [0] := ⟨_, rfl⟩
    rw [← hy, ← hn] at hbl
    rw [← hy] at hbn hbL
    have hDy : D d ++ [V.i .i64 0] = D y := by rw [hy]; exact D_cat1 d 0
    have hb1 : 2 * b' ≤ 256 ^ n := by rw [hn, Nat.pow_succ]; omega
    have hyg : ∀ k, k < n → y.getD k 0 = b' / 256 ^ k % 256 := fun k _ => by rw [nv_digit (b := 256) (by decide) hbL, hbn]
    have hDl : ((d.length : Int) + 1) = (n : Int) := by omega
    have hn0 : (0 : Int) ≤ n := by omega
    have zc4 := hz
    have zc5 := hdg
    have zc6 := hrow
    repeat first | (refine hK _ ?_; clear hK K) | simp only [Sv, ↓reduceIte, Nat.reduceEqDiff] | ((first | refine vm_reg (fun K hK => ?_) | refine vm_dreg (fun K hK => ?_) | refine vm_dregx (fun K hK => ?_) | refine clp_q ?_ | refine clq_mk (by assumption) ?_); simp (disch := (first | omega | assumption)) only [S1, ↓reduceIte, Nat.reduceEqDiff, Nat.reduceAdd, Nat.reduceMul, Nat.reduceDiv, AOp.sb, AOp.mut, ↓Bool.false_eq_true, beq_self_eq_true, ite_self, Nat.reduceLeDiff, Int.reduceEq, Int.reduceSub, Int.reduceAdd, Int.reduceNeg, Int.reduceLT, Int.reduceLE, Nat.reduceLT, bz_R1, h0, D_cell, hDy, List.nil_append, hDl, hbl, mk_Bl, mk_D])
    obtain ⟨L, hL⟩ : ∃ L, L = row.length := ⟨_, rfl⟩
    rw [← hL] at hA
    have hLl : L ≤ 64 * 1000000000 := by omega
    have fln : ∀ v, (fl 256 n v).length = n := fun v => fl_len _ _
    have hyD : (D y).length = n := by rw [D_len, hbl]
    refine vm_loopA [] Nat (fun i => ⟨[(7, .ow 1 0 n), (8, .l 1 (Bl row)), (9, .ow 1 1 L), (10, .ow 1 2 n), (11, .i .i64 ((i : Int) - 1))],
        [(0, some ⟨3, 1, D y, true, false⟩), (1, some ⟨4, 1, Bl (qbL A b' L i), true, false⟩), (2, some ⟨3, 1, D (fl 256 n (A / 2 ^ i % b')), true, false⟩)], 3⟩)
      (fun i => i ≤ L) (fun i => i) L (Nat.le_refl _) (by simp (disch := (first | omega | assumption)) only [Sl, Sa, Sw, ↓reduceIte, Nat.reduceEqDiff, Nat.reduceLT, List.all_nil, List.all_cons, Nat.reduceBneDiff, Nat.reduceAdd, bne_iff_ne, ne_eq, reduceCtorEq, not_false_eq_true, not_true_eq_false, Bool.and_true, Bool.true_and, and_true, true_and, and_self]) (by
      simp (disch := (first | omega | assumption)) only [Sl, Sa, Sw, ↓reduceIte, Nat.reduceEqDiff, Nat.reduceLT, List.all_nil, List.all_cons, Nat.reduceBneDiff, Nat.reduceAdd, bne_iff_ne, ne_eq, reduceCtorEq, not_false_eq_true, not_true_eq_false, Bool.and_true, Bool.true_and, and_true, true_and, and_self, i_eq]
      have z1 : Bl (List.replicate row.length 0) = Bl (qbL A b' L L) := by unfold qbL; rw [Nat.sub_self, fl, List.append_nil, hL]
      have z2 : D (List.replicate n 0) = D (fl 256 n (A / 2 ^ L % b')) := by rw [Nat.div_eq_of_lt hA, Nat.zero_mod, fl_zero]
      repeat' first | rfl | omega | (simp only [List.length_append, List.length_cons, List.length_nil]; done) | apply And.intro
      all_goals first | exact z1 | (rw [Nat.zero_add, ← hn]; exact z2)) ?_
    intro i hi Q' hQ he hr
    cases i with
    | zero =>
      have hq : nv 2 (qbL A b' L 0) = A / b' := by
        unfold qbL
        rw [List.replicate_zero, List.nil_append, nv_fl, Nat.pow_zero, Nat.div_one, Nat.sub_zero, Nat.mod_eq_of_lt (Nat.lt_of_le_of_lt (Nat.div_le_self _ _) hA)]
      have hql : Lt 2 (qbL A b' L 0) := by unfold qbL; rw [List.replicate_zero, List.nil_append]; exact fl_Lt (by decide) _ _
      have hor := ofRow_spec (qbL A b' L 0) hql (by rw [qbL_len (Nat.zero_le _)]; omega)
      rw [hq] at hor
      have hof := of_spec (fl 256 n (A / 2 ^ 0 % b')) (fl_Lt (by decide) _ _) (by rw [fln]; omega)
      have hrn : A % b' % 256 ^ n = A % b' := Nat.mod_eq_of_lt (by have := Nat.mod_lt A hb0; omega)
      rw [nv_fl, Nat.pow_zero, Nat.div_one, hrn] at hof
      rw [Nat.pow_zero, Nat.div_one]
      repeat first
        | (refine hK _ ?_; clear hK K)
        | ((first | refine vm_reg (fun K hK => ?_) | refine vm_dreg (fun K hK => ?_) | refine vm_dregx (fun K hK => ?_)); simp (disch := (first | omega | assumption)) only [S1, ↓reduceIte, Nat.reduceEqDiff, Nat.reduceAdd, Nat.reduceMul, Nat.reduceDiv, AOp.sb, AOp.mut, ↓Bool.false_eq_true, beq_self_eq_true, ite_self, Nat.reduceLeDiff, Int.reduceEq, Int.reduceSub, Int.reduceAdd, Int.reduceNeg, Int.reduceLT, Int.reduceLE, Nat.reduceLT, bz_R1]; refine hK _ ?_; clear hK K)
        | simp only [Sv, ↓reduceIte, Nat.reduceEqDiff]
      refine he _ _ ?_
      have zc7 := hor
      have zc8 := hof
      repeat first | (refine hK _ ?_; clear hK K) | simp only [Sv, ↓reduceIte, Nat.reduceEqDiff] | ((first | refine vm_reg (fun K hK => ?_) | refine vm_dreg (fun K hK => ?_) | refine vm_dregx (fun K hK => ?_) | refine clp_q ?_ | refine clq_mk (by assumption) ?_); simp (disch := (first | omega | assumption)) only [S1, ↓reduceIte, Nat.reduceEqDiff, Nat.reduceAdd, Nat.reduceMul, Nat.reduceDiv, AOp.sb, AOp.mut, ↓Bool.false_eq_true, beq_self_eq_true, ite_self, Nat.reduceLeDiff, Int.reduceEq, Int.reduceSub, Int.reduceAdd, Int.reduceNeg, Int.reduceLT, Int.reduceLE, Nat.reduceLT, bz_R1, qQ])
      simp (disch := (first | omega | assumption)) only [retOk, retN, ret1, retF, ret1F, V.okArg, and_true, true_and, S1, ↓reduceIte, Nat.reduceEqDiff, Nat.reduceAdd, Nat.reduceMul, Nat.reduceDiv, AOp.sb, AOp.mut, ↓Bool.false_eq_true, beq_self_eq_true, ite_self, Nat.reduceLeDiff, Int.reduceEq, Int.reduceSub, Int.reduceAdd, Int.reduceNeg, Int.reduceLT, Int.reduceLE, Nat.reduceLT, bz_R1, qQ]
    | succ k =>
      obtain ⟨R, hR⟩ : ∃ R, R = A / 2 ^ (k + 1) % b' := ⟨_, rfl⟩
      rw [← hR]
      have hRb : R < b' := by rw [hR]; exact Nat.mod_lt _ hb0
      have hk : (((k + 1 : Nat) : Int) - 1) = (k : Int) := by omega
      have hk0 : (0 : Int) ≤ (k : Int) := by omega
      have hkr : k < row.length := by omega
      have hsp := bit_split A k
      have hrk := hrv k
      rw [hk]
      by_cases hbit : row.getD k 0 = 1
      · have hbb : decide (row.getD k 0 = 1) = true := decide_eq_true hbit
        obtain ⟨c, hc⟩ : ∃ c : Nat, c = 1 := ⟨_, rfl⟩
        have hcI : (c : Int) = 1 := by omega
        have hc1 : c ≤ 1 := by omega
        rw [hrk, ← hc] at hbit
        obtain ⟨qb1, qb2⟩ := quo_bit (V := A / 2 ^ (k + 1)) (b := b') (c := c) hb0 hc1
        have hsp' : 2 * (A / 2 ^ (k + 1)) + c = A / 2 ^ k := by omega
        rw [hsp', ← hR] at qb1 qb2
        obtain ⟨X, hX⟩ : ∃ X, X = 2 * R + c := ⟨_, rfl⟩
        have hXn : X < 256 ^ n := by omega
        rw [← hX] at qb1 qb2
        have hle := least_spec (fl 256 n X) y (fl_Lt (by decide) _ _) hbL (by rw [fln, hbl]) (by rw [fln]; omega)
        rw [hbn, nv_fl, Nat.mod_eq_of_lt hXn] at hle
        repeat first
          | (refine hK _ ?_; clear hK K)
          | ((first | refine vm_reg (fun K hK => ?_) | refine vm_dreg (fun K hK => ?_) | refine vm_dregx (fun K hK => ?_)); simp (disch := (first | omega | assumption)) only [S1, ↓reduceIte, Nat.reduceEqDiff, Nat.reduceAdd, Nat.reduceMul, Nat.reduceDiv, AOp.sb, AOp.mut, ↓Bool.false_eq_true, beq_self_eq_true, ite_self, Nat.reduceLeDiff, Int.reduceEq, Int.reduceSub, Int.reduceAdd, Int.reduceNeg, Int.reduceLT, Int.reduceLE, Nat.reduceLT, bz_R1, hk0, Bl_get, hbb]; refine hK _ ?_; clear hK K)
          | simp only [Sv, ↓reduceIte, Nat.reduceEqDiff]
        refine vm_loopA [] Nat (fun j => ⟨[(7, .ow 1 0 n), (8, .l 1 (Bl row)), (9, .ow 1 1 L), (10, .ow 1 2 n), (11, .i .i64 (k : Int)), (12, .i .i64 ((dbC R c j : Nat) : Int)), (13, .i .i64 (j : Int))],
            [(0, some ⟨3, 1, D y, true, false⟩), (1, some ⟨4, 1, Bl (qbL A b' L (k + 1)), true, false⟩), (2, some ⟨3, 1, D (dbL n R c j), true, false⟩)], 3⟩)
          (fun j => j ≤ n) (fun j => n - j) 0 (Nat.zero_le _) (by simp (disch := (first | omega | assumption)) only [Sl, Sa, Sw, ↓reduceIte, Nat.reduceEqDiff, Nat.reduceLT, List.all_nil, List.all_cons, Nat.reduceBneDiff, Nat.reduceAdd, bne_iff_ne, ne_eq, reduceCtorEq, not_false_eq_true, not_true_eq_false, Bool.and_true, Bool.true_and, and_true, true_and, and_self]) (by
          simp (disch := (first | omega | assumption)) only [Sl, Sa, Sw, ↓reduceIte, Nat.reduceEqDiff, Nat.reduceLT, List.all_nil, List.all_cons, Nat.reduceBneDiff, Nat.reduceAdd, bne_iff_ne, ne_eq, reduceCtorEq, not_false_eq_true, not_true_eq_false, Bool.and_true, Bool.true_and, and_true, true_and, and_self, i_eq]
          rw [dbC_0, dbL_0]
          repeat' first | rfl | omega | (simp only [List.length_append, List.length_cons, List.length_nil]; done) | apply And.intro) ?_
        intro j hj Q'' hQ' he' hr'
        by_cases hjn : (j : Int) < n
        · have hjn' : j < n := by omega
          have g1 := dbL_len (n := n) (R := R) (c := c) (k := j) (by omega)
          have g2 := dbL_get (n := n) (R := R) (c := c) hjn'
          have g3 := dbL_set (n := n) (R := R) (c := c) hjn'
          have g4 := dbC_succ (R := R) (c := c) (k := j)
          have g5 := dbC_lt (R := R) (k := j) hc1
          have g6 : R / 256 ^ j % 256 < 256 := Nat.mod_lt _ (by decide)
          obtain ⟨x, hx⟩ : ∃ x, x = R / 256 ^ j % 256 := ⟨_, rfl⟩
          obtain ⟨s, hs⟩ : ∃ s, s = dbC R c j := ⟨_, rfl⟩
          rw [← hx] at g2 g3 g4 g6
          rw [← hs] at g3 g4 g5 ⊢
          have hsum : (2 : Int) * (x : Int) + (s : Int) = ((2 * x + s : Nat) : Int) := by omega
          obtain ⟨t, ht⟩ : ∃ t, t = 2 * x + s := ⟨_, rfl⟩
          rw [← ht] at g3 g4 hsum
          repeat first
            | (refine hK _ ?_; clear hK K)
            | ((first | refine vm_reg (fun K hK => ?_) | refine vm_dreg (fun K hK => ?_) | refine vm_dregx (fun K hK => ?_)); simp (disch := (first | omega | assumption)) only [S1, ↓reduceIte, Nat.reduceEqDiff, Nat.reduceAdd, Nat.reduceMul, Nat.reduceDiv, AOp.sb, AOp.mut, ↓Bool.false_eq_true, beq_self_eq_true, ite_self, Nat.reduceLeDiff, Int.reduceEq, Int.reduceSub, Int.reduceAdd, Int.reduceNeg, Int.reduceLT, Int.reduceLE, Nat.reduceLT, bz_R1, hjn, g1, D_get, g2, hsum, tmod_256, tdiv_256, D_set, g3]; refine hK _ ?_; clear hK K)
            | simp only [Sv, ↓reduceIte, Nat.reduceEqDiff]
          refine hQ' _ (j + 1) hjn' (by omega) ?_
          simp (disch := (first | omega | assumption)) only [Sl, Sa, Sw, ↓reduceIte, Nat.reduceEqDiff, Nat.reduceLT, List.all_nil, List.all_cons, Nat.reduceBneDiff, Nat.reduceAdd, bne_iff_ne, ne_eq, reduceCtorEq, not_false_eq_true, not_true_eq_false, Bool.and_true, Bool.true_and, and_true, true_and, and_self, i_eq]
          rw [← g4]
          repeat' first | rfl | omega | (simp only [List.length_append, List.length_cons, List.length_nil]; done) | apply And.intro
        · obtain rfl : j = n := by omega
          rw [dbL_n, ← hX]
          by_cases hbX : b' ≤ X
          · obtain ⟨r1, r2⟩ := qb1 hbX
            have hqs := qbL_succ (A := A) (b := b') (L := L) hi 1 (by rw [r1]; omega) (by rw [r1]; omega)
            have hdb : decide (b' ≤ X) = true := decide_eq_true hbX
            rw [hdb] at hle
            have hql := qbL_len (A := A) (b := b') hi
            repeat first
              | (refine hK _ ?_; clear hK K)
              | ((first | refine vm_reg (fun K hK => ?_) | refine vm_dreg (fun K hK => ?_) | refine vm_dregx (fun K hK => ?_)); simp (disch := (first | omega | assumption)) only [S1, ↓reduceIte, Nat.reduceEqDiff, Nat.reduceAdd, Nat.reduceMul, Nat.reduceDiv, AOp.sb, AOp.mut, ↓Bool.false_eq_true, beq_self_eq_true, ite_self, Nat.reduceLeDiff, Int.reduceEq, Int.reduceSub, Int.reduceAdd, Int.reduceNeg, Int.reduceLT, Int.reduceLE, Nat.reduceLT, bz_R1, hjn]; refine hK _ ?_; clear hK K)
              | simp only [Sv, ↓reduceIte, Nat.reduceEqDiff]
            refine he' _ _ ?_
            have zc9 := hle
            repeat first | (refine hK _ ?_; clear hK K) | simp only [Sv, ↓reduceIte, Nat.reduceEqDiff] | ((first | refine vm_reg (fun K hK => ?_) | refine vm_dreg (fun K hK => ?_) | refine vm_dregx (fun K hK => ?_) | refine clp_q ?_ | refine clq_mk (by assumption) ?_); simp (disch := (first | omega | assumption)) only [S1, ↓reduceIte, Nat.reduceEqDiff, Nat.reduceAdd, Nat.reduceMul, Nat.reduceDiv, AOp.sb, AOp.mut, ↓Bool.false_eq_true, beq_self_eq_true, ite_self, Nat.reduceLeDiff, Int.reduceEq, Int.reduceSub, Int.reduceAdd, Int.reduceNeg, Int.reduceLT, Int.reduceLE, Nat.reduceLT, bz_R1, hql, Bl_setT, hqs])
            refine vm_loopA [] Nat (fun m => ⟨[(7, .ow 1 0 j), (8, .l 1 (Bl row)), (9, .ow 1 1 L), (10, .ow 1 2 j), (11, .i .i64 (k : Int)), (15, .i .i64 ((sbC X b' m : Nat) : Int)), (16, .i .i64 (m : Int))],
                [(0, some ⟨3, 1, D y, true, false⟩), (1, some ⟨4, 1, Bl (qbL A b' L k), true, false⟩), (2, some ⟨3, 1, D (sbL j X b' m), true, false⟩)], 3⟩)
              (fun m => m ≤ j) (fun m => j - m) 0 (Nat.zero_le _) (by simp (disch := (first | omega | assumption)) only [Sl, Sa, Sw, ↓reduceIte, Nat.reduceEqDiff, Nat.reduceLT, List.all_nil, List.all_cons, Nat.reduceBneDiff, Nat.reduceAdd, bne_iff_ne, ne_eq, reduceCtorEq, not_false_eq_true, not_true_eq_false, Bool.and_true, Bool.true_and, and_true, true_and, and_self]) (by
              simp (disch := (first | omega | assumption)) only [Sl, Sa, Sw, ↓reduceIte, Nat.reduceEqDiff, Nat.reduceLT, List.all_nil, List.all_cons, Nat.reduceBneDiff, Nat.reduceAdd, bne_iff_ne, ne_eq, reduceCtorEq, not_false_eq_true, not_true_eq_false, Bool.and_true, Bool.true_and, and_true, true_and, and_self, i_eq]
              rw [sbC_0, sbL_0]
              repeat' first | rfl | omega | (simp only [List.length_append, List.length_cons, List.length_nil]; done) | apply And.intro) ?_
            intro m hm Q3 hQ3 he3 hr3
            by_cases hmn : (m : Int) < j
            · have hmn' : m < j := by omega
              have hb2 : b' < 256 ^ j := by omega
              have g1 := sbL_len (n := j) (R := X) (Y := b') (k := m) (by omega)
              have g2 := sbL_get (n := j) (R := X) (Y := b') hmn'
              have g3 := sbL_set (n := j) (R := X) hb2 hmn'
              have g4 := (sb_step (n := j) (R := X) hb2 hmn').2
              have g5 := sbC_le (R := X) (Y := b') (k := m)
              have g6 : X / 256 ^ m % 256 < 256 := Nat.mod_lt _ (by decide)
              have g7 : b' / 256 ^ m % 256 < 256 := Nat.mod_lt _ (by decide)
              have g8 := hyg m hmn'
              obtain ⟨x, hx⟩ : ∃ x, x = X / 256 ^ m % 256 := ⟨_, rfl⟩
              obtain ⟨z, hz⟩ : ∃ z, z = b' / 256 ^ m % 256 := ⟨_, rfl⟩
              obtain ⟨s, hs⟩ : ∃ s, s = sbC X b' m := ⟨_, rfl⟩
              rw [← hx] at g2 g3 g4 g6
              rw [← hz] at g3 g4 g7 g8
              rw [← hs] at g3 g4 g5 ⊢
              by_cases h2 : (x : Int) - (z : Int) - (s : Int) < 0
              · obtain ⟨d2, hd2⟩ : ∃ d2 : Nat, d2 = x + 256 - (z + s) := ⟨_, rfl⟩
                have hd3 : (x : Int) - (z : Int) - (s : Int) + 256 = (d2 : Int) := by omega
                rw [show (x + 256 - (z + s)) % 256 = d2 from by omega] at g3
                rw [if_pos (by omega)] at g4
                repeat first
                  | (refine hK _ ?_; clear hK K)
                  | ((first | refine vm_reg (fun K hK => ?_) | refine vm_dreg (fun K hK => ?_) | refine vm_dregx (fun K hK => ?_)); simp (disch := (first | omega | assumption)) only [S1, ↓reduceIte, Nat.reduceEqDiff, Nat.reduceAdd, Nat.reduceMul, Nat.reduceDiv, AOp.sb, AOp.mut, ↓Bool.false_eq_true, beq_self_eq_true, ite_self, Nat.reduceLeDiff, Int.reduceEq, Int.reduceSub, Int.reduceAdd, Int.reduceNeg, Int.reduceLT, Int.reduceLE, Nat.reduceLT, bz_R1, hmn, g1, hbl, D_get, g2, g8, h2, hd3, D_set, g3]; refine hK _ ?_; clear hK K)
                  | simp only [Sv, ↓reduceIte, Nat.reduceEqDiff]
                refine hQ3 _ (m + 1) hmn' (by omega) ?_
                simp (disch := (first | omega | assumption)) only [Sl, Sa, Sw, ↓reduceIte, Nat.reduceEqDiff, Nat.reduceLT, List.all_nil, List.all_cons, Nat.reduceBneDiff, Nat.reduceAdd, bne_iff_ne, ne_eq, reduceCtorEq, not_false_eq_true, not_true_eq_false, Bool.and_true, Bool.true_and, and_true, true_and, and_self, i_eq]
                rw [g4]
                repeat' first | rfl | omega | (simp only [List.length_append, List.length_cons, List.length_nil]; done) | apply And.intro
              · obtain ⟨d2, hd2⟩ : ∃ d2 : Nat, d2 = x - (z + s) := ⟨_, rfl⟩
                have hd3 : (x : Int) - (z : Int) - (s : Int) = (d2 : Int) := by omega
                rw [show (x + 256 - (z + s)) % 256 = d2 from by omega] at g3
                rw [if_neg (by omega)] at g4
                rw [hd3] at h2
                repeat first
                  | (refine hK _ ?_; clear hK K)
                  | ((first | refine vm_reg (fun K hK => ?_) | refine vm_dreg (fun K hK => ?_) | refine vm_dregx (fun K hK => ?_)); simp (disch := (first | omega | assumption)) only [S1, ↓reduceIte, Nat.reduceEqDiff, Nat.reduceAdd, Nat.reduceMul, Nat.reduceDiv, AOp.sb, AOp.mut, ↓Bool.false_eq_true, beq_self_eq_true, ite_self, Nat.reduceLeDiff, Int.reduceEq, Int.reduceSub, Int.reduceAdd, Int.reduceNeg, Int.reduceLT, Int.reduceLE, Nat.reduceLT, bz_R1, hmn, g1, hbl, D_get, g2, g8, h2, hd3, D_set, g3]; refine hK _ ?_; clear hK K)
                  | simp only [Sv, ↓reduceIte, Nat.reduceEqDiff]
                refine hQ3 _ (m + 1) hmn' (by omega) ?_
                simp (disch := (first | omega | assumption)) only [Sl, Sa, Sw, ↓reduceIte, Nat.reduceEqDiff, Nat.reduceLT, List.all_nil, List.all_cons, Nat.reduceBneDiff, Nat.reduceAdd, bne_iff_ne, ne_eq, reduceCtorEq, not_false_eq_true, not_true_eq_false, Bool.and_true, Bool.true_and, and_true, true_and, and_self, i_eq]
                rw [g4]
                repeat' first | rfl | omega | (simp only [List.length_append, List.length_cons, List.length_nil]; done) | apply And.intro
            · obtain rfl : m = j := by omega
              rw [sbL_n hbX, ← r2]
              repeat first
                | (refine hK _ ?_; clear hK K)
                | ((first | refine vm_reg (fun K hK => ?_) | refine vm_dreg (fun K hK => ?_) | refine vm_dregx (fun K hK => ?_)); simp (disch := (first | omega | assumption)) only [S1, ↓reduceIte, Nat.reduceEqDiff, Nat.reduceAdd, Nat.reduceMul, Nat.reduceDiv, AOp.sb, AOp.mut, ↓Bool.false_eq_true, beq_self_eq_true, ite_self, Nat.reduceLeDiff, Int.reduceEq, Int.reduceSub, Int.reduceAdd, Int.reduceNeg, Int.reduceLT, Int.reduceLE, Nat.reduceLT, bz_R1, hmn]; refine hK _ ?_; clear hK K)
                | simp only [Sv, ↓reduceIte, Nat.reduceEqDiff]
              refine he3 _ _ ?_
              repeat first
                | (refine hK _ ?_; clear hK K)
                | ((first | refine vm_reg (fun K hK => ?_) | refine vm_dreg (fun K hK => ?_) | refine vm_dregx (fun K hK => ?_)); simp (disch := (first | omega | assumption)) only [S1, ↓reduceIte, Nat.reduceEqDiff, Nat.reduceAdd, Nat.reduceMul, Nat.reduceDiv, AOp.sb, AOp.mut, ↓Bool.false_eq_true, beq_self_eq_true, ite_self, Nat.reduceLeDiff, Int.reduceEq, Int.reduceSub, Int.reduceAdd, Int.reduceNeg, Int.reduceLT, Int.reduceLE, Nat.reduceLT, bz_R1]; refine hK _ ?_; clear hK K)
                | simp only [Sv, ↓reduceIte, Nat.reduceEqDiff]
              refine hQ _ k (by omega) (by omega) ?_
              simp (disch := (first | omega | assumption)) only [Sl, Sa, Sw, ↓reduceIte, Nat.reduceEqDiff, Nat.reduceLT, List.all_nil, List.all_cons, Nat.reduceBneDiff, Nat.reduceAdd, bne_iff_ne, ne_eq, reduceCtorEq, not_false_eq_true, not_true_eq_false, Bool.and_true, Bool.true_and, and_true, true_and, and_self, i_eq]
              repeat' first | rfl | omega | (simp only [List.length_append, List.length_cons, List.length_nil]; done) | apply And.intro
          · obtain ⟨r1, r2⟩ := qb2 (Nat.lt_of_not_le hbX)
            have hqs := qbL_same (A := A) (b := b') (L := L) hi (by rw [r1]; omega) (by rw [r1]; omega)
            have hdb : decide (b' ≤ X) = false := decide_eq_false hbX
            rw [hdb] at hle
            rw [hqs]
            repeat first
              | (refine hK _ ?_; clear hK K)
              | ((first | refine vm_reg (fun K hK => ?_) | refine vm_dreg (fun K hK => ?_) | refine vm_dregx (fun K hK => ?_)); simp (disch := (first | omega | assumption)) only [S1, ↓reduceIte, Nat.reduceEqDiff, Nat.reduceAdd, Nat.reduceMul, Nat.reduceDiv, AOp.sb, AOp.mut, ↓Bool.false_eq_true, beq_self_eq_true, ite_self, Nat.reduceLeDiff, Int.reduceEq, Int.reduceSub, Int.reduceAdd, Int.reduceNeg, Int.reduceLT, Int.reduceLE, Nat.reduceLT, bz_R1, hjn]; refine hK _ ?_; clear hK K)
              | simp only [Sv, ↓reduceIte, Nat.reduceEqDiff]
            refine he' _ _ ?_
            have zc10 := hle
            repeat first | (refine hK _ ?_; clear hK K) | simp only [Sv, ↓reduceIte, Nat.reduceEqDiff] | ((first | refine vm_reg (fun K hK => ?_) | refine vm_dreg (fun K hK => ?_) | refine vm_dregx (fun K hK => ?_) | refine clp_q ?_ | refine clq_mk (by assumption) ?_); simp (disch := (first | omega | assumption)) only [S1, ↓reduceIte, Nat.reduceEqDiff, Nat.reduceAdd, Nat.reduceMul, Nat.reduceDiv, AOp.sb, AOp.mut, ↓Bool.false_eq_true, beq_self_eq_true, ite_self, Nat.reduceLeDiff, Int.reduceEq, Int.reduceSub, Int.reduceAdd, Int.reduceNeg, Int.reduceLT, Int.reduceLE, Nat.reduceLT, bz_R1])
            refine hQ _ k (by omega) (by omega) ?_
            simp (disch := (first | omega | assumption)) only [Sl, Sa, Sw, ↓reduceIte, Nat.reduceEqDiff, Nat.reduceLT, List.all_nil, List.all_cons, Nat.reduceBneDiff, Nat.reduceAdd, bne_iff_ne, ne_eq, reduceCtorEq, not_false_eq_true, not_true_eq_false, Bool.and_true, Bool.true_and, and_true, true_and, and_self, i_eq]
            rw [r2]
            repeat' first | rfl | omega | (simp only [List.length_append, List.length_cons, List.length_nil]; done) | apply And.intro
      · have hbb : decide (row.getD k 0 = 1) = false := decide_eq_false hbit
        replace hbit : row.getD k 0 = 0 := by have := hrk; omega
        obtain ⟨c, hc⟩ : ∃ c : Nat, c = 0 := ⟨_, rfl⟩
        have hcI : (c : Int) = 0 := by omega
        have hc1 : c ≤ 1 := by omega
        rw [hrk, ← hc] at hbit
        obtain ⟨qb1, qb2⟩ := quo_bit (V := A / 2 ^ (k + 1)) (b := b') (c := c) hb0 hc1
        have hsp' : 2 * (A / 2 ^ (k + 1)) + c = A / 2 ^ k := by omega
        rw [hsp', ← hR] at qb1 qb2
        obtain ⟨X, hX⟩ : ∃ X, X = 2 * R + c := ⟨_, rfl⟩
        have hXn : X < 256 ^ n := by omega
        rw [← hX] at qb1 qb2
        have hle := least_spec (fl 256 n X) y (fl_Lt (by decide) _ _) hbL (by rw [fln, hbl]) (by rw [fln]; omega)
        rw [hbn, nv_fl, Nat.mod_eq_of_lt hXn] at hle
        repeat first
          | (refine hK _ ?_; clear hK K)
          | ((first | refine vm_reg (fun K hK => ?_) | refine vm_dreg (fun K hK => ?_) | refine vm_dregx (fun K hK => ?_)); simp (disch := (first | omega | assumption)) only [S1, ↓reduceIte, Nat.reduceEqDiff, Nat.reduceAdd, Nat.reduceMul, Nat.reduceDiv, AOp.sb, AOp.mut, ↓Bool.false_eq_true, beq_self_eq_true, ite_self, Nat.reduceLeDiff, Int.reduceEq, Int.reduceSub, Int.reduceAdd, Int.reduceNeg, Int.reduceLT, Int.reduceLE, Nat.reduceLT, bz_R1, hk0, Bl_get, hbb]; refine hK _ ?_; clear hK K)
          | simp only [Sv, ↓reduceIte, Nat.reduceEqDiff]
        refine vm_loopA [] Nat (fun j => ⟨[(7, .ow 1 0 n), (8, .l 1 (Bl row)), (9, .ow 1 1 L), (10, .ow 1 2 n), (11, .i .i64 (k : Int)), (12, .i .i64 ((dbC R c j : Nat) : Int)), (13, .i .i64 (j : Int))],
            [(0, some ⟨3, 1, D y, true, false⟩), (1, some ⟨4, 1, Bl (qbL A b' L (k + 1)), true, false⟩), (2, some ⟨3, 1, D (dbL n R c j), true, false⟩)], 3⟩)
          (fun j => j ≤ n) (fun j => n - j) 0 (Nat.zero_le _) (by simp (disch := (first | omega | assumption)) only [Sl, Sa, Sw, ↓reduceIte, Nat.reduceEqDiff, Nat.reduceLT, List.all_nil, List.all_cons, Nat.reduceBneDiff, Nat.reduceAdd, bne_iff_ne, ne_eq, reduceCtorEq, not_false_eq_true, not_true_eq_false, Bool.and_true, Bool.true_and, and_true, true_and, and_self]) (by
          simp (disch := (first | omega | assumption)) only [Sl, Sa, Sw, ↓reduceIte, Nat.reduceEqDiff, Nat.reduceLT, List.all_nil, List.all_cons, Nat.reduceBneDiff, Nat.reduceAdd, bne_iff_ne, ne_eq, reduceCtorEq, not_false_eq_true, not_true_eq_false, Bool.and_true, Bool.true_and, and_true, true_and, and_self, i_eq]
          rw [dbC_0, dbL_0]
          repeat' first | rfl | omega | (simp only [List.length_append, List.length_cons, List.length_nil]; done) | apply And.intro) ?_
        intro j hj Q'' hQ' he' hr'
        by_cases hjn : (j : Int) < n
        · have hjn' : j < n := by omega
          have g1 := dbL_len (n := n) (R := R) (c := c) (k := j) (by omega)
          have g2 := dbL_get (n := n) (R := R) (c := c) hjn'
          have g3 := dbL_set (n := n) (R := R) (c := c) hjn'
          have g4 := dbC_succ (R := R) (c := c) (k := j)
          have g5 := dbC_lt (R := R) (k := j) hc1
          have g6 : R / 256 ^ j % 256 < 256 := Nat.mod_lt _ (by decide)
          obtain ⟨x, hx⟩ : ∃ x, x = R / 256 ^ j % 256 := ⟨_, rfl⟩
          obtain ⟨s, hs⟩ : ∃ s, s = dbC R c j := ⟨_, rfl⟩
          rw [← hx] at g2 g3 g4 g6
          rw [← hs] at g3 g4 g5 ⊢
          have hsum : (2 : Int) * (x : Int) + (s : Int) = ((2 * x + s : Nat) : Int) := by omega
          obtain ⟨t, ht⟩ : ∃ t, t = 2 * x + s := ⟨_, rfl⟩
          rw [← ht] at g3 g4 hsum
          repeat first
            | (refine hK _ ?_; clear hK K)
            | ((first | refine vm_reg (fun K hK => ?_) | refine vm_dreg (fun K hK => ?_) | refine vm_dregx (fun K hK => ?_)); simp (disch := (first | omega | assumption)) only [S1, ↓reduceIte, Nat.reduceEqDiff, Nat.reduceAdd, Nat.reduceMul, Nat.reduceDiv, AOp.sb, AOp.mut, ↓Bool.false_eq_true, beq_self_eq_true, ite_self, Nat.reduceLeDiff, Int.reduceEq, Int.reduceSub, Int.reduceAdd, Int.reduceNeg, Int.reduceLT, Int.reduceLE, Nat.reduceLT, bz_R1, hjn, g1, D_get, g2, hsum, tmod_256, tdiv_256, D_set, g3]; refine hK _ ?_; clear hK K)
            | simp only [Sv, ↓reduceIte, Nat.reduceEqDiff]
          refine hQ' _ (j + 1) hjn' (by omega) ?_
          simp (disch := (first | omega | assumption)) only [Sl, Sa, Sw, ↓reduceIte, Nat.reduceEqDiff, Nat.reduceLT, List.all_nil, List.all_cons, Nat.reduceBneDiff, Nat.reduceAdd, bne_iff_ne, ne_eq, reduceCtorEq, not_false_eq_true, not_true_eq_false, Bool.and_true, Bool.true_and, and_true, true_and, and_self, i_eq]
          rw [← g4]
          repeat' first | rfl | omega | (simp only [List.length_append, List.length_cons, List.length_nil]; done) | apply And.intro
        · obtain rfl : j = n := by omega
          rw [dbL_n, ← hX]
          by_cases hbX : b' ≤ X
          · obtain ⟨r1, r2⟩ := qb1 hbX
            have hqs := qbL_succ (A := A) (b := b') (L := L) hi 1 (by rw [r1]; omega) (by rw [r1]; omega)
            have hdb : decide (b' ≤ X) = true := decide_eq_true hbX
            rw [hdb] at hle
            have hql := qbL_len (A := A) (b := b') hi
            repeat first
              | (refine hK _ ?_; clear hK K)
              | ((first | refine vm_reg (fun K hK => ?_) | refine vm_dreg (fun K hK => ?_) | refine vm_dregx (fun K hK => ?_)); simp (disch := (first | omega | assumption)) only [S1, ↓reduceIte, Nat.reduceEqDiff, Nat.reduceAdd, Nat.reduceMul, Nat.reduceDiv, AOp.sb, AOp.mut, ↓Bool.false_eq_true, beq_self_eq_true, ite_self, Nat.reduceLeDiff, Int.reduceEq, Int.reduceSub, Int.reduceAdd, Int.reduceNeg, Int.reduceLT, Int.reduceLE, Nat.reduceLT, bz_R1, hjn]; refine hK _ ?_; clear hK K)
              | simp only [Sv, ↓reduceIte, Nat.reduceEqDiff]
            refine he' _ _ ?_
            have zc11 := hle
            repeat first | (refine hK _ ?_; clear hK K) | simp only [Sv, ↓reduceIte, Nat.reduceEqDiff] | ((first | refine vm_reg (fun K hK => ?_) | refine vm_dreg (fun K hK => ?_) | refine vm_dregx (fun K hK => ?_) | refine clp_q ?_ | refine clq_mk (by assumption) ?_); simp (disch := (first | omega | assumption)) only [S1, ↓reduceIte, Nat.reduceEqDiff, Nat.reduceAdd, Nat.reduceMul, Nat.reduceDiv, AOp.sb, AOp.mut, ↓Bool.false_eq_true, beq_self_eq_true, ite_self, Nat.reduceLeDiff, Int.reduceEq, Int.reduceSub, Int.reduceAdd, Int.reduceNeg, Int.reduceLT, Int.reduceLE, Nat.reduceLT, bz_R1, hql, Bl_setT, hqs])
            refine vm_loopA [] Nat (fun m => ⟨[(7, .ow 1 0 j), (8, .l 1 (Bl row)), (9, .ow 1 1 L), (10, .ow 1 2 j), (11, .i .i64 (k : Int)), (15, .i .i64 ((sbC X b' m : Nat) : Int)), (16, .i .i64 (m : Int))],
                [(0, some ⟨3, 1, D y, true, false⟩), (1, some ⟨4, 1, Bl (qbL A b' L k), true, false⟩), (2, some ⟨3, 1, D (sbL j X b' m), true, false⟩)], 3⟩)
              (fun m => m ≤ j) (fun m => j - m) 0 (Nat.zero_le _) (by simp (disch := (first | omega | assumption)) only [Sl, Sa, Sw, ↓reduceIte, Nat.reduceEqDiff, Nat.reduceLT, List.all_nil, List.all_cons, Nat.reduceBneDiff, Nat.reduceAdd, bne_iff_ne, ne_eq, reduceCtorEq, not_false_eq_true, not_true_eq_false, Bool.and_true, Bool.true_and, and_true, true_and, and_self]) (by
              simp (disch := (first | omega | assumption)) only [Sl, Sa, Sw, ↓reduceIte, Nat.reduceEqDiff, Nat.reduceLT, List.all_nil, List.all_cons, Nat.reduceBneDiff, Nat.reduceAdd, bne_iff_ne, ne_eq, reduceCtorEq, not_false_eq_true, not_true_eq_false, Bool.and_true, Bool.true_and, and_true, true_and, and_self, i_eq]
              rw [sbC_0, sbL_0]
              repeat' first | rfl | omega | (simp only [List.length_append, List.length_cons, List.length_nil]; done) | apply And.intro) ?_
            intro m hm Q3 hQ3 he3 hr3
            by_cases hmn : (m : Int) < j
            · have hmn' : m < j := by omega
              have hb2 : b' < 256 ^ j := by omega
              have g1 := sbL_len (n := j) (R := X) (Y := b') (k := m) (by omega)
              have g2 := sbL_get (n := j) (R := X) (Y := b') hmn'
              have g3 := sbL_set (n := j) (R := X) hb2 hmn'
              have g4 := (sb_step (n := j) (R := X) hb2 hmn').2
              have g5 := sbC_le (R := X) (Y := b') (k := m)
              have g6 : X / 256 ^ m % 256 < 256 := Nat.mod_lt _ (by decide)
              have g7 : b' / 256 ^ m % 256 < 256 := Nat.mod_lt _ (by decide)
              have g8 := hyg m hmn'
              obtain ⟨x, hx⟩ : ∃ x, x = X / 256 ^ m % 256 := ⟨_, rfl⟩
              obtain ⟨z, hz⟩ : ∃ z, z = b' / 256 ^ m % 256 := ⟨_, rfl⟩
              obtain ⟨s, hs⟩ : ∃ s, s = sbC X b' m := ⟨_, rfl⟩
              rw [← hx] at g2 g3 g4 g6
              rw [← hz] at g3 g4 g7 g8
              rw [← hs] at g3 g4 g5 ⊢
              by_cases h2 : (x : Int) - (z : Int) - (s : Int) < 0
              · obtain ⟨d2, hd2⟩ : ∃ d2 : Nat, d2 = x + 256 - (z + s) := ⟨_, rfl⟩
                have hd3 : (x : Int) - (z : Int) - (s : Int) + 256 = (d2 : Int) := by omega
                rw [show (x + 256 - (z + s)) % 256 = d2 from by omega] at g3
                rw [if_pos (by omega)] at g4
                repeat first
                  | (refine hK _ ?_; clear hK K)
                  | ((first | refine vm_reg (fun K hK => ?_) | refine vm_dreg (fun K hK => ?_) | refine vm_dregx (fun K hK => ?_)); simp (disch := (first | omega | assumption)) only [S1, ↓reduceIte, Nat.reduceEqDiff, Nat.reduceAdd, Nat.reduceMul, Nat.reduceDiv, AOp.sb, AOp.mut, ↓Bool.false_eq_true, beq_self_eq_true, ite_self, Nat.reduceLeDiff, Int.reduceEq, Int.reduceSub, Int.reduceAdd, Int.reduceNeg, Int.reduceLT, Int.reduceLE, Nat.reduceLT, bz_R1, hmn, g1, hbl, D_get, g2, g8, h2, hd3, D_set, g3]; refine hK _ ?_; clear hK K)
                  | simp only [Sv, ↓reduceIte, Nat.reduceEqDiff]
                refine hQ3 _ (m + 1) hmn' (by omega) ?_
                simp (disch := (first | omega | assumption)) only [Sl, Sa, Sw, ↓reduceIte, Nat.reduceEqDiff, Nat.reduceLT, List.all_nil, List.all_cons, Nat.reduceBneDiff, Nat.reduceAdd, bne_iff_ne, ne_eq, reduceCtorEq, not_false_eq_true, not_true_eq_false, Bool.and_true, Bool.true_and, and_true, true_and, and_self, i_eq]
                rw [g4]
                repeat' first | rfl | omega | (simp only [List.length_append, List.length_cons, List.length_nil]; done) | apply And.intro
              · obtain ⟨d2, hd2⟩ : ∃ d2 : Nat, d2 = x - (z + s) := ⟨_, rfl⟩
                have hd3 : (x : Int) - (z : Int) - (s : Int) = (d2 : Int) := by omega
                rw [show (x + 256 - (z + s)) % 256 = d2 from by omega] at g3
                rw [if_neg (by omega)] at g4
                rw [hd3] at h2
                repeat first
                  | (refine hK _ ?_; clear hK K)
                  | ((first | refine vm_reg (fun K hK => ?_) | refine vm_dreg (fun K hK => ?_) | refine vm_dregx (fun K hK => ?_)); simp (disch := (first | omega | assumption)) only [S1, ↓reduceIte, Nat.reduceEqDiff, Nat.reduceAdd, Nat.reduceMul, Nat.reduceDiv, AOp.sb, AOp.mut, ↓Bool.false_eq_true, beq_self_eq_true, ite_self, Nat.reduceLeDiff, Int.reduceEq, Int.reduceSub, Int.reduceAdd, Int.reduceNeg, Int.reduceLT, Int.reduceLE, Nat.reduceLT, bz_R1, hmn, g1, hbl, D_get, g2, g8, h2, hd3, D_set, g3]; refine hK _ ?_; clear hK K)
                  | simp only [Sv, ↓reduceIte, Nat.reduceEqDiff]
                refine hQ3 _ (m + 1) hmn' (by omega) ?_
                simp (disch := (first | omega | assumption)) only [Sl, Sa, Sw, ↓reduceIte, Nat.reduceEqDiff, Nat.reduceLT, List.all_nil, List.all_cons, Nat.reduceBneDiff, Nat.reduceAdd, bne_iff_ne, ne_eq, reduceCtorEq, not_false_eq_true, not_true_eq_false, Bool.and_true, Bool.true_and, and_true, true_and, and_self, i_eq]
                rw [g4]
                repeat' first | rfl | omega | (simp only [List.length_append, List.length_cons, List.length_nil]; done) | apply And.intro
            · obtain rfl : m = j := by omega
              rw [sbL_n hbX, ← r2]
              repeat first
                | (refine hK _ ?_; clear hK K)
                | ((first | refine vm_reg (fun K hK => ?_) | refine vm_dreg (fun K hK => ?_) | refine vm_dregx (fun K hK => ?_)); simp (disch := (first | omega | assumption)) only [S1, ↓reduceIte, Nat.reduceEqDiff, Nat.reduceAdd, Nat.reduceMul, Nat.reduceDiv, AOp.sb, AOp.mut, ↓Bool.false_eq_true, beq_self_eq_true, ite_self, Nat.reduceLeDiff, Int.reduceEq, Int.reduceSub, Int.reduceAdd, Int.reduceNeg, Int.reduceLT, Int.reduceLE, Nat.reduceLT, bz_R1, hmn]; refine hK _ ?_; clear hK K)
                | simp only [Sv, ↓reduceIte, Nat.reduceEqDiff]
              refine he3 _ _ ?_
              repeat first
                | (refine hK _ ?_; clear hK K)
                | ((first | refine vm_reg (fun K hK => ?_) | refine vm_dreg (fun K hK => ?_) | refine vm_dregx (fun K hK => ?_)); simp (disch := (first | omega | assumption)) only [S1, ↓reduceIte, Nat.reduceEqDiff, Nat.reduceAdd, Nat.reduceMul, Nat.reduceDiv, AOp.sb, AOp.mut, ↓Bool.false_eq_true, beq_self_eq_true, ite_self, Nat.reduceLeDiff, Int.reduceEq, Int.reduceSub, Int.reduceAdd, Int.reduceNeg, Int.reduceLT, Int.reduceLE, Nat.reduceLT, bz_R1]; refine hK _ ?_; clear hK K)
                | simp only [Sv, ↓reduceIte, Nat.reduceEqDiff]
              refine hQ _ k (by omega) (by omega) ?_
              simp (disch := (first | omega | assumption)) only [Sl, Sa, Sw, ↓reduceIte, Nat.reduceEqDiff, Nat.reduceLT, List.all_nil, List.all_cons, Nat.reduceBneDiff, Nat.reduceAdd, bne_iff_ne, ne_eq, reduceCtorEq, not_false_eq_true, not_true_eq_false, Bool.and_true, Bool.true_and, and_true, true_and, and_self, i_eq]
              repeat' first | rfl | omega | (simp only [List.length_append, List.length_cons, List.length_nil]; done) | apply And.intro
          · obtain ⟨r1, r2⟩ := qb2 (Nat.lt_of_not_le hbX)
            have hqs := qbL_same (A := A) (b := b') (L := L) hi (by rw [r1]; omega) (by rw [r1]; omega)
            have hdb : decide (b' ≤ X) = false := decide_eq_false hbX
            rw [hdb] at hle
            rw [hqs]
            repeat first
              | (refine hK _ ?_; clear hK K)
              | ((first | refine vm_reg (fun K hK => ?_) | refine vm_dreg (fun K hK => ?_) | refine vm_dregx (fun K hK => ?_)); simp (disch := (first | omega | assumption)) only [S1, ↓reduceIte, Nat.reduceEqDiff, Nat.reduceAdd, Nat.reduceMul, Nat.reduceDiv, AOp.sb, AOp.mut, ↓Bool.false_eq_true, beq_self_eq_true, ite_self, Nat.reduceLeDiff, Int.reduceEq, Int.reduceSub, Int.reduceAdd, Int.reduceNeg, Int.reduceLT, Int.reduceLE, Nat.reduceLT, bz_R1, hjn]; refine hK _ ?_; clear hK K)
              | simp only [Sv, ↓reduceIte, Nat.reduceEqDiff]
            refine he' _ _ ?_
            have zc12 := hle
            repeat first | (refine hK _ ?_; clear hK K) | simp only [Sv, ↓reduceIte, Nat.reduceEqDiff] | ((first | refine vm_reg (fun K hK => ?_) | refine vm_dreg (fun K hK => ?_) | refine vm_dregx (fun K hK => ?_) | refine clp_q ?_ | refine clq_mk (by assumption) ?_); simp (disch := (first | omega | assumption)) only [S1, ↓reduceIte, Nat.reduceEqDiff, Nat.reduceAdd, Nat.reduceMul, Nat.reduceDiv, AOp.sb, AOp.mut, ↓Bool.false_eq_true, beq_self_eq_true, ite_self, Nat.reduceLeDiff, Int.reduceEq, Int.reduceSub, Int.reduceAdd, Int.reduceNeg, Int.reduceLT, Int.reduceLE, Nat.reduceLT, bz_R1])
            refine hQ _ k (by omega) (by omega) ?_
            simp (disch := (first | omega | assumption)) only [Sl, Sa, Sw, ↓reduceIte, Nat.reduceEqDiff, Nat.reduceLT, List.all_nil, List.all_cons, Nat.reduceBneDiff, Nat.reduceAdd, bne_iff_ne, ne_eq, reduceCtorEq, not_false_eq_true, not_true_eq_false, Bool.and_true, Bool.true_and, and_true, true_and, and_self, i_eq]
            rw [r2]
            repeat' first | rfl | omega | (simp only [List.length_append, List.length_cons, List.length_nil]; done) | apply And.intro
end Go.Proofs.Ytfhgnlkcecogcaa

/- R2 -/
namespace Go.Proofs.Ytfhgnlkcecogcaa
open Go Go.RowKit Ab
set_option linter.unusedSimpArgs false
set_option linter.unusedVariables false
set_option maxHeartbeats 10000000
theorem bz_R2 : type_of% (And.intro @wi (And.intro @tn_nat (And.intro @Nat.div_one (And.intro @Nat.mul_one (And.intro @W_len (And.intro @W_nf (And.intro @W_cell (And.intro @W_nil (@W_get))))))))) := And.intro @wi (And.intro @tn_nat (And.intro @Nat.div_one (And.intro @Nat.mul_one (And.intro @W_len (And.intro @W_nf (And.intro @W_cell (And.intro @W_nil (@W_get))))))))

theorem Wd1 {x : Nat} (h : x < 18446744073709551616) : Wd [x] := fun y hy => by rw [List.mem_singleton] at hy; rw [hy]; exact h
/-- the number as a word -/
def wdW (u : Nat) : Nat := if u < 18446744073709551616 then u else 0
def wdE (u : Nat) : Int := if u < 18446744073709551616 then 0 else 13
theorem dg_big {u : Nat} (h : ¬ u < 18446744073709551616) : 1 < (dg B u).length := by
  rcases Nat.lt_or_ge 1 (dg B u).length with h1 | h1
  · exact h1
  · have h2 := nv_lt (Wd_dg u)
    rw [nv_dgB] at h2
    have : B ^ (dg B u).length ≤ B ^ 1 := Nat.pow_le_pow_right (by decide) h1
    rw [Nat.pow_one] at this
    exact absurd (Nat.lt_of_lt_of_le h2 this) h
end Go.Proofs.Ytfhgnlkcecogcaa

/- R3 -/
namespace Go.Proofs.Ytfhgnlkcecogcaa
open Go Go.RowKit Ab
set_option linter.unusedSimpArgs false
set_option linter.unusedVariables false
set_option maxHeartbeats 10000000
theorem bz_R3 : type_of% (And.intro @wi (And.intro @tn_nat (And.intro @Nat.div_one (And.intro @Nat.mul_one (And.intro @W_len (And.intro @W_nf (And.intro @W_cell (And.intro @W_nil (@W_get))))))))) := And.intro @wi (And.intro @tn_nat (And.intro @Nat.div_one (And.intro @Nat.mul_one (And.intro @W_len (And.intro @W_nf (And.intro @W_cell (And.intro @W_nil (@W_get))))))))

end Go.Proofs.Ytfhgnlkcecogcaa
