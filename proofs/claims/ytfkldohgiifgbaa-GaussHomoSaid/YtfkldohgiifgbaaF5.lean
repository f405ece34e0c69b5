/-
  surdref05: integers.
-/
import Derived.Test.YtfkldohgiifgbaaF4
import Derived.Test.YtfkldohgiifgbaaZ1
namespace Go.Proofs.Ytfkldohgiifgbaa
open Go Go.RowKit Ab
set_option linter.unusedSimpArgs false
set_option linter.unusedVariables false
set_option maxHeartbeats 10000000
theorem bz_F5 : type_of% (And.intro @W_len (And.intro @D_len (And.intro @Nat.div_one (And.intro @Nat.mul_one (And.intro @tn_nat (And.intro @W_nf (And.intro @D_nf (And.intro @W_nil (And.intro @D_nil (And.intro @wi (And.intro @D_get (And.intro @nf_g (And.intro @Bool.false_and (@W_cell)))))))))))))) := And.intro @W_len (And.intro @D_len (And.intro @Nat.div_one (And.intro @Nat.mul_one (And.intro @tn_nat (And.intro @W_nf (And.intro @D_nf (And.intro @W_nil (And.intro @D_nil (And.intro @wi (And.intro @D_get (And.intro @nf_g (And.intro @Bool.false_and (@W_cell)))))))))))))

-- surd/surdref05.I
def a72 : AC := .seq (.reg [⟨some 4, none, .al 83 [(.b false), (.l 1 [])]⟩])
  (.seq (.reg [⟨some 5, none, .mv (.t 1)⟩, 
      ⟨some 6, none, .call 96 [(1, (.t 5))]⟩, 
      ⟨some 1, none, .mv (.t 6)⟩])
  (.seq (.reg [⟨some 7, none, .mv (.t 0)⟩, 
      ⟨some 8, none, .mv (.t 7)⟩, 
      ⟨some 9, some (8, true), .mv (.t 1)⟩, 
      ⟨some 10, some (8, true), .len (.t 9)⟩, 
      ⟨some 11, some (8, true), .bin .gtr (.t 10) (.k (.i .i64 0))⟩, 
      ⟨some 12, none, .pick (.t 8) (.t 11) (.k (.b false))⟩, 
      ⟨some 13, none, .mv (.t 1)⟩, 
      ⟨some 14, none, .bld [(.b false), (.l 1 [])] [(0, 1, (.t 12)), (1, 1, (.t 13))]⟩, 
      ⟨none, none, .st 2 (.t 4) (.t 14)⟩])
  (.ret)))
theorem hI_spec (s : Bool) (a : List Nat) (ha : Wd a) (la : a.length ≤ 1000000000) : AFun Try.prog J0 72 [.b s, .l 1 (W a)] (zN (zv s a)) := by
  have h1 := (hnorm_spec a ha (by omega)).frozen
  have e := zN_I s (nv B a)
  unfold zv
  rw [e]
  generalize nv B a = n at *
  refine AFun.mkc fol J0s Try.func72 rfl (ac := a72) (by kernel_rfl) (rs := [.c 4 true 2]) (by kernel_rfl) rfl ?_
  apply vm_start
  unfold a72
  simp only [init_eq, initE]
  cases s
  · have zc1 := h1
    repeat first | (refine hK _ ?_; clear hK K) | simp only [Sv, ↓reduceIte, Nat.reduceEqDiff] | ((first | refine vm_reg (fun K hK => ?_) | refine vm_dreg (fun K hK => ?_) | refine clp_q ?_ | refine clq_mk (by assumption) ?_); simp (disch := (first | omega | assumption)) only [S1, ↓reduceIte, Nat.reduceEqDiff, Nat.reduceAdd, Nat.reduceMul, Nat.reduceDiv, AOp.sb, AOp.mut, ↓Bool.false_eq_true, beq_self_eq_true, ite_self, Nat.reduceLeDiff, Int.reduceEq, Int.reduceSub, Int.reduceAdd, Int.reduceNeg, Int.reduceLT, Int.reduceLE, Nat.reduceLT, bz_F5])
    simp (disch := (first | omega | assumption)) only [retC, rsVs_nil, rsVs_cons, rsV_t, rsV_c, rsp_pt, rsq_t, rsq_f, ocons_ss, retV_1, retV_2, retNV_nil, retNV_cons, retOk, retN, ret1, retF, ret1F, V.okArg, and_true, true_and, S1, ↓reduceIte, Nat.reduceEqDiff, Nat.reduceAdd, Nat.reduceMul, Nat.reduceDiv, AOp.sb, AOp.mut, ↓Bool.false_eq_true, beq_self_eq_true, ite_self, Nat.reduceLeDiff, Int.reduceEq, Int.reduceSub, Int.reduceAdd, Int.reduceNeg, Int.reduceLT, Int.reduceLE, Nat.reduceLT, bz_F5]
  · by_cases h : 0 < n
    · have e : decide (0 < n) = true := decide_eq_true h
      rw [e]
      have zc2 := h1
      repeat first | (refine hK _ ?_; clear hK K) | simp only [Sv, ↓reduceIte, Nat.reduceEqDiff] | ((first | refine vm_reg (fun K hK => ?_) | refine vm_dreg (fun K hK => ?_) | refine clp_q ?_ | refine clq_mk (by assumption) ?_); simp (disch := (first | omega | assumption)) only [S1, ↓reduceIte, Nat.reduceEqDiff, Nat.reduceAdd, Nat.reduceMul, Nat.reduceDiv, AOp.sb, AOp.mut, ↓Bool.false_eq_true, beq_self_eq_true, ite_self, Nat.reduceLeDiff, Int.reduceEq, Int.reduceSub, Int.reduceAdd, Int.reduceNeg, Int.reduceLT, Int.reduceLE, Nat.reduceLT, bz_F5, dg_pos, h])
      simp (disch := (first | omega | assumption)) only [retC, rsVs_nil, rsVs_cons, rsV_t, rsV_c, rsp_pt, rsq_t, rsq_f, ocons_ss, retV_1, retV_2, retNV_nil, retNV_cons, retOk, retN, ret1, retF, ret1F, V.okArg, and_true, true_and, S1, ↓reduceIte, Nat.reduceEqDiff, Nat.reduceAdd, Nat.reduceMul, Nat.reduceDiv, AOp.sb, AOp.mut, ↓Bool.false_eq_true, beq_self_eq_true, ite_self, Nat.reduceLeDiff, Int.reduceEq, Int.reduceSub, Int.reduceAdd, Int.reduceNeg, Int.reduceLT, Int.reduceLE, Nat.reduceLT, bz_F5, dg_pos, h]
    · have e : decide (0 < n) = false := decide_eq_false h
      rw [e]
      have zc3 := h1
      repeat first | (refine hK _ ?_; clear hK K) | simp only [Sv, ↓reduceIte, Nat.reduceEqDiff] | ((first | refine vm_reg (fun K hK => ?_) | refine vm_dreg (fun K hK => ?_) | refine clp_q ?_ | refine clq_mk (by assumption) ?_); simp (disch := (first | omega | assumption)) only [S1, ↓reduceIte, Nat.reduceEqDiff, Nat.reduceAdd, Nat.reduceMul, Nat.reduceDiv, AOp.sb, AOp.mut, ↓Bool.false_eq_true, beq_self_eq_true, ite_self, Nat.reduceLeDiff, Int.reduceEq, Int.reduceSub, Int.reduceAdd, Int.reduceNeg, Int.reduceLT, Int.reduceLE, Nat.reduceLT, bz_F5, dg_pos, h])
      simp (disch := (first | omega | assumption)) only [retC, rsVs_nil, rsVs_cons, rsV_t, rsV_c, rsp_pt, rsq_t, rsq_f, ocons_ss, retV_1, retV_2, retNV_nil, retNV_cons, retOk, retN, ret1, retF, ret1F, V.okArg, and_true, true_and, S1, ↓reduceIte, Nat.reduceEqDiff, Nat.reduceAdd, Nat.reduceMul, Nat.reduceDiv, AOp.sb, AOp.mut, ↓Bool.false_eq_true, beq_self_eq_true, ite_self, Nat.reduceLeDiff, Int.reduceEq, Int.reduceSub, Int.reduceAdd, Int.reduceNeg, Int.reduceLT, Int.reduceLE, Nat.reduceLT, bz_F5, dg_pos, h]
theorem hID (s : Bool) {n m : Nat} (h : n < B ^ m) (hm : m ≤ 1000000000) : AFun Try.prog J0 72 [.b s, .l 1 (W (dg B n))] (zN (zI s n)) := by
  have := hI_spec s (dg B n) (Wd_dg _) (Nat.le_trans (dlen h) hm)
  rwa [zv, nv_dgB] at this
-- surd/surdref05.Z
def a61 : AC := .seq (.reg [⟨some 2, none, .al 83 [(.b false), (.l 1 [])]⟩])
  (.seq (.seq (.reg [⟨some 3, none, .mv (.t 0)⟩, 
        ⟨some 4, none, .bin .lss (.t 3) (.k (.i .i64 0))⟩])
    (.cond (.t 4)
    (.seq (.reg [⟨some 5, none, .mv (.t 0)⟩, 
          ⟨some 6, none, .un .neg (.t 5)⟩, 
          ⟨some 7, none, .call 56 [(1, (.t 6))]⟩, 
          ⟨some 8, none, .call 72 [(1, (.k (.b true))), (1, (.t 7))]⟩, 
          ⟨none, none, .st 2 (.t 2) (.t 8)⟩])
      (.ret))
    (.skip)))
  (.seq (.reg [⟨some 9, none, .mv (.t 0)⟩, 
      ⟨some 10, none, .call 56 [(1, (.t 9))]⟩, 
      ⟨some 11, none, .call 72 [(1, (.k (.b false))), (1, (.t 10))]⟩, 
      ⟨none, none, .st 2 (.t 2) (.t 11)⟩])
  (.ret)))
theorem hZ_spec (n : Int) (h1 : -9223372036854775808 < n) (h2 : n < 9223372036854775808) : AFun Try.prog J0 61 [.i .i64 n] (zN n) := by
  have hw := (hword_spec n.natAbs (by omega)).frozen
  have hm := hID (decide (n < 0)) (n := n.natAbs) (m := 1) (by rw [Nat.pow_one]; show _ < 18446744073709551616; omega) (by decide)
  rw [zI_self] at hm
  by_cases h : n < 0
  · have ez : zN n = .g [.b true, .l 1 (W (dg B n.natAbs))] := by show V.g [.b (decide (n < 0)), _] = _; rw [decide_eq_true h]
    rw [ez] at hm ⊢
    rw [decide_eq_true h] at hm
    have e : -n = (n.natAbs : Int) := by omega
    have w1 : IntKind.i64.wrap (0 - n) = (n.natAbs : Int) := by rw [wi (by omega)]; omega
    refine AFun.mkc fol J0s Try.func61 rfl (ac := a61) (by kernel_rfl) (rs := [.c 2 true 2]) (by kernel_rfl) rfl ?_
    apply vm_start
    unfold a61
    simp only [init_eq, initE]
    have zc4 := hw
    have zc5 := hm
    repeat first | (refine hK _ ?_; clear hK K) | simp only [Sv, ↓reduceIte, Nat.reduceEqDiff] | ((first | refine vm_reg (fun K hK => ?_) | refine vm_dreg (fun K hK => ?_) | refine clp_q ?_ | refine clq_mk (by assumption) ?_); simp (disch := (first | omega | assumption)) only [S1, ↓reduceIte, Nat.reduceEqDiff, Nat.reduceAdd, Nat.reduceMul, Nat.reduceDiv, AOp.sb, AOp.mut, ↓Bool.false_eq_true, beq_self_eq_true, ite_self, Nat.reduceLeDiff, Int.reduceEq, Int.reduceSub, Int.reduceAdd, Int.reduceNeg, Int.reduceLT, Int.reduceLE, Nat.reduceLT, bz_F5, h, w1])
    simp (disch := (first | omega | assumption)) only [retC, rsVs_nil, rsVs_cons, rsV_t, rsV_c, rsp_pt, rsq_t, rsq_f, ocons_ss, retV_1, retV_2, retNV_nil, retNV_cons, retOk, retN, ret1, retF, ret1F, V.okArg, and_true, true_and, S1, ↓reduceIte, Nat.reduceEqDiff, Nat.reduceAdd, Nat.reduceMul, Nat.reduceDiv, AOp.sb, AOp.mut, ↓Bool.false_eq_true, beq_self_eq_true, ite_self, Nat.reduceLeDiff, Int.reduceEq, Int.reduceSub, Int.reduceAdd, Int.reduceNeg, Int.reduceLT, Int.reduceLE, Nat.reduceLT, bz_F5, h, w1]
  · have ez : zN n = .g [.b false, .l 1 (W (dg B n.natAbs))] := by show V.g [.b (decide (n < 0)), _] = _; rw [decide_eq_false h]
    rw [ez] at hm ⊢
    rw [decide_eq_false h] at hm
    obtain ⟨k, rfl⟩ : ∃ k : Nat, n = (k : Int) := ⟨n.natAbs, by omega⟩
    simp only [Int.natAbs_natCast] at hw hm ⊢
    refine AFun.mkc fol J0s Try.func61 rfl (ac := a61) (by kernel_rfl) (rs := [.c 2 true 2]) (by kernel_rfl) rfl ?_
    apply vm_start
    unfold a61
    simp only [init_eq, initE]
    have zc6 := hw
    have zc7 := hm
    repeat first | (refine hK _ ?_; clear hK K) | simp only [Sv, ↓reduceIte, Nat.reduceEqDiff] | ((first | refine vm_reg (fun K hK => ?_) | refine vm_dreg (fun K hK => ?_) | refine clp_q ?_ | refine clq_mk (by assumption) ?_); simp (disch := (first | omega | assumption)) only [S1, ↓reduceIte, Nat.reduceEqDiff, Nat.reduceAdd, Nat.reduceMul, Nat.reduceDiv, AOp.sb, AOp.mut, ↓Bool.false_eq_true, beq_self_eq_true, ite_self, Nat.reduceLeDiff, Int.reduceEq, Int.reduceSub, Int.reduceAdd, Int.reduceNeg, Int.reduceLT, Int.reduceLE, Nat.reduceLT, bz_F5, h])
    simp (disch := (first | omega | assumption)) only [retC, rsVs_nil, rsVs_cons, rsV_t, rsV_c, rsp_pt, rsq_t, rsq_f, ocons_ss, retV_1, retV_2, retNV_nil, retNV_cons, retOk, retN, ret1, retF, ret1F, V.okArg, and_true, true_and, S1, ↓reduceIte, Nat.reduceEqDiff, Nat.reduceAdd, Nat.reduceMul, Nat.reduceDiv, AOp.sb, AOp.mut, ↓Bool.false_eq_true, beq_self_eq_true, ite_self, Nat.reduceLeDiff, Int.reduceEq, Int.reduceSub, Int.reduceAdd, Int.reduceNeg, Int.reduceLT, Int.reduceLE, Nat.reduceLT, bz_F5, h]
theorem zI_sub (s : Bool) (u v : Nat) (h : v ≤ u) : zI s (u - v) = zI s u + zI (!s) v := by
  unfold zI; cases s <;> simp <;> omega
theorem sg_ge (u v : Nat) : ((0 : Int) ≤ sg u v) = (v ≤ u) := by
  unfold sg
  split
  · rename_i h; exact propext ⟨fun h' => absurd h' (by decide), fun h' => absurd h' (by omega)⟩
  · rename_i h
    split <;> exact propext ⟨fun _ => by omega, fun _ => by decide⟩
/-! the same, of integers in their own form -/
-- surd/surdref01.Same
def a104 : AC := .seq (.reg [⟨some 4, none, .mv (.k (.b false))⟩])
  (.seq (.seq (.reg [⟨some 6, none, .mv (.t 0)⟩, 
        ⟨some 7, none, .len (.t 6)⟩, 
        ⟨some 8, none, .mv (.t 1)⟩, 
        ⟨some 9, none, .len (.t 8)⟩, 
        ⟨some 10, none, .bin .neq (.t 7) (.t 9)⟩])
    (.cond (.t 10)
    (.seq (.reg [⟨some 4, none, .mv (.k (.b false))⟩])
      (.ret))
    (.skip)))
  (.seq (.seq (.reg [⟨some 5, none, .mv (.k (.i .i64 0))⟩])
    (.blk 0
    (.loop
      (.seq (.seq (.reg [⟨some 11, none, .mv (.t 5)⟩, 
              ⟨some 12, none, .mv (.t 0)⟩, 
              ⟨some 13, none, .len (.t 12)⟩, 
              ⟨some 14, none, .bin .lss (.t 11) (.t 13)⟩])
          (.cond (.t 14)
          (.skip)
          (.exit 0)))
        (.seq (.blk 1
          (.seq (.dreg [⟨some 17, none, .mv (.t 0)⟩, 
                ⟨some 18, none, .mv (.t 5)⟩, 
                ⟨some 19, none, .idx 1 (.t 17) (.t 18)⟩, 
                ⟨some 20, none, .ld false 1 (.t 19)⟩, 
                ⟨some 21, none, .mv (.t 1)⟩, 
                ⟨some 22, none, .mv (.t 5)⟩, 
                ⟨some 23, none, .idx 1 (.t 21) (.t 22)⟩, 
                ⟨some 24, none, .ld false 1 (.t 23)⟩, 
                ⟨some 25, none, .bin .neq (.t 20) (.t 24)⟩])
            (.cond (.t 25)
            (.seq (.reg [⟨some 4, none, .mv (.k (.b false))⟩])
              (.ret))
            (.skip))))
        (.reg [⟨some 15, none, .mv (.t 5)⟩, 
          ⟨some 16, none, .bin .add (.t 15) (.k (.i .i64 1))⟩, 
          ⟨some 5, none, .mv (.t 16)⟩]))))))
  (.seq (.reg [⟨some 4, none, .mv (.k (.b true))⟩])
  (.ret))))
theorem hsameW_spec (a b : List Nat) (la : a.length ≤ 9223372036854775807) (lb : b.length ≤ 9223372036854775807) :
    AFun Try.prog J0 104 [.l 1 (W a), .l 1 (W b)] (.b (decide (a = b))) := by
  refine AFun.mk fol J0s Try.func104 rfl (ac := a104) (by kernel_rfl) rfl rfl ?_
  apply vm_start
  unfold a104
  simp only [init_eq, initE]
  by_cases h : (a.length : Int) = (b.length : Int)
  · repeat first
      | (refine hK _ ?_; clear hK K)
      | ((first | refine vm_reg (fun K hK => ?_) | refine vm_dreg (fun K hK => ?_)); simp (disch := (first | omega | assumption)) only [S1, ↓reduceIte, Nat.reduceEqDiff, Nat.reduceAdd, Nat.reduceMul, Nat.reduceDiv, AOp.sb, AOp.mut, ↓Bool.false_eq_true, beq_self_eq_true, ite_self, Nat.reduceLeDiff, Int.reduceEq, Int.reduceSub, Int.reduceAdd, Int.reduceNeg, Int.reduceLT, Int.reduceLE, Nat.reduceLT, bz_F5, h]; refine hK _ ?_; clear hK K)
      | simp only [Sv, ↓reduceIte, Nat.reduceEqDiff]
    refine vm_loopA [] Nat (fun i => ⟨[(0, .l 1 (W a)), (1, .l 1 (W b)), (5, .i .i64 (i : Int))], [], 0⟩) (fun i => i ≤ a.length ∧ ∀ j, j < i → a.getD j 0 = b.getD j 0) (fun i => a.length - i) 0 ⟨by omega, by omega⟩ (by simp (disch := (first | omega | assumption)) only [Sl, Sa, Sw, ↓reduceIte, Nat.reduceEqDiff, Nat.reduceLT, List.all_nil, List.all_cons, Nat.reduceBneDiff, Nat.reduceAdd, bne_iff_ne, ne_eq, reduceCtorEq, not_false_eq_true, not_true_eq_false, Bool.and_true, Bool.true_and, and_true, true_and, and_self]) (by
      simp (disch := (first | omega | assumption)) only [Sl, Sa, Sw, ↓reduceIte, Nat.reduceEqDiff, Nat.reduceLT, List.all_nil, List.all_cons, Nat.reduceBneDiff, Nat.reduceAdd, bne_iff_ne, ne_eq, reduceCtorEq, not_false_eq_true, not_true_eq_false, Bool.and_true, Bool.true_and, and_true, true_and, and_self, i_eq]
      rfl) ?_
    intro i ⟨hi, hj⟩ Q' hQ he hr
    by_cases h1 : (i : Int) < a.length
    · repeat first
        | (refine hK _ ?_; clear hK K)
        | ((first | refine vm_reg (fun K hK => ?_) | refine vm_dreg (fun K hK => ?_)); simp (disch := (first | omega | assumption)) only [S1, ↓reduceIte, Nat.reduceEqDiff, Nat.reduceAdd, Nat.reduceMul, Nat.reduceDiv, AOp.sb, AOp.mut, ↓Bool.false_eq_true, beq_self_eq_true, ite_self, Nat.reduceLeDiff, Int.reduceEq, Int.reduceSub, Int.reduceAdd, Int.reduceNeg, Int.reduceLT, Int.reduceLE, Nat.reduceLT, bz_F5, h1]; refine hK _ ?_; clear hK K)
        | simp only [Sv, ↓reduceIte, Nat.reduceEqDiff]
      by_cases h2 : ((a.getD i 0 : Nat) : Int) = ((b.getD i 0 : Nat) : Int)
      · repeat first
          | (refine hK _ ?_; clear hK K)
          | ((first | refine vm_reg (fun K hK => ?_) | refine vm_dreg (fun K hK => ?_)); simp (disch := (first | omega | assumption)) only [S1, ↓reduceIte, Nat.reduceEqDiff, Nat.reduceAdd, Nat.reduceMul, Nat.reduceDiv, AOp.sb, AOp.mut, ↓Bool.false_eq_true, beq_self_eq_true, ite_self, Nat.reduceLeDiff, Int.reduceEq, Int.reduceSub, Int.reduceAdd, Int.reduceNeg, Int.reduceLT, Int.reduceLE, Nat.reduceLT, bz_F5, W_get, h2, wi]; refine hK _ ?_; clear hK K)
          | simp only [Sv, ↓reduceIte, Nat.reduceEqDiff]
        refine hQ _ (i + 1) ⟨by omega, fun j h3 => ?_⟩ (by omega) ?_
        · rcases Nat.lt_or_ge j i with h4 | h4
          · exact hj j h4
          · obtain rfl : j = i := by omega
            omega
        · simp (disch := (first | omega | assumption)) only [Sl, Sa, Sw, ↓reduceIte, Nat.reduceEqDiff, Nat.reduceLT, List.all_nil, List.all_cons, Nat.reduceBneDiff, Nat.reduceAdd, bne_iff_ne, ne_eq, reduceCtorEq, not_false_eq_true, not_true_eq_false, Bool.and_true, Bool.true_and, and_true, true_and, and_self, i_eq]
          omega
      · repeat first
          | (refine hK _ ?_; clear hK K)
          | ((first | refine vm_reg (fun K hK => ?_) | refine vm_dreg (fun K hK => ?_)); simp (disch := (first | omega | assumption)) only [S1, ↓reduceIte, Nat.reduceEqDiff, Nat.reduceAdd, Nat.reduceMul, Nat.reduceDiv, AOp.sb, AOp.mut, ↓Bool.false_eq_true, beq_self_eq_true, ite_self, Nat.reduceLeDiff, Int.reduceEq, Int.reduceSub, Int.reduceAdd, Int.reduceNeg, Int.reduceLT, Int.reduceLE, Nat.reduceLT, bz_F5, W_get, h2]; refine hK _ ?_; clear hK K)
          | simp only [Sv, ↓reduceIte, Nat.reduceEqDiff]
        repeat first
          | (refine hK _ ?_; clear hK K)
          | ((first | refine vm_reg (fun K hK => ?_) | refine vm_dreg (fun K hK => ?_)); simp (disch := (first | omega | assumption)) only [S1, ↓reduceIte, Nat.reduceEqDiff, Nat.reduceAdd, Nat.reduceMul, Nat.reduceDiv, AOp.sb, AOp.mut, ↓Bool.false_eq_true, beq_self_eq_true, ite_self, Nat.reduceLeDiff, Int.reduceEq, Int.reduceSub, Int.reduceAdd, Int.reduceNeg, Int.reduceLT, Int.reduceLE, Nat.reduceLT, bz_F5]; refine hK _ ?_; clear hK K)
          | simp only [Sv, ↓reduceIte, Nat.reduceEqDiff]
        refine hr _ ?_
        have e : ¬ a = b := fun h => h2 (by rw [h])
        simp (disch := (first | omega | assumption)) only [retOk, retN, ret1, retF, ret1F, V.okArg, and_true, true_and, S1, ↓reduceIte, Nat.reduceEqDiff, Nat.reduceAdd, Nat.reduceMul, Nat.reduceDiv, AOp.sb, AOp.mut, ↓Bool.false_eq_true, beq_self_eq_true, ite_self, Nat.reduceLeDiff, Int.reduceEq, Int.reduceSub, Int.reduceAdd, Int.reduceNeg, Int.reduceLT, Int.reduceLE, Nat.reduceLT, bz_F5, e]
    · repeat first
        | (refine hK _ ?_; clear hK K)
        | ((first | refine vm_reg (fun K hK => ?_) | refine vm_dreg (fun K hK => ?_)); simp (disch := (first | omega | assumption)) only [S1, ↓reduceIte, Nat.reduceEqDiff, Nat.reduceAdd, Nat.reduceMul, Nat.reduceDiv, AOp.sb, AOp.mut, ↓Bool.false_eq_true, beq_self_eq_true, ite_self, Nat.reduceLeDiff, Int.reduceEq, Int.reduceSub, Int.reduceAdd, Int.reduceNeg, Int.reduceLT, Int.reduceLE, Nat.reduceLT, bz_F5, h1]; refine hK _ ?_; clear hK K)
        | simp only [Sv, ↓reduceIte, Nat.reduceEqDiff]
      refine he _ _ ?_
      repeat first
        | (refine hK _ ?_; clear hK K)
        | ((first | refine vm_reg (fun K hK => ?_) | refine vm_dreg (fun K hK => ?_)); simp (disch := (first | omega | assumption)) only [S1, ↓reduceIte, Nat.reduceEqDiff, Nat.reduceAdd, Nat.reduceMul, Nat.reduceDiv, AOp.sb, AOp.mut, ↓Bool.false_eq_true, beq_self_eq_true, ite_self, Nat.reduceLeDiff, Int.reduceEq, Int.reduceSub, Int.reduceAdd, Int.reduceNeg, Int.reduceLT, Int.reduceLE, Nat.reduceLT, bz_F5]; refine hK _ ?_; clear hK K)
        | simp only [Sv, ↓reduceIte, Nat.reduceEqDiff]
      have e : a = b := by
        refine List.ext_getElem (by omega) fun n h3 h4 => ?_
        have := hj n (by omega)
        simpa [List.getD_eq_getElem?_getD, h3, h4] using this
      simp (disch := (first | omega | assumption)) only [retOk, retN, ret1, retF, ret1F, V.okArg, and_true, true_and, S1, ↓reduceIte, Nat.reduceEqDiff, Nat.reduceAdd, Nat.reduceMul, Nat.reduceDiv, AOp.sb, AOp.mut, ↓Bool.false_eq_true, beq_self_eq_true, ite_self, Nat.reduceLeDiff, Int.reduceEq, Int.reduceSub, Int.reduceAdd, Int.reduceNeg, Int.reduceLT, Int.reduceLE, Nat.reduceLT, bz_F5, e]
  · repeat first
      | (refine hK _ ?_; clear hK K)
      | ((first | refine vm_reg (fun K hK => ?_) | refine vm_dreg (fun K hK => ?_)); simp (disch := (first | omega | assumption)) only [S1, ↓reduceIte, Nat.reduceEqDiff, Nat.reduceAdd, Nat.reduceMul, Nat.reduceDiv, AOp.sb, AOp.mut, ↓Bool.false_eq_true, beq_self_eq_true, ite_self, Nat.reduceLeDiff, Int.reduceEq, Int.reduceSub, Int.reduceAdd, Int.reduceNeg, Int.reduceLT, Int.reduceLE, Nat.reduceLT, bz_F5, h]; refine hK _ ?_; clear hK K)
      | simp only [Sv, ↓reduceIte, Nat.reduceEqDiff]
    have e : ¬ a = b := fun h' => h (by rw [h'])
    simp (disch := (first | omega | assumption)) only [retOk, retN, ret1, retF, ret1F, V.okArg, and_true, true_and, S1, ↓reduceIte, Nat.reduceEqDiff, Nat.reduceAdd, Nat.reduceMul, Nat.reduceDiv, AOp.sb, AOp.mut, ↓Bool.false_eq_true, beq_self_eq_true, ite_self, Nat.reduceLeDiff, Int.reduceEq, Int.reduceSub, Int.reduceAdd, Int.reduceNeg, Int.reduceLT, Int.reduceLE, Nat.reduceLT, bz_F5, e]
-- surd/surdref05.Same
def a81 : AC := .seq (.reg [⟨some 4, none, .mv (.k (.b false))⟩])
  (.seq (.reg [⟨some 5, none, .mv (.t 0)⟩, 
      ⟨some 6, none, .mv (.t 1)⟩, 
      ⟨some 7, none, .call 104 [(1, (.t 5)), (1, (.t 6))]⟩, 
      ⟨some 4, none, .mv (.t 7)⟩])
  (.ret))
theorem hsame_spec (a b : List Nat) (la : a.length ≤ 9223372036854775807) (lb : b.length ≤ 9223372036854775807) :
    AFun Try.prog J0 81 [.l 1 (W a), .l 1 (W b)] (.b (decide (a = b))) := by
  have h := hsameW_spec a b la lb
  refine AFun.mk fol J0s Try.func81 rfl (ac := a81) (by kernel_rfl) rfl rfl ?_
  apply vm_start
  unfold a81
  simp only [init_eq, initE]
  have zc8 := h
  repeat first | (refine hK _ ?_; clear hK K) | simp only [Sv, ↓reduceIte, Nat.reduceEqDiff] | ((first | refine vm_reg (fun K hK => ?_) | refine vm_dreg (fun K hK => ?_) | refine clp_q ?_ | refine clq_mk (by assumption) ?_); simp (disch := (first | omega | assumption)) only [S1, ↓reduceIte, Nat.reduceEqDiff, Nat.reduceAdd, Nat.reduceMul, Nat.reduceDiv, AOp.sb, AOp.mut, ↓Bool.false_eq_true, beq_self_eq_true, ite_self, Nat.reduceLeDiff, Int.reduceEq, Int.reduceSub, Int.reduceAdd, Int.reduceNeg, Int.reduceLT, Int.reduceLE, Nat.reduceLT, bz_F5])
  simp (disch := (first | omega | assumption)) only [retOk, retN, ret1, retF, ret1F, V.okArg, and_true, true_and, S1, ↓reduceIte, Nat.reduceEqDiff, Nat.reduceAdd, Nat.reduceMul, Nat.reduceDiv, AOp.sb, AOp.mut, ↓Bool.false_eq_true, beq_self_eq_true, ite_self, Nat.reduceLeDiff, Int.reduceEq, Int.reduceSub, Int.reduceAdd, Int.reduceNeg, Int.reduceLT, Int.reduceLE, Nat.reduceLT, bz_F5]
-- surd/surdref05.SameInt
def a51 : AC := .seq (.reg [⟨some 2, none, .bx 83 (.t 0)⟩, 
      ⟨some 3, none, .bx 83 (.t 1)⟩, 
      ⟨some 4, none, .mv (.k (.b false))⟩])
  (.seq (.reg [⟨some 5, none, .fad 0 (.t 2)⟩, 
      ⟨some 6, none, .ld false 1 (.t 5)⟩, 
      ⟨some 7, none, .fad 0 (.t 3)⟩, 
      ⟨some 8, none, .ld false 1 (.t 7)⟩, 
      ⟨some 9, none, .eqb false (.t 6) (.t 8)⟩, 
      ⟨some 10, none, .mv (.t 9)⟩, 
      ⟨some 11, some (10, true), .fad 1 (.t 2)⟩, 
      ⟨some 12, some (10, true), .ld false 1 (.t 11)⟩, 
      ⟨some 13, some (10, true), .fad 1 (.t 3)⟩, 
      ⟨some 14, some (10, true), .ld false 1 (.t 13)⟩, 
      ⟨some 15, some (10, true), .call 81 [(1, (.t 12)), (1, (.t 14))]⟩, 
      ⟨some 16, none, .pick (.t 10) (.t 15) (.k (.b false))⟩, 
      ⟨some 4, none, .mv (.t 16)⟩])
  (.ret))
theorem hsameI_spec (s t : Bool) (a b : List Nat) (la : a.length ≤ 1000000000) (lb : b.length ≤ 1000000000) : AFun Try.prog J0 51 [zL s a, zL t b] (.b ((s == t) && decide (a = b))) := by
  have h1 := hsame_spec a b (by omega) (by omega)
  refine AFun.mk fol J0s Try.func51 rfl (ac := a51) (by kernel_rfl) rfl rfl ?_
  apply vm_start
  unfold a51
  simp only [init_eq, initE]
  by_cases h : s = t
  · have hb' : (s == t) = true := by rw [h]; cases t <;> rfl
    rw [hb', Bool.true_and]
    have zc9 := h1
    repeat first | (refine hK _ ?_; clear hK K) | simp only [Sv, ↓reduceIte, Nat.reduceEqDiff] | ((first | refine vm_reg (fun K hK => ?_) | refine vm_dreg (fun K hK => ?_) | refine clp_q ?_ | refine clq_mk (by assumption) ?_); simp (disch := (first | omega | assumption)) only [S1, ↓reduceIte, Nat.reduceEqDiff, Nat.reduceAdd, Nat.reduceMul, Nat.reduceDiv, AOp.sb, AOp.mut, ↓Bool.false_eq_true, beq_self_eq_true, ite_self, Nat.reduceLeDiff, Int.reduceEq, Int.reduceSub, Int.reduceAdd, Int.reduceNeg, Int.reduceLT, Int.reduceLE, Nat.reduceLT, bz_F5, hb'])
    simp (disch := (first | omega | assumption)) only [retOk, retN, ret1, retF, ret1F, V.okArg, and_true, true_and, S1, ↓reduceIte, Nat.reduceEqDiff, Nat.reduceAdd, Nat.reduceMul, Nat.reduceDiv, AOp.sb, AOp.mut, ↓Bool.false_eq_true, beq_self_eq_true, ite_self, Nat.reduceLeDiff, Int.reduceEq, Int.reduceSub, Int.reduceAdd, Int.reduceNeg, Int.reduceLT, Int.reduceLE, Nat.reduceLT, bz_F5, hb']
  · have hb' : (s == t) = false := by cases s <;> cases t <;> first | rfl | exact absurd rfl h
    rw [hb', Bool.false_and]
    repeat first
      | (refine hK _ ?_; clear hK K)
      | ((first | refine vm_reg (fun K hK => ?_) | refine vm_dreg (fun K hK => ?_)); simp (disch := (first | omega | assumption)) only [S1, ↓reduceIte, Nat.reduceEqDiff, Nat.reduceAdd, Nat.reduceMul, Nat.reduceDiv, AOp.sb, AOp.mut, ↓Bool.false_eq_true, beq_self_eq_true, ite_self, Nat.reduceLeDiff, Int.reduceEq, Int.reduceSub, Int.reduceAdd, Int.reduceNeg, Int.reduceLT, Int.reduceLE, Nat.reduceLT, bz_F5, hb']; refine hK _ ?_; clear hK K)
      | simp only [Sv, ↓reduceIte, Nat.reduceEqDiff]
    simp (disch := (first | omega | assumption)) only [retOk, retN, ret1, retF, ret1F, V.okArg, and_true, true_and, S1, ↓reduceIte, Nat.reduceEqDiff, Nat.reduceAdd, Nat.reduceMul, Nat.reduceDiv, AOp.sb, AOp.mut, ↓Bool.false_eq_true, beq_self_eq_true, ite_self, Nat.reduceLeDiff, Int.reduceEq, Int.reduceSub, Int.reduceAdd, Int.reduceNeg, Int.reduceLT, Int.reduceLE, Nat.reduceLT, bz_F5]
end Go.Proofs.Ytfkldohgiifgbaa
