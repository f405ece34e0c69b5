/-
  surdref23: pairs of integers of any length.
-/
import Derived.Test.YtfkldohgiifgbaaG8
namespace Go.Proofs.Ytfkldohgiifgbaa
open Go Go.RowKit Ab
set_option linter.unusedSimpArgs false
set_option linter.unusedVariables false
set_option maxHeartbeats 10000000
theorem bz_R23a : type_of% (And.intro @W_len (And.intro @D_len (And.intro @Nat.div_one (And.intro @Nat.mul_one (And.intro @tn_nat (And.intro @W_nf (And.intro @D_nf (And.intro @W_nil (And.intro @D_nil (And.intro @wi (And.intro @nf_g (And.intro @Bool.false_and (And.intro @W_cell (And.intro @ZC_cell (@ZC_nil))))))))))))))) := And.intro @W_len (And.intro @D_len (And.intro @Nat.div_one (And.intro @Nat.mul_one (And.intro @tn_nat (And.intro @W_nf (And.intro @D_nf (And.intro @W_nil (And.intro @D_nil (And.intro @wi (And.intro @nf_g (And.intro @Bool.false_and (And.intro @W_cell (And.intro @ZC_cell (@ZC_nil))))))))))))))

abbrev LZ (a b : Int) : V := .g [.b (decide (a < 0)), .l 1 (W (dg B a.natAbs)), .b (decide (b < 0)), .l 1 (W (dg B b.natAbs))]
abbrev LV (z : GZ) : V := LZ z.1 z.2
def ZB (z : GZ) (m : Nat) : Prop := z.1.natAbs < B ^ m ∧ z.2.natAbs < B ^ m
theorem BW1 {n : Nat} (h : n < 18446744073709551616) : n < B ^ 1 := by rw [Nat.pow_one]; exact h
theorem ZB_small {z : GZ} (h : gsz z < SM) : ZB z 1 := by
  unfold gsz at h; simp only [SM] at h
  exact ⟨BW1 (by omega), BW1 (by omega)⟩
theorem ZB_pi {z : GZ} (h : Pi z.1 ∧ Pi z.2) : ZB z 1 := by unfold Pi at h; exact ⟨BW1 (by omega), BW1 (by omega)⟩
-- surd/surdref23.part
def a82 : AC := .seq (.reg [⟨some 2, none, .al 83 [(.b false), (.l 1 [])]⟩])
  (.seq (.seq (.reg [⟨some 3, none, .mv (.t 0)⟩, 
        ⟨some 4, none, .bin .lss (.t 3) (.k (.i .i64 0))⟩])
    (.cond (.t 4)
    (.seq (.reg [⟨some 5, none, .mv (.t 0)⟩, 
          ⟨some 6, none, .bin .add (.t 5) (.k (.i .i64 1))⟩, 
          ⟨some 7, none, .un .neg (.t 6)⟩, 
          ⟨some 8, none, .call 56 [(1, (.t 7))]⟩, 
          ⟨some 9, none, .call 56 [(1, (.k (.i .i64 1)))]⟩, 
          ⟨some 10, none, .call 57 [(1, (.t 8)), (1, (.t 9))]⟩, 
          ⟨some 11, none, .call 72 [(1, (.k (.b true))), (1, (.t 10))]⟩, 
          ⟨none, none, .st 2 (.t 2) (.t 11)⟩])
      (.ret))
    (.skip)))
  (.seq (.reg [⟨some 12, none, .mv (.t 0)⟩, 
      ⟨some 13, none, .call 56 [(1, (.t 12))]⟩, 
      ⟨some 14, none, .call 72 [(1, (.k (.b false))), (1, (.t 13))]⟩, 
      ⟨none, none, .st 2 (.t 2) (.t 14)⟩])
  (.ret)))
theorem part_spec (n : Int) (h : Pi n) : AFun Try.prog J0 82 [.i .i64 n] (zN n) := by
  obtain ⟨h1, h2⟩ := h
  by_cases hn : n < 0
  · obtain ⟨k, hk⟩ : ∃ k : Nat, n = -((k : Int) + 1) := ⟨(-(n + 1)).toNat, by omega⟩
    have p1 := (hword_spec k (by omega)).frozen
    have p2 := (hword_spec 1 (by decide)).frozen
    have p3 := (haddN (u := k) (v := 1) (m := 1) (BW1 (by omega)) (BW1 (by omega)) (by decide)).frozen
    have p4 := hID true (n := k + 1) (m := 1) (BW1 (by omega)) (by decide)
    rw [show zI true (k + 1) = n from by unfold zI; rw [hk]; simp] at p4
    have w1 : IntKind.i64.wrap (n + 1) = n + 1 := wi (by omega)
    have w2 : IntKind.i64.wrap (0 - (n + 1)) = (k : Int) := by rw [wi (by omega)]; omega
    have e1 : zN n = .g [.b true, .l 1 (W (dg B n.natAbs))] := by show V.g [.b (decide (n < 0)), _] = _; rw [decide_eq_true hn]
    rw [e1] at p4 ⊢
    generalize W (dg B n.natAbs) = c at *
    refine AFun.mkc fol J0s Try.func82 rfl (ac := a82) (by kernel_rfl) (rs := [.c 2 true 2]) (by kernel_rfl) rfl ?_
    apply vm_start
    unfold a82
    simp only [init_eq, initE]
    have zc1 := p1
    have zc2 := p2
    have zc3 := p3
    have zc4 := p4
    repeat first | (refine hK _ ?_; clear hK K) | simp only [Sv, ↓reduceIte, Nat.reduceEqDiff] | ((first | refine vm_reg (fun K hK => ?_) | refine vm_dreg (fun K hK => ?_) | refine clp_q ?_ | refine clq_mk (by assumption) ?_); simp (disch := (first | omega | assumption)) only [S1, ↓reduceIte, Nat.reduceEqDiff, Nat.reduceAdd, Nat.reduceMul, Nat.reduceDiv, AOp.sb, AOp.mut, ↓Bool.false_eq_true, beq_self_eq_true, ite_self, Nat.reduceLeDiff, Int.reduceEq, Int.reduceSub, Int.reduceAdd, Int.reduceNeg, Int.reduceLT, Int.reduceLE, Nat.reduceLT, bz_R23a, hn, w1, w2])
    simp (disch := (first | omega | assumption)) only [retC, rsVs_nil, rsVs_cons, rsV_t, rsV_c, rsp_pt, rsq_t, rsq_f, ocons_ss, retV_1, retV_2, retNV_nil, retNV_cons, retOk, retN, ret1, retF, ret1F, V.okArg, and_true, true_and, S1, ↓reduceIte, Nat.reduceEqDiff, Nat.reduceAdd, Nat.reduceMul, Nat.reduceDiv, AOp.sb, AOp.mut, ↓Bool.false_eq_true, beq_self_eq_true, ite_self, Nat.reduceLeDiff, Int.reduceEq, Int.reduceSub, Int.reduceAdd, Int.reduceNeg, Int.reduceLT, Int.reduceLE, Nat.reduceLT, bz_R23a, hn, w1, w2]
  · obtain ⟨k, rfl⟩ : ∃ k : Nat, n = (k : Int) := ⟨n.toNat, by omega⟩
    have p1 := (hword_spec k (by omega)).frozen
    have p4 := hID false (n := k) (m := 1) (BW1 (by omega)) (by decide)
    rw [show zI false k = (k : Int) from rfl] at p4
    have e1 : zN (k : Int) = .g [.b false, .l 1 (W (dg B (k : Int).natAbs))] := by show V.g [.b (decide ((k : Int) < 0)), _] = _; rw [decide_eq_false hn]
    rw [e1] at p4 ⊢
    generalize W (dg B (k : Int).natAbs) = c at *
    refine AFun.mkc fol J0s Try.func82 rfl (ac := a82) (by kernel_rfl) (rs := [.c 2 true 2]) (by kernel_rfl) rfl ?_
    apply vm_start
    unfold a82
    simp only [init_eq, initE]
    have zc5 := p1
    have zc6 := p4
    repeat first | (refine hK _ ?_; clear hK K) | simp only [Sv, ↓reduceIte, Nat.reduceEqDiff] | ((first | refine vm_reg (fun K hK => ?_) | refine vm_dreg (fun K hK => ?_) | refine clp_q ?_ | refine clq_mk (by assumption) ?_); simp (disch := (first | omega | assumption)) only [S1, ↓reduceIte, Nat.reduceEqDiff, Nat.reduceAdd, Nat.reduceMul, Nat.reduceDiv, AOp.sb, AOp.mut, ↓Bool.false_eq_true, beq_self_eq_true, ite_self, Nat.reduceLeDiff, Int.reduceEq, Int.reduceSub, Int.reduceAdd, Int.reduceNeg, Int.reduceLT, Int.reduceLE, Nat.reduceLT, bz_R23a, hn])
    simp (disch := (first | omega | assumption)) only [retC, rsVs_nil, rsVs_cons, rsV_t, rsV_c, rsp_pt, rsq_t, rsq_f, ocons_ss, retV_1, retV_2, retNV_nil, retNV_cons, retOk, retN, ret1, retF, ret1F, V.okArg, and_true, true_and, S1, ↓reduceIte, Nat.reduceEqDiff, Nat.reduceAdd, Nat.reduceMul, Nat.reduceDiv, AOp.sb, AOp.mut, ↓Bool.false_eq_true, beq_self_eq_true, ite_self, Nat.reduceLeDiff, Int.reduceEq, Int.reduceSub, Int.reduceAdd, Int.reduceNeg, Int.reduceLT, Int.reduceLE, Nat.reduceLT, bz_R23a, hn]
-- surd/surdref23.of
def a53 : AC := .seq (.reg [⟨some 1, none, .bx 27 (.t 0)⟩, 
      ⟨some 2, none, .al 90 [(.b false), (.l 1 []), (.b false), (.l 1 [])]⟩])
  (.seq (.dreg [⟨some 3, none, .fad 0 (.t 1)⟩, 
      ⟨some 4, none, .ld false 1 (.t 3)⟩, 
      ⟨some 5, none, .call 82 [(1, (.t 4))]⟩, 
      ⟨some 6, none, .fad 1 (.t 1)⟩, 
      ⟨some 7, none, .ld false 1 (.t 6)⟩, 
      ⟨some 8, none, .call 82 [(1, (.t 7))]⟩, 
      ⟨some 9, none, .bld [(.b false), (.l 1 []), (.b false), (.l 1 [])] [(0, 2, (.t 5)), (2, 2, (.t 8))]⟩, 
      ⟨none, none, .st 4 (.t 2) (.t 9)⟩])
  (.ret))
theorem of23_spec (z : GZ) (h : Pi z.1 ∧ Pi z.2) : AFun Try.prog J0 53 [nV z] (LV z) := by
  have p1 := part_spec z.1 h.1
  have p2 := part_spec z.2 h.2
  simp only [nV, LV, LZ]
  refine AFun.mkc fol J0s Try.func53 rfl (ac := a53) (by kernel_rfl) (rs := [.c 2 true 4]) (by kernel_rfl) rfl ?_
  apply vm_start
  unfold a53
  simp only [init_eq, initE]
  have zc7 := p1
  have zc8 := p2
  repeat first | (refine hK _ ?_; clear hK K) | simp only [Sv, ↓reduceIte, Nat.reduceEqDiff] | ((first | refine vm_reg (fun K hK => ?_) | refine vm_dreg (fun K hK => ?_) | refine clp_q ?_ | refine clq_mk (by assumption) ?_); simp (disch := (first | omega | assumption)) only [S1, ↓reduceIte, Nat.reduceEqDiff, Nat.reduceAdd, Nat.reduceMul, Nat.reduceDiv, AOp.sb, AOp.mut, ↓Bool.false_eq_true, beq_self_eq_true, ite_self, Nat.reduceLeDiff, Int.reduceEq, Int.reduceSub, Int.reduceAdd, Int.reduceNeg, Int.reduceLT, Int.reduceLE, Nat.reduceLT, bz_R23a])
  simp (disch := (first | omega | assumption)) only [retC, rsVs_nil, rsVs_cons, rsV_t, rsV_c, rsp_pt, rsq_t, rsq_f, ocons_ss, retV_1, retV_2, retNV_nil, retNV_cons, retOk, retN, ret1, retF, ret1F, V.okArg, and_true, true_and, S1, ↓reduceIte, Nat.reduceEqDiff, Nat.reduceAdd, Nat.reduceMul, Nat.reduceDiv, AOp.sb, AOp.mut, ↓Bool.false_eq_true, beq_self_eq_true, ite_self, Nat.reduceLeDiff, Int.reduceEq, Int.reduceSub, Int.reduceAdd, Int.reduceNeg, Int.reduceLT, Int.reduceLE, Nat.reduceLT, bz_R23a]
-- surd/surdref23.size
def a52 : AC := .seq (.reg [⟨some 1, none, .bx 90 (.t 0)⟩, 
      ⟨some 2, none, .mv (.k .nl)⟩])
  (.seq (.reg [⟨some 3, none, .fad 0 (.t 1)⟩, 
      ⟨some 4, none, .fad 1 (.t 3)⟩, 
      ⟨some 5, none, .ld false 1 (.t 4)⟩, 
      ⟨some 6, none, .fad 2 (.t 1)⟩, 
      ⟨some 7, none, .fad 1 (.t 6)⟩, 
      ⟨some 8, none, .ld false 1 (.t 7)⟩, 
      ⟨some 9, none, .call 57 [(1, (.t 5)), (1, (.t 8))]⟩, 
      ⟨some 2, none, .mv (.t 9)⟩])
  (.ret))
theorem size23_spec (z : GZ) (m : Nat) (hm : m ≤ 100000000) (h : ZB z m) : AFun Try.prog J0 52 [LV z] (.l 1 (W (dg B (gsz z)))) := by
  have p1 := (haddN h.1 h.2 hm).frozen
  simp only [LV, LZ]
  unfold gsz
  refine AFun.mk fol J0s Try.func52 rfl (ac := a52) (by kernel_rfl) rfl rfl ?_
  apply vm_start
  unfold a52
  simp only [init_eq, initE]
  have zc9 := p1
  repeat first | (refine hK _ ?_; clear hK K) | simp only [Sv, ↓reduceIte, Nat.reduceEqDiff] | ((first | refine vm_reg (fun K hK => ?_) | refine vm_dreg (fun K hK => ?_) | refine clp_q ?_ | refine clq_mk (by assumption) ?_); simp (disch := (first | omega | assumption)) only [S1, ↓reduceIte, Nat.reduceEqDiff, Nat.reduceAdd, Nat.reduceMul, Nat.reduceDiv, AOp.sb, AOp.mut, ↓Bool.false_eq_true, beq_self_eq_true, ite_self, Nat.reduceLeDiff, Int.reduceEq, Int.reduceSub, Int.reduceAdd, Int.reduceNeg, Int.reduceLT, Int.reduceLE, Nat.reduceLT, bz_R23a])
  simp (disch := (first | omega | assumption)) only [retOk, retN, ret1, retF, ret1F, V.okArg, and_true, true_and, S1, ↓reduceIte, Nat.reduceEqDiff, Nat.reduceAdd, Nat.reduceMul, Nat.reduceDiv, AOp.sb, AOp.mut, ↓Bool.false_eq_true, beq_self_eq_true, ite_self, Nat.reduceLeDiff, Int.reduceEq, Int.reduceSub, Int.reduceAdd, Int.reduceNeg, Int.reduceLT, Int.reduceLE, Nat.reduceLT, bz_R23a]
-- surd/surdref23.small
def a54 : AC := .seq (.reg [⟨some 2, none, .mv (.k (.b false))⟩])
  (.seq (.reg [⟨some 3, none, .mv (.t 0)⟩, 
      ⟨some 4, none, .call 56 [(1, (.k (.i .i64 1125899906842624)))]⟩, 
      ⟨some 5, none, .call 73 [(1, (.t 3)), (1, (.t 4))]⟩, 
      ⟨some 6, none, .bin .lss (.t 5) (.k (.i .i64 0))⟩, 
      ⟨some 2, none, .mv (.t 6)⟩])
  (.ret))
theorem small23_spec (u m : Nat) (hm : m ≤ 100000000) (h1 : 1 ≤ m) (h : u < B ^ m) : AFun Try.prog J0 54 [.l 1 (W (dg B u))] (.b (decide (u < SM))) := by
  have p1 := (hword_spec SM (by decide)).frozen
  have p2 := hcmpN h (v := SM) (Nat.lt_of_lt_of_le (BW1 (by decide)) (Nat.pow_le_pow_right (by decide) h1)) hm
  have hs : (sg u SM < 0) = (u < SM) := by
    unfold sg; split
    · rename_i h; simp [h]
    · rename_i h; split <;> simp [h]
  rw [show ((SM : Nat) : Int) = 1125899906842624 from rfl] at p1
  generalize sg u SM = s at *
  refine AFun.mk fol J0s Try.func54 rfl (ac := a54) (by kernel_rfl) rfl rfl ?_
  apply vm_start
  unfold a54
  simp only [init_eq, initE]
  have zc10 := p1
  have zc11 := p2
  repeat first | (refine hK _ ?_; clear hK K) | simp only [Sv, ↓reduceIte, Nat.reduceEqDiff] | ((first | refine vm_reg (fun K hK => ?_) | refine vm_dreg (fun K hK => ?_) | refine clp_q ?_ | refine clq_mk (by assumption) ?_); simp (disch := (first | omega | assumption)) only [S1, ↓reduceIte, Nat.reduceEqDiff, Nat.reduceAdd, Nat.reduceMul, Nat.reduceDiv, AOp.sb, AOp.mut, ↓Bool.false_eq_true, beq_self_eq_true, ite_self, Nat.reduceLeDiff, Int.reduceEq, Int.reduceSub, Int.reduceAdd, Int.reduceNeg, Int.reduceLT, Int.reduceLE, Nat.reduceLT, bz_R23a, hs])
  simp (disch := (first | omega | assumption)) only [retOk, retN, ret1, retF, ret1F, V.okArg, and_true, true_and, S1, ↓reduceIte, Nat.reduceEqDiff, Nat.reduceAdd, Nat.reduceMul, Nat.reduceDiv, AOp.sb, AOp.mut, ↓Bool.false_eq_true, beq_self_eq_true, ite_self, Nat.reduceLeDiff, Int.reduceEq, Int.reduceSub, Int.reduceAdd, Int.reduceNeg, Int.reduceLT, Int.reduceLE, Nat.reduceLT, bz_R23a, hs]
-- surd/surdref23.plain
def a71 : AC := .seq (.reg [⟨some 1, none, .bx 83 (.t 0)⟩, 
      ⟨some 2, none, .mv (.k (.i .i64 0))⟩])
  (.seq (.reg [⟨some 3, none, .mv (.k (.i .i64 0))⟩])
  (.seq (.seq (.reg [⟨some 5, none, .fad 1 (.t 1)⟩, 
        ⟨some 6, none, .ld false 1 (.t 5)⟩, 
        ⟨some 7, none, .len (.t 6)⟩, 
        ⟨some 8, none, .bin .sub (.t 7) (.k (.i .i64 1))⟩, 
        ⟨some 4, none, .mv (.t 8)⟩])
    (.blk 0
    (.loop
      (.seq (.seq (.reg [⟨some 9, none, .mv (.t 4)⟩, 
              ⟨some 10, none, .bin .geq (.t 9) (.k (.i .i64 0))⟩])
          (.cond (.t 10)
          (.skip)
          (.exit 0)))
        (.seq (.blk 1
          (.reg [⟨some 13, none, .fad 1 (.t 1)⟩, 
              ⟨some 14, none, .ld false 1 (.t 13)⟩, 
              ⟨some 15, none, .mv (.t 4)⟩, 
              ⟨some 16, none, .idx 1 (.t 14) (.t 15)⟩, 
              ⟨some 17, none, .ld false 1 (.t 16)⟩, 
              ⟨some 18, none, .cvt .i64 (.t 17)⟩, 
              ⟨some 3, none, .mv (.t 18)⟩]))
        (.reg [⟨some 11, none, .mv (.t 4)⟩, 
          ⟨some 12, none, .bin .sub (.t 11) (.k (.i .i64 1))⟩, 
          ⟨some 4, none, .mv (.t 12)⟩]))))))
  (.seq (.seq (.reg [⟨some 19, none, .fad 0 (.t 1)⟩, 
        ⟨some 20, none, .ld false 1 (.t 19)⟩])
    (.cond (.t 20)
    (.seq (.reg [⟨some 21, none, .mv (.t 3)⟩, 
          ⟨some 22, none, .un .neg (.t 21)⟩, 
          ⟨some 2, none, .mv (.t 22)⟩])
      (.ret))
    (.skip)))
  (.seq (.reg [⟨some 23, none, .mv (.t 3)⟩, 
      ⟨some 2, none, .mv (.t 23)⟩])
  (.ret)))))
theorem plain_spec (c : Int) (h : c.natAbs < 9223372036854775808) : AFun Try.prog J0 71 [zN c] (.i .i64 c) := by
  obtain ⟨s, hs⟩ : ∃ s, s = decide (c < 0) := ⟨_, rfl⟩
  obtain ⟨u, hu⟩ : ∃ u, u = c.natAbs := ⟨_, rfl⟩
  show AFun Try.prog J0 71 [.g [.b (decide (c < 0)), .l 1 (W (dg B c.natAbs))]] (.i .i64 c)
  rw [← hs, ← hu]
  obtain ⟨L, hL⟩ : ∃ L, L = (dg B u).length := ⟨_, rfl⟩
  have hL1 : L ≤ 1 := by rw [hL]; exact dlen (BW1 (by omega))
  have hLu : L = 0 → u = 0 := fun h => (dg_nil B2).1 (List.eq_nil_of_length_eq_zero (by omega))
  have hg : L = 1 → (dg B u).getD 0 0 = u := fun h => by
    rcases Nat.eq_zero_or_pos u with h0 | h0
    · rw [h0, dg_zero] at hL; simp at hL; omega
    · rw [dg_one h0 (by show u < 18446744073709551616; omega)]; rfl
  generalize dg B u = d at *
  have wu1 : IntKind.i64.wrap (u : Int) = (u : Int) := wi (by omega)
  refine AFun.mk fol J0s Try.func71 rfl (ac := a71) (by kernel_rfl) rfl rfl ?_
  apply vm_start
  unfold a71
  simp only [init_eq, initE]
  repeat first
    | (refine hK _ ?_; clear hK K)
    | ((first | refine vm_reg (fun K hK => ?_) | refine vm_dreg (fun K hK => ?_)); simp (disch := (first | omega | assumption)) only [S1, ↓reduceIte, Nat.reduceEqDiff, Nat.reduceAdd, Nat.reduceMul, Nat.reduceDiv, AOp.sb, AOp.mut, ↓Bool.false_eq_true, beq_self_eq_true, ite_self, Nat.reduceLeDiff, Int.reduceEq, Int.reduceSub, Int.reduceAdd, Int.reduceNeg, Int.reduceLT, Int.reduceLE, Nat.reduceLT, bz_R23a, ← hL]; refine hK _ ?_; clear hK K)
    | simp only [Sv, ↓reduceIte, Nat.reduceEqDiff]
  refine vm_loopA [] Nat (fun k => ⟨[(1, .pt 0 0), (3, .i .i64 ((if k = L then 0 else u : Nat) : Int)), (4, .i .i64 ((k : Int) - 1))], [(0, some ⟨83, 2, [.b s, .l 1 (W d)], true, true⟩)], 1⟩)
    (fun k => k ≤ L) (fun k => k) L (Nat.le_refl _) (by simp (disch := (first | omega | assumption)) only [Sl, Sa, Sw, ↓reduceIte, Nat.reduceEqDiff, Nat.reduceLT, List.all_nil, List.all_cons, Nat.reduceBneDiff, Nat.reduceAdd, bne_iff_ne, ne_eq, reduceCtorEq, not_false_eq_true, not_true_eq_false, Bool.and_true, Bool.true_and, and_true, true_and, and_self]) (by
    simp (disch := (first | omega | assumption)) only [Sl, Sa, Sw, ↓reduceIte, Nat.reduceEqDiff, Nat.reduceLT, List.all_nil, List.all_cons, Nat.reduceBneDiff, Nat.reduceAdd, bne_iff_ne, ne_eq, reduceCtorEq, not_false_eq_true, not_true_eq_false, Bool.and_true, Bool.true_and, and_true, true_and, and_self, i_eq]
    repeat' first | rfl | omega | (simp only [List.length_append, List.length_cons, List.length_nil]; done) | apply And.intro) ?_
  intro k hk Q' hQ he hr
  have e1 : (if 0 = L then 0 else u) = u := by split; (rename_i h; exact (hLu h.symm).symm); rfl
  by_cases h0 : (0 : Int) ≤ (k : Int) - 1
  · obtain rfl : k = 1 := by omega
    have hg1 := hg (by omega)
    have hw := W_get d 0 (by omega)
    rw [hg1] at hw
    have e0 : ((1 : Nat) : Int) - 1 = 0 := rfl
    simp only [e0]
    repeat first
      | (refine hK _ ?_; clear hK K)
      | ((first | refine vm_reg (fun K hK => ?_) | refine vm_dreg (fun K hK => ?_)); simp (disch := (first | omega | assumption)) only [S1, ↓reduceIte, Nat.reduceEqDiff, Nat.reduceAdd, Nat.reduceMul, Nat.reduceDiv, AOp.sb, AOp.mut, ↓Bool.false_eq_true, beq_self_eq_true, ite_self, Nat.reduceLeDiff, Int.reduceEq, Int.reduceSub, Int.reduceAdd, Int.reduceNeg, Int.reduceLT, Int.reduceLE, Nat.reduceLT, bz_R23a, ← hL, Int.toNat_zero, hw, wu1]; refine hK _ ?_; clear hK K)
      | simp only [Sv, ↓reduceIte, Nat.reduceEqDiff]
    refine hQ _ 0 (by omega) (by omega) ?_
    simp (disch := (first | omega | assumption)) only [Sl, Sa, Sw, ↓reduceIte, Nat.reduceEqDiff, Nat.reduceLT, List.all_nil, List.all_cons, Nat.reduceBneDiff, Nat.reduceAdd, bne_iff_ne, ne_eq, reduceCtorEq, not_false_eq_true, not_true_eq_false, Bool.and_true, Bool.true_and, and_true, true_and, and_self, i_eq]
    rw [e1]
    repeat' first | rfl | omega | (simp only [List.length_append, List.length_cons, List.length_nil]; done) | apply And.intro
  · obtain rfl : k = 0 := by omega
    rw [e1]
    repeat first
      | (refine hK _ ?_; clear hK K)
      | ((first | refine vm_reg (fun K hK => ?_) | refine vm_dreg (fun K hK => ?_)); simp (disch := (first | omega | assumption)) only [S1, ↓reduceIte, Nat.reduceEqDiff, Nat.reduceAdd, Nat.reduceMul, Nat.reduceDiv, AOp.sb, AOp.mut, ↓Bool.false_eq_true, beq_self_eq_true, ite_self, Nat.reduceLeDiff, Int.reduceEq, Int.reduceSub, Int.reduceAdd, Int.reduceNeg, Int.reduceLT, Int.reduceLE, Nat.reduceLT, bz_R23a, h0]; refine hK _ ?_; clear hK K)
      | simp only [Sv, ↓reduceIte, Nat.reduceEqDiff]
    refine he _ _ ?_
    cases s with
    | true =>
      have hc : c < 0 := of_decide_eq_true hs.symm
      have w2 : IntKind.i64.wrap (0 - (u : Int)) = c := by rw [wi (by omega), hu]; omega
      repeat first
        | (refine hK _ ?_; clear hK K)
        | ((first | refine vm_reg (fun K hK => ?_) | refine vm_dreg (fun K hK => ?_)); simp (disch := (first | omega | assumption)) only [S1, ↓reduceIte, Nat.reduceEqDiff, Nat.reduceAdd, Nat.reduceMul, Nat.reduceDiv, AOp.sb, AOp.mut, ↓Bool.false_eq_true, beq_self_eq_true, ite_self, Nat.reduceLeDiff, Int.reduceEq, Int.reduceSub, Int.reduceAdd, Int.reduceNeg, Int.reduceLT, Int.reduceLE, Nat.reduceLT, bz_R23a, w2]; refine hK _ ?_; clear hK K)
        | simp only [Sv, ↓reduceIte, Nat.reduceEqDiff]
      simp (disch := (first | omega | assumption)) only [retOk, retN, ret1, retF, ret1F, V.okArg, and_true, true_and, S1, ↓reduceIte, Nat.reduceEqDiff, Nat.reduceAdd, Nat.reduceMul, Nat.reduceDiv, AOp.sb, AOp.mut, ↓Bool.false_eq_true, beq_self_eq_true, ite_self, Nat.reduceLeDiff, Int.reduceEq, Int.reduceSub, Int.reduceAdd, Int.reduceNeg, Int.reduceLT, Int.reduceLE, Nat.reduceLT, bz_R23a]
    | false =>
      have hc : ¬ c < 0 := of_decide_eq_false hs.symm
      have w2 : (u : Int) = c := by rw [hu]; omega
      repeat first
        | (refine hK _ ?_; clear hK K)
        | ((first | refine vm_reg (fun K hK => ?_) | refine vm_dreg (fun K hK => ?_)); simp (disch := (first | omega | assumption)) only [S1, ↓reduceIte, Nat.reduceEqDiff, Nat.reduceAdd, Nat.reduceMul, Nat.reduceDiv, AOp.sb, AOp.mut, ↓Bool.false_eq_true, beq_self_eq_true, ite_self, Nat.reduceLeDiff, Int.reduceEq, Int.reduceSub, Int.reduceAdd, Int.reduceNeg, Int.reduceLT, Int.reduceLE, Nat.reduceLT, bz_R23a]; refine hK _ ?_; clear hK K)
        | simp only [Sv, ↓reduceIte, Nat.reduceEqDiff]
      simp (disch := (first | omega | assumption)) only [retOk, retN, ret1, retF, ret1F, V.okArg, and_true, true_and, S1, ↓reduceIte, Nat.reduceEqDiff, Nat.reduceAdd, Nat.reduceMul, Nat.reduceDiv, AOp.sb, AOp.mut, ↓Bool.false_eq_true, beq_self_eq_true, ite_self, Nat.reduceLeDiff, Int.reduceEq, Int.reduceSub, Int.reduceAdd, Int.reduceNeg, Int.reduceLT, Int.reduceLE, Nat.reduceLT, bz_R23a, w2]
-- surd/surdref23.num
def a62 : AC := .seq (.reg [⟨some 1, none, .bx 90 (.t 0)⟩, 
      ⟨some 2, none, .al 27 [(.i .i64 0), (.i .i64 0)]⟩])
  (.seq (.dreg [⟨some 3, none, .fad 0 (.t 1)⟩, 
      ⟨some 4, none, .ld true 2 (.t 3)⟩, 
      ⟨some 5, none, .call 71 [(1, (.t 4))]⟩, 
      ⟨some 6, none, .fad 2 (.t 1)⟩, 
      ⟨some 7, none, .ld true 2 (.t 6)⟩, 
      ⟨some 8, none, .call 71 [(1, (.t 7))]⟩, 
      ⟨some 9, none, .bld [(.i .i64 0), (.i .i64 0)] [(0, 1, (.t 5)), (1, 1, (.t 8))]⟩, 
      ⟨none, none, .st 2 (.t 2) (.t 9)⟩])
  (.ret))
theorem num23_spec (z : GZ) (h : z.1.natAbs < 9223372036854775808 ∧ z.2.natAbs < 9223372036854775808) : AFun Try.prog J0 62 [LV z] (nV z) := by
  have p1 := plain_spec z.1 h.1
  have p2 := plain_spec z.2 h.2
  simp only [nV, LV, LZ]
  refine AFun.mkc fol J0s Try.func62 rfl (ac := a62) (by kernel_rfl) (rs := [.c 2 true 2]) (by kernel_rfl) rfl ?_
  apply vm_start
  unfold a62
  simp only [init_eq, initE]
  have zc12 := p1
  have zc13 := p2
  repeat first | (refine hK _ ?_; clear hK K) | simp only [Sv, ↓reduceIte, Nat.reduceEqDiff] | ((first | refine vm_reg (fun K hK => ?_) | refine vm_dreg (fun K hK => ?_) | refine clp_q ?_ | refine clq_mk (by assumption) ?_); simp (disch := (first | omega | assumption)) only [S1, ↓reduceIte, Nat.reduceEqDiff, Nat.reduceAdd, Nat.reduceMul, Nat.reduceDiv, AOp.sb, AOp.mut, ↓Bool.false_eq_true, beq_self_eq_true, ite_self, Nat.reduceLeDiff, Int.reduceEq, Int.reduceSub, Int.reduceAdd, Int.reduceNeg, Int.reduceLT, Int.reduceLE, Nat.reduceLT, bz_R23a])
  simp (disch := (first | omega | assumption)) only [retC, rsVs_nil, rsVs_cons, rsV_t, rsV_c, rsp_pt, rsq_t, rsq_f, ocons_ss, retV_1, retV_2, retNV_nil, retNV_cons, retOk, retN, ret1, retF, ret1F, V.okArg, and_true, true_and, S1, ↓reduceIte, Nat.reduceEqDiff, Nat.reduceAdd, Nat.reduceMul, Nat.reduceDiv, AOp.sb, AOp.mut, ↓Bool.false_eq_true, beq_self_eq_true, ite_self, Nat.reduceLeDiff, Int.reduceEq, Int.reduceSub, Int.reduceAdd, Int.reduceNeg, Int.reduceLT, Int.reduceLE, Nat.reduceLT, bz_R23a]
-- surd/surdref23.add
def a59 : AC := .seq (.reg [⟨some 2, none, .bx 90 (.t 0)⟩, 
      ⟨some 3, none, .bx 90 (.t 1)⟩, 
      ⟨some 4, none, .al 90 [(.b false), (.l 1 []), (.b false), (.l 1 [])]⟩])
  (.seq (.dreg [⟨some 5, none, .fad 0 (.t 2)⟩, 
      ⟨some 6, none, .ld true 2 (.t 5)⟩, 
      ⟨some 7, none, .fad 0 (.t 3)⟩, 
      ⟨some 8, none, .ld true 2 (.t 7)⟩, 
      ⟨some 9, none, .call 89 [(1, (.t 6)), (1, (.t 8))]⟩, 
      ⟨some 10, none, .fad 2 (.t 2)⟩, 
      ⟨some 11, none, .ld true 2 (.t 10)⟩, 
      ⟨some 12, none, .fad 2 (.t 3)⟩, 
      ⟨some 13, none, .ld true 2 (.t 12)⟩, 
      ⟨some 14, none, .call 89 [(1, (.t 11)), (1, (.t 13))]⟩, 
      ⟨some 15, none, .bld [(.b false), (.l 1 []), (.b false), (.l 1 [])] [(0, 2, (.t 9)), (2, 2, (.t 14))]⟩, 
      ⟨none, none, .st 4 (.t 4) (.t 15)⟩])
  (.ret))
theorem add23_spec (x y : GZ) (m : Nat) (hm : m ≤ 100000000) (hx : ZB x m) (hy : ZB y m) : AFun Try.prog J0 59 [LV x, LV y] (LV (gadd x y)) := by
  have p1 := haddZ hx.1 hy.1 hm
  have p2 := haddZ hx.2 hy.2 hm
  show AFun Try.prog J0 59 [LV x, LV y] (LZ (x.1 + y.1) (x.2 + y.2))
  generalize x.1 + y.1 = a at *
  generalize x.2 + y.2 = b at *
  simp only [LV, LZ]
  refine AFun.mkc fol J0s Try.func59 rfl (ac := a59) (by kernel_rfl) (rs := [.c 4 true 4]) (by kernel_rfl) rfl ?_
  apply vm_start
  unfold a59
  simp only [init_eq, initE]
  have zc14 := p1
  have zc15 := p2
  repeat first | (refine hK _ ?_; clear hK K) | simp only [Sv, ↓reduceIte, Nat.reduceEqDiff] | ((first | refine vm_reg (fun K hK => ?_) | refine vm_dreg (fun K hK => ?_) | refine clp_q ?_ | refine clq_mk (by assumption) ?_); simp (disch := (first | omega | assumption)) only [S1, ↓reduceIte, Nat.reduceEqDiff, Nat.reduceAdd, Nat.reduceMul, Nat.reduceDiv, AOp.sb, AOp.mut, ↓Bool.false_eq_true, beq_self_eq_true, ite_self, Nat.reduceLeDiff, Int.reduceEq, Int.reduceSub, Int.reduceAdd, Int.reduceNeg, Int.reduceLT, Int.reduceLE, Nat.reduceLT, bz_R23a])
  simp (disch := (first | omega | assumption)) only [retC, rsVs_nil, rsVs_cons, rsV_t, rsV_c, rsp_pt, rsq_t, rsq_f, ocons_ss, retV_1, retV_2, retNV_nil, retNV_cons, retOk, retN, ret1, retF, ret1F, V.okArg, and_true, true_and, S1, ↓reduceIte, Nat.reduceEqDiff, Nat.reduceAdd, Nat.reduceMul, Nat.reduceDiv, AOp.sb, AOp.mut, ↓Bool.false_eq_true, beq_self_eq_true, ite_self, Nat.reduceLeDiff, Int.reduceEq, Int.reduceSub, Int.reduceAdd, Int.reduceNeg, Int.reduceLT, Int.reduceLE, Nat.reduceLT, bz_R23a]
theorem zprod {a b : Int} {m : Nat} (ha : a.natAbs < B ^ m) (hb : b.natAbs < B ^ m) : (a * b).natAbs < B ^ (m + m) := by
  rw [Int.natAbs_mul, Nat.pow_add]; exact Nat.mul_lt_mul_of_lt_of_lt ha hb
-- surd/surdref23.mul
def a60 : AC := .seq (.reg [⟨some 2, none, .bx 90 (.t 0)⟩, 
      ⟨some 3, none, .bx 90 (.t 1)⟩, 
      ⟨some 4, none, .al 90 [(.b false), (.l 1 []), (.b false), (.l 1 [])]⟩])
  (.seq (.dreg [⟨some 5, none, .fad 0 (.t 2)⟩, 
      ⟨some 6, none, .ld true 2 (.t 5)⟩, 
      ⟨some 7, none, .fad 0 (.t 3)⟩, 
      ⟨some 8, none, .ld true 2 (.t 7)⟩, 
      ⟨some 9, none, .call 91 [(1, (.t 6)), (1, (.t 8))]⟩, 
      ⟨some 10, none, .fad 2 (.t 2)⟩, 
      ⟨some 11, none, .ld true 2 (.t 10)⟩, 
      ⟨some 12, none, .fad 2 (.t 3)⟩, 
      ⟨some 13, none, .ld true 2 (.t 12)⟩, 
      ⟨some 14, none, .call 91 [(1, (.t 11)), (1, (.t 13))]⟩, 
      ⟨some 15, none, .call 90 [(1, (.t 9)), (1, (.t 14))]⟩, 
      ⟨some 16, none, .fad 0 (.t 2)⟩, 
      ⟨some 17, none, .ld true 2 (.t 16)⟩, 
      ⟨some 18, none, .fad 2 (.t 3)⟩, 
      ⟨some 19, none, .ld true 2 (.t 18)⟩, 
      ⟨some 20, none, .call 91 [(1, (.t 17)), (1, (.t 19))]⟩, 
      ⟨some 21, none, .fad 2 (.t 2)⟩, 
      ⟨some 22, none, .ld true 2 (.t 21)⟩, 
      ⟨some 23, none, .fad 0 (.t 3)⟩, 
      ⟨some 24, none, .ld true 2 (.t 23)⟩, 
      ⟨some 25, none, .call 91 [(1, (.t 22)), (1, (.t 24))]⟩, 
      ⟨some 26, none, .call 89 [(1, (.t 20)), (1, (.t 25))]⟩, 
      ⟨some 27, none, .bld [(.b false), (.l 1 []), (.b false), (.l 1 [])] [(0, 2, (.t 15)), (2, 2, (.t 26))]⟩, 
      ⟨none, none, .st 4 (.t 4) (.t 27)⟩])
  (.ret))
theorem mul23_spec (x y : GZ) (m : Nat) (hm : m ≤ 10000000) (hx : ZB x m) (hy : ZB y m) : AFun Try.prog J0 60 [LV x, LV y] (LV (gmul x y)) := by
  have p1 := hmulZ hx.1 hy.1 (by omega)
  have p2 := hmulZ hx.2 hy.2 (by omega)
  have p3 := hmulZ hx.1 hy.2 (by omega)
  have p4 := hmulZ hx.2 hy.1 (by omega)
  have p5 := hsubZ (zprod hx.1 hy.1) (zprod hx.2 hy.2) (by omega)
  have p6 := haddZ (zprod hx.1 hy.2) (zprod hx.2 hy.1) (by omega)
  show AFun Try.prog J0 60 [LV x, LV y] (LZ (x.1 * y.1 - x.2 * y.2) (x.1 * y.2 + x.2 * y.1))
  generalize x.1 * y.1 = a at *
  generalize x.2 * y.2 = b at *
  generalize x.1 * y.2 = c at *
  generalize x.2 * y.1 = d at *
  generalize a - b = e at *
  generalize c + d = f at *
  simp only [LV, LZ]
  refine AFun.mkc fol J0s Try.func60 rfl (ac := a60) (by kernel_rfl) (rs := [.c 4 true 4]) (by kernel_rfl) rfl ?_
  apply vm_start
  unfold a60
  simp only [init_eq, initE]
  have zc16 := p1
  have zc17 := p2
  have zc18 := p5
  have zc19 := p3
  have zc20 := p4
  have zc21 := p6
  repeat first | (refine hK _ ?_; clear hK K) | simp only [Sv, ↓reduceIte, Nat.reduceEqDiff] | ((first | refine vm_reg (fun K hK => ?_) | refine vm_dreg (fun K hK => ?_) | refine clp_q ?_ | refine clq_mk (by assumption) ?_); simp (disch := (first | omega | assumption)) only [S1, ↓reduceIte, Nat.reduceEqDiff, Nat.reduceAdd, Nat.reduceMul, Nat.reduceDiv, AOp.sb, AOp.mut, ↓Bool.false_eq_true, beq_self_eq_true, ite_self, Nat.reduceLeDiff, Int.reduceEq, Int.reduceSub, Int.reduceAdd, Int.reduceNeg, Int.reduceLT, Int.reduceLE, Nat.reduceLT, bz_R23a])
  simp (disch := (first | omega | assumption)) only [retC, rsVs_nil, rsVs_cons, rsV_t, rsV_c, rsp_pt, rsq_t, rsq_f, ocons_ss, retV_1, retV_2, retNV_nil, retNV_cons, retOk, retN, ret1, retF, ret1F, V.okArg, and_true, true_and, S1, ↓reduceIte, Nat.reduceEqDiff, Nat.reduceAdd, Nat.reduceMul, Nat.reduceDiv, AOp.sb, AOp.mut, ↓Bool.false_eq_true, beq_self_eq_true, ite_self, Nat.reduceLeDiff, Int.reduceEq, Int.reduceSub, Int.reduceAdd, Int.reduceNeg, Int.reduceLT, Int.reduceLE, Nat.reduceLT, bz_R23a]
end Go.Proofs.Ytfkldohgiifgbaa
