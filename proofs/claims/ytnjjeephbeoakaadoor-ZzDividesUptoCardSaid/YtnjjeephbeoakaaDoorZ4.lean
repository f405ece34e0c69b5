/-
  surdref07: forms, sums, products.
-/
import Derived.Test.YtnjjeephbeoakaaDoorZ2
import Derived.Test.YtnjjeephbeoakaaDoorZ3
import Derived.Test.YtnjjeephbeoakaaDoorRef5b
namespace Go.Proofs.YtnjjeephbeoakaaDoor
open Go Go.RowKit Ab
set_option linter.unusedSimpArgs false
set_option linter.unusedVariables false
set_option maxHeartbeats 10000000
theorem bz_Z4 : type_of% (And.intro @Bool.false_and (And.intro @wi (And.intro @tn_nat (And.intro @Nat.div_one (And.intro @Nat.mul_one (And.intro @W_len (And.intro @W_nf (And.intro @W_cell (And.intro @W_nil (And.intro @W_get (@nf_g))))))))))) := And.intro @Bool.false_and (And.intro @wi (And.intro @tn_nat (And.intro @Nat.div_one (And.intro @Nat.mul_one (And.intro @W_len (And.intro @W_nf (And.intro @W_cell (And.intro @W_nil (And.intro @W_get (@nf_g))))))))))

-- surd/surdref07.Make
def a37 : AC := .seq (.reg [⟨some 4, none, .al 25 [(.b false), (.l 1 [])]⟩])
  (.seq (.reg [⟨some 5, none, .mv (.t 1)⟩, 
      ⟨some 6, none, .call 57 [(1, (.t 5))]⟩, 
      ⟨some 1, none, .mv (.t 6)⟩])
  (.seq (.reg [⟨some 7, none, .mv (.t 0)⟩, 
      ⟨some 8, none, .mv (.t 7)⟩, 
      ⟨some 9, some (8, true), .mv (.t 1)⟩, 
      ⟨some 10, some (8, true), .len (.t 9)⟩, 
      ⟨some 11, some (8, true), .bin .gtr (.t 10) (.k (.i .i64 0))⟩, 
      ⟨some 12, none, .pick (.t 8) (.t 11) (.k (.b false))⟩, 
      ⟨some 13, none, .mv (.t 1)⟩, 
      ⟨some 14, none, .bld [(.b false), (.l 1 [])] [(0, 1, (.t 12)), (1, 1, (.t 13))]⟩, 
      ⟨none, none, .st 2 (.t 4) (.t 14)⟩])
  (.ret)))
theorem rmake_spec (s : Bool) (a : List Nat) (ha : Wd a) (la : a.length ≤ 1000000000) : AFun Tryd.prog J0 37 [.b s, .l 1 (W a)] (zN (zv s a)) := by
  have h1 := (rnorm_spec a ha (by omega)).frozen
  have e := zN_I s (nv B a)
  unfold zv
  rw [e]
  generalize nv B a = n at *
  refine AFun.mkc fol J0s Tryd.func37 rfl (ac := a37) (by kernel_rfl) (rs := [.c 4 true 2]) (by kernel_rfl) rfl ?_
  apply vm_start
  unfold a37
  simp only [init_eq, initE]
  cases s
  · have zc1 := h1
    repeat first | (refine hK _ ?_; clear hK K) | simp only [Sv, ↓reduceIte, Nat.reduceEqDiff] | ((first | refine vm_reg (fun K hK => ?_) | refine vm_dreg (fun K hK => ?_) | refine vm_dregx (fun K hK => ?_) | refine clp_q ?_ | refine clq_mk (by assumption) ?_); simp (disch := (first | omega | assumption)) only [S1, ↓reduceIte, Nat.reduceEqDiff, Nat.reduceAdd, Nat.reduceMul, Nat.reduceDiv, AOp.sb, AOp.mut, ↓Bool.false_eq_true, beq_self_eq_true, ite_self, Nat.reduceLeDiff, Int.reduceEq, Int.reduceSub, Int.reduceAdd, Int.reduceNeg, Int.reduceLT, Int.reduceLE, Nat.reduceLT, bz_Z4, List.length_nil])
    simp (disch := (first | omega | assumption)) only [retC, rsVs_nil, rsVs_cons, rsV_t, rsV_c, rsp_pt, rsq_t, rsq_f, ocons_ss, retV_1, retV_2, retNV_nil, retNV_cons, retOk, retN, ret1, retF, ret1F, V.okArg, and_true, true_and, S1, ↓reduceIte, Nat.reduceEqDiff, Nat.reduceAdd, Nat.reduceMul, Nat.reduceDiv, AOp.sb, AOp.mut, ↓Bool.false_eq_true, beq_self_eq_true, ite_self, Nat.reduceLeDiff, Int.reduceEq, Int.reduceSub, Int.reduceAdd, Int.reduceNeg, Int.reduceLT, Int.reduceLE, Nat.reduceLT, bz_Z4, List.length_nil]
  · by_cases h : 0 < n
    · have e : decide (0 < n) = true := decide_eq_true h
      rw [e]
      have zc2 := h1
      repeat first | (refine hK _ ?_; clear hK K) | simp only [Sv, ↓reduceIte, Nat.reduceEqDiff] | ((first | refine vm_reg (fun K hK => ?_) | refine vm_dreg (fun K hK => ?_) | refine vm_dregx (fun K hK => ?_) | refine clp_q ?_ | refine clq_mk (by assumption) ?_); simp (disch := (first | omega | assumption)) only [S1, ↓reduceIte, Nat.reduceEqDiff, Nat.reduceAdd, Nat.reduceMul, Nat.reduceDiv, AOp.sb, AOp.mut, ↓Bool.false_eq_true, beq_self_eq_true, ite_self, Nat.reduceLeDiff, Int.reduceEq, Int.reduceSub, Int.reduceAdd, Int.reduceNeg, Int.reduceLT, Int.reduceLE, Nat.reduceLT, bz_Z4, List.length_nil, dg_pos, h])
      simp (disch := (first | omega | assumption)) only [retC, rsVs_nil, rsVs_cons, rsV_t, rsV_c, rsp_pt, rsq_t, rsq_f, ocons_ss, retV_1, retV_2, retNV_nil, retNV_cons, retOk, retN, ret1, retF, ret1F, V.okArg, and_true, true_and, S1, ↓reduceIte, Nat.reduceEqDiff, Nat.reduceAdd, Nat.reduceMul, Nat.reduceDiv, AOp.sb, AOp.mut, ↓Bool.false_eq_true, beq_self_eq_true, ite_self, Nat.reduceLeDiff, Int.reduceEq, Int.reduceSub, Int.reduceAdd, Int.reduceNeg, Int.reduceLT, Int.reduceLE, Nat.reduceLT, bz_Z4, List.length_nil, dg_pos, h]
    · have e : decide (0 < n) = false := decide_eq_false h
      rw [e]
      have zc3 := h1
      repeat first | (refine hK _ ?_; clear hK K) | simp only [Sv, ↓reduceIte, Nat.reduceEqDiff] | ((first | refine vm_reg (fun K hK => ?_) | refine vm_dreg (fun K hK => ?_) | refine vm_dregx (fun K hK => ?_) | refine clp_q ?_ | refine clq_mk (by assumption) ?_); simp (disch := (first | omega | assumption)) only [S1, ↓reduceIte, Nat.reduceEqDiff, Nat.reduceAdd, Nat.reduceMul, Nat.reduceDiv, AOp.sb, AOp.mut, ↓Bool.false_eq_true, beq_self_eq_true, ite_self, Nat.reduceLeDiff, Int.reduceEq, Int.reduceSub, Int.reduceAdd, Int.reduceNeg, Int.reduceLT, Int.reduceLE, Nat.reduceLT, bz_Z4, List.length_nil, dg_pos, h])
      simp (disch := (first | omega | assumption)) only [retC, rsVs_nil, rsVs_cons, rsV_t, rsV_c, rsp_pt, rsq_t, rsq_f, ocons_ss, retV_1, retV_2, retNV_nil, retNV_cons, retOk, retN, ret1, retF, ret1F, V.okArg, and_true, true_and, S1, ↓reduceIte, Nat.reduceEqDiff, Nat.reduceAdd, Nat.reduceMul, Nat.reduceDiv, AOp.sb, AOp.mut, ↓Bool.false_eq_true, beq_self_eq_true, ite_self, Nat.reduceLeDiff, Int.reduceEq, Int.reduceSub, Int.reduceAdd, Int.reduceNeg, Int.reduceLT, Int.reduceLE, Nat.reduceLT, bz_Z4, List.length_nil, dg_pos, h]
theorem rmakeD (s : Bool) {n m : Nat} (h : n < B ^ m) (hm : m ≤ 1000000000) : AFun Tryd.prog J0 37 [.b s, .l 1 (W (dg B n))] (zN (zI s n)) := by
  have := rmake_spec s (dg B n) (Wd_dg _) (Nat.le_trans (dlen h) hm)
  rwa [zv, nv_dgB] at this
-- surd/surdref07.Same
def a9 : AC := .seq (.reg [⟨some 2, none, .bx 25 (.t 0)⟩, 
      ⟨some 3, none, .bx 25 (.t 1)⟩, 
      ⟨some 4, none, .mv (.k (.b false))⟩])
  (.seq (.reg [⟨some 5, none, .fad 0 (.t 2)⟩, 
      ⟨some 6, none, .ld false 1 (.t 5)⟩, 
      ⟨some 7, none, .fad 0 (.t 3)⟩, 
      ⟨some 8, none, .ld false 1 (.t 7)⟩, 
      ⟨some 9, none, .eqb false (.t 6) (.t 8)⟩, 
      ⟨some 10, none, .mv (.t 9)⟩, 
      ⟨some 11, some (10, true), .fad 1 (.t 2)⟩, 
      ⟨some 12, some (10, true), .ld false 1 (.t 11)⟩, 
      ⟨some 13, some (10, true), .fad 1 (.t 3)⟩, 
      ⟨some 14, some (10, true), .ld false 1 (.t 13)⟩, 
      ⟨some 15, some (10, true), .call 35 [(1, (.t 12)), (1, (.t 14))]⟩, 
      ⟨some 16, none, .pick (.t 10) (.t 15) (.k (.b false))⟩, 
      ⟨some 4, none, .mv (.t 16)⟩])
  (.ret))
theorem zsame_spec (s t : Bool) (a b : List Nat) (la : a.length ≤ 1000000000) (lb : b.length ≤ 1000000000) : AFun Tryd.prog J0 9 [zL s a, zL t b] (.b ((s == t) && decide (a = b))) := by
  have h1 := same_spec a b (by omega) (by omega)
  refine AFun.mk fol J0s Tryd.func9 rfl (ac := a9) (by kernel_rfl) rfl rfl ?_
  apply vm_start
  unfold a9
  simp only [init_eq, initE]
  by_cases h : s = t
  · have hb' : (s == t) = true := by rw [h]; cases t <;> rfl
    rw [hb', Bool.true_and]
    have zc4 := h1
    repeat first | (refine hK _ ?_; clear hK K) | simp only [Sv, ↓reduceIte, Nat.reduceEqDiff] | ((first | refine vm_reg (fun K hK => ?_) | refine vm_dreg (fun K hK => ?_) | refine vm_dregx (fun K hK => ?_) | refine clp_q ?_ | refine clq_mk (by assumption) ?_); simp (disch := (first | omega | assumption)) only [S1, ↓reduceIte, Nat.reduceEqDiff, Nat.reduceAdd, Nat.reduceMul, Nat.reduceDiv, AOp.sb, AOp.mut, ↓Bool.false_eq_true, beq_self_eq_true, ite_self, Nat.reduceLeDiff, Int.reduceEq, Int.reduceSub, Int.reduceAdd, Int.reduceNeg, Int.reduceLT, Int.reduceLE, Nat.reduceLT, bz_Z4, List.length_nil, hb'])
    simp (disch := (first | omega | assumption)) only [retOk, retN, ret1, retF, ret1F, V.okArg, and_true, true_and, S1, ↓reduceIte, Nat.reduceEqDiff, Nat.reduceAdd, Nat.reduceMul, Nat.reduceDiv, AOp.sb, AOp.mut, ↓Bool.false_eq_true, beq_self_eq_true, ite_self, Nat.reduceLeDiff, Int.reduceEq, Int.reduceSub, Int.reduceAdd, Int.reduceNeg, Int.reduceLT, Int.reduceLE, Nat.reduceLT, bz_Z4, List.length_nil, hb']
  · have hb' : (s == t) = false := by cases s <;> cases t <;> first | rfl | exact absurd rfl h
    rw [hb', Bool.false_and]
    repeat first
      | (refine hK _ ?_; clear hK K)
      | ((first | refine vm_reg (fun K hK => ?_) | refine vm_dreg (fun K hK => ?_) | refine vm_dregx (fun K hK => ?_)); simp (disch := (first | omega | assumption)) only [S1, ↓reduceIte, Nat.reduceEqDiff, Nat.reduceAdd, Nat.reduceMul, Nat.reduceDiv, AOp.sb, AOp.mut, ↓Bool.false_eq_true, beq_self_eq_true, ite_self, Nat.reduceLeDiff, Int.reduceEq, Int.reduceSub, Int.reduceAdd, Int.reduceNeg, Int.reduceLT, Int.reduceLE, Nat.reduceLT, bz_Z4, List.length_nil, hb']; refine hK _ ?_; clear hK K)
      | simp only [Sv, ↓reduceIte, Nat.reduceEqDiff]
    simp (disch := (first | omega | assumption)) only [retOk, retN, ret1, retF, ret1F, V.okArg, and_true, true_and, S1, ↓reduceIte, Nat.reduceEqDiff, Nat.reduceAdd, Nat.reduceMul, Nat.reduceDiv, AOp.sb, AOp.mut, ↓Bool.false_eq_true, beq_self_eq_true, ite_self, Nat.reduceLeDiff, Int.reduceEq, Int.reduceSub, Int.reduceAdd, Int.reduceNeg, Int.reduceLT, Int.reduceLE, Nat.reduceLT, bz_Z4, List.length_nil]
theorem zsame_true {x y : Int} (h : x = y) {m : Nat} (hx : x.natAbs < B ^ m) (hm : m ≤ 1000000000) : AFun Tryd.prog J0 9 [zN x, zN y] (.b true) := by
  subst h
  have := zsame_spec (decide (x < 0)) (decide (x < 0)) (dg B x.natAbs) (dg B x.natAbs) (Nat.le_trans (dlen hx) hm) (Nat.le_trans (dlen hx) hm)
  rwa [show ((decide (x < 0) == decide (x < 0)) && decide (dg B x.natAbs = dg B x.natAbs)) = true from by simp] at this
-- surd/surdref07.Of
def a27 : AC := .seq (.reg [⟨some 2, none, .al 25 [(.b false), (.l 1 [])]⟩])
  (.seq (.seq (.reg [⟨some 3, none, .mv (.t 0)⟩, 
        ⟨some 4, none, .bin .lss (.t 3) (.k (.i .i64 0))⟩])
    (.cond (.t 4)
    (.seq (.reg [⟨some 5, none, .mv (.t 0)⟩, 
          ⟨some 6, none, .bin .add (.t 5) (.k (.i .i64 1))⟩, 
          ⟨some 7, none, .un .neg (.t 6)⟩, 
          ⟨some 8, none, .cvt .u64 (.t 7)⟩, 
          ⟨some 9, none, .bin .add (.t 8) (.k (.i .u64 1))⟩, 
          ⟨some 10, none, .bsl 33 1 1 [(.i .u64 0)] [(0, (.t 9))]⟩, 
          ⟨some 11, none, .call 37 [(1, (.k (.b true))), (1, (.t 10))]⟩, 
          ⟨none, none, .st 2 (.t 2) (.t 11)⟩])
      (.ret))
    (.skip)))
  (.seq (.reg [⟨some 12, none, .mv (.t 0)⟩, 
      ⟨some 13, none, .cvt .u64 (.t 12)⟩, 
      ⟨some 14, none, .bsl 33 1 1 [(.i .u64 0)] [(0, (.t 13))]⟩, 
      ⟨some 15, none, .call 37 [(1, (.k (.b false))), (1, (.t 14))]⟩, 
      ⟨none, none, .st 2 (.t 2) (.t 15)⟩])
  (.ret)))
theorem rzof_spec (n : Int) (h1 : -9223372036854775808 ≤ n) (h2 : n < 9223372036854775808) : AFun Tryd.prog J0 27 [.i .i64 n] (zN n) := by
  have hm := rmake_spec (decide (n < 0)) [n.natAbs] (Wd1 (by omega)) (by simp)
  rw [show zv (decide (n < 0)) [n.natAbs] = n from by unfold zv; rw [nv_one, zI_self]] at hm
  by_cases h : n < 0
  · have e1 : decide (n < 0) = true := decide_eq_true h
    rw [show zN n = .g [.b true, .l 1 (W (dg B n.natAbs))] from by show V.g [.b (decide (n < 0)), _] = _; rw [e1]] at hm ⊢
    rw [e1] at hm
    refine AFun.mkc fol J0s Tryd.func27 rfl (ac := a27) (by kernel_rfl) (rs := [.c 2 true 2]) (by kernel_rfl) rfl ?_
    apply vm_start
    unfold a27
    simp only [init_eq, initE]
    have w1 : IntKind.i64.wrap (n + 1) = n + 1 := wi (by omega)
    have w2 : IntKind.i64.wrap (0 - (n + 1)) = 0 - (n + 1) := wi (by omega)
    have w3 : IntKind.u64.wrap (0 - (n + 1)) = 0 - (n + 1) := by rw [IntKind.wrap_u64]; omega
    have w4 : IntKind.u64.wrap (0 - (n + 1) + 1) = ((n.natAbs : Nat) : Int) := by rw [IntKind.wrap_u64]; omega
    have zc5 := hm
    repeat first | (refine hK _ ?_; clear hK K) | simp only [Sv, ↓reduceIte, Nat.reduceEqDiff] | ((first | refine vm_reg (fun K hK => ?_) | refine vm_dreg (fun K hK => ?_) | refine vm_dregx (fun K hK => ?_) | refine clp_q ?_ | refine clq_mk (by assumption) ?_); simp (disch := (first | omega | assumption)) only [S1, ↓reduceIte, Nat.reduceEqDiff, Nat.reduceAdd, Nat.reduceMul, Nat.reduceDiv, AOp.sb, AOp.mut, ↓Bool.false_eq_true, beq_self_eq_true, ite_self, Nat.reduceLeDiff, Int.reduceEq, Int.reduceSub, Int.reduceAdd, Int.reduceNeg, Int.reduceLT, Int.reduceLE, Nat.reduceLT, bz_Z4, List.length_nil, h, w1, w2, w3, w4, W1, e1])
    simp (disch := (first | omega | assumption)) only [retC, rsVs_nil, rsVs_cons, rsV_t, rsV_c, rsp_pt, rsq_t, rsq_f, ocons_ss, retV_1, retV_2, retNV_nil, retNV_cons, retOk, retN, ret1, retF, ret1F, V.okArg, and_true, true_and, S1, ↓reduceIte, Nat.reduceEqDiff, Nat.reduceAdd, Nat.reduceMul, Nat.reduceDiv, AOp.sb, AOp.mut, ↓Bool.false_eq_true, beq_self_eq_true, ite_self, Nat.reduceLeDiff, Int.reduceEq, Int.reduceSub, Int.reduceAdd, Int.reduceNeg, Int.reduceLT, Int.reduceLE, Nat.reduceLT, bz_Z4, List.length_nil, h, w1, w2, w3, w4, W1, e1]
  · have e1 : decide (n < 0) = false := decide_eq_false h
    rw [show zN n = .g [.b false, .l 1 (W (dg B n.natAbs))] from by show V.g [.b (decide (n < 0)), _] = _; rw [e1]] at hm ⊢
    rw [e1] at hm
    refine AFun.mkc fol J0s Tryd.func27 rfl (ac := a27) (by kernel_rfl) (rs := [.c 2 true 2]) (by kernel_rfl) rfl ?_
    apply vm_start
    unfold a27
    simp only [init_eq, initE]
    have w3 : IntKind.u64.wrap n = ((n.natAbs : Nat) : Int) := by rw [IntKind.wrap_u64]; omega
    have zc6 := hm
    repeat first | (refine hK _ ?_; clear hK K) | simp only [Sv, ↓reduceIte, Nat.reduceEqDiff] | ((first | refine vm_reg (fun K hK => ?_) | refine vm_dreg (fun K hK => ?_) | refine vm_dregx (fun K hK => ?_) | refine clp_q ?_ | refine clq_mk (by assumption) ?_); simp (disch := (first | omega | assumption)) only [S1, ↓reduceIte, Nat.reduceEqDiff, Nat.reduceAdd, Nat.reduceMul, Nat.reduceDiv, AOp.sb, AOp.mut, ↓Bool.false_eq_true, beq_self_eq_true, ite_self, Nat.reduceLeDiff, Int.reduceEq, Int.reduceSub, Int.reduceAdd, Int.reduceNeg, Int.reduceLT, Int.reduceLE, Nat.reduceLT, bz_Z4, List.length_nil, h, w3, W1, e1])
    simp (disch := (first | omega | assumption)) only [retC, rsVs_nil, rsVs_cons, rsV_t, rsV_c, rsp_pt, rsq_t, rsq_f, ocons_ss, retV_1, retV_2, retNV_nil, retNV_cons, retOk, retN, ret1, retF, ret1F, V.okArg, and_true, true_and, S1, ↓reduceIte, Nat.reduceEqDiff, Nat.reduceAdd, Nat.reduceMul, Nat.reduceDiv, AOp.sb, AOp.mut, ↓Bool.false_eq_true, beq_self_eq_true, ite_self, Nat.reduceLeDiff, Int.reduceEq, Int.reduceSub, Int.reduceAdd, Int.reduceNeg, Int.reduceLT, Int.reduceLE, Nat.reduceLT, bz_Z4, List.length_nil, h, w3, W1, e1]
theorem beq_neg (x y : Int) : ((decide (x < 0) == decide (y < 0)) = true) ↔ (decide (x < 0) = decide (y < 0)) := by simp
theorem cz_sub (x y : Int) : sgz (x - y) = cz x y := by unfold sgz cz; split <;> split <;> (try split) <;> (try split) <;> omega
end Go.Proofs.YtnjjeephbeoakaaDoor
