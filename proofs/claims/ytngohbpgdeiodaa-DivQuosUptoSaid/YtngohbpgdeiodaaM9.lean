/-
  div: quotients.
-/
import Derived.Test.YtngohbpgdeiodaaM8
import Derived.Test.YtngohbpgdeiodaaNM9
import Derived.Test.YtngohbpgdeiodaaFrz
namespace Go.Proofs.Ytngohbpgdeiodaa
open Go Go.RowKit Ab
set_option linter.unusedSimpArgs false
set_option linter.unusedVariables false
set_option maxHeartbeats 10000000

-- surd/nat.Of
def a51 : AC := .seq (.reg [⟨some 2, none, .mv (.k .nl)⟩])
  (.seq (.reg [⟨some 3, none, .mv (.t 0)⟩, 
      ⟨some 4, none, .bsl 29 1 1 [(.i .u64 0)] [(0, (.t 3))]⟩, 
      ⟨some 5, none, .call 68 [(1, (.t 4))]⟩, 
      ⟨some 2, none, .mv (.t 5)⟩])
  (.ret))
theorem natOf_spec (w : Nat) (hw : w < 18446744073709551616) : AFun Try.prog J0 51 [.i .u64 (w : Int)] (.o 29 1 (W (dg B w))) := by
  have ho := own_dg [w] (fun x hx => by rw [List.mem_singleton] at hx; subst hx; exact hw) (by simp)
  rw [nv_one] at ho
  refine AFun.mk fol J0s Try.func51 rfl (ac := a51) (by kernel_rfl) rfl rfl ?_
  apply vm_start
  unfold a51
  simp only [init_eq, initE]
  have zc1 := ho
  repeat first | (refine hK _ ?_; clear hK K) | simp only [Sv, ↓reduceIte, Nat.reduceEqDiff] | ((first | refine vm_reg (fun K hK => ?_) | refine vm_dreg (fun K hK => ?_) | refine clp_q ?_ | refine clq_mk (by assumption) ?_); simp (disch := (first | omega | assumption)) only [S1, ↓reduceIte, Nat.reduceEqDiff, Nat.reduceAdd, Nat.reduceMul, Nat.reduceDiv, AOp.sb, AOp.mut, ↓Bool.false_eq_true, beq_self_eq_true, ite_self, Nat.reduceLeDiff, Int.reduceEq, Int.reduceSub, Int.reduceAdd, Int.reduceNeg, Int.reduceLT, Int.reduceLE, Nat.reduceLT, wi, tn_nat, Nat.div_one, Nat.mul_one, W_len, W_nf, W_cell, W_nil, W_get, List.length_nil, List.length_cons, W1])
  simp (disch := (first | omega | assumption)) only [retOk, retN, ret1, retF, ret1F, V.okArg, and_true, true_and, S1, ↓reduceIte, Nat.reduceEqDiff, Nat.reduceAdd, Nat.reduceMul, Nat.reduceDiv, AOp.sb, AOp.mut, ↓Bool.false_eq_true, beq_self_eq_true, ite_self, Nat.reduceLeDiff, Int.reduceEq, Int.reduceSub, Int.reduceAdd, Int.reduceNeg, Int.reduceLT, Int.reduceLE, Nat.reduceLT, wi, tn_nat, Nat.div_one, Nat.mul_one, W_len, W_nf, W_cell, W_nil, W_get, List.length_nil, List.length_cons, W1]

-- surd/div.Word
def a27 : AC := .seq (.reg [⟨some 4, none, .mv (.k .nl)⟩, 
      ⟨some 5, none, .mv (.k (.i .u64 0))⟩, 
      ⟨some 6, none, .mv (.k (.i .i64 0))⟩])
  (.seq (.reg [⟨some 11, none, .mv (.t 0)⟩, 
      ⟨some 12, none, .mv (.t 1)⟩, 
      ⟨some 13, none, .call 60 [(1, (.t 11)), (1, (.t 12))]⟩, 
      ⟨some 10, none, .mv (.t 13)⟩, 
      ⟨some 14, none, .ext (.t 10) 0⟩, 
      ⟨some 15, none, .ext (.t 10) 1⟩, 
      ⟨some 16, none, .ext (.t 10) 2⟩, 
      ⟨some 7, none, .mv (.t 14)⟩, 
      ⟨some 8, none, .mv (.t 15)⟩, 
      ⟨some 9, none, .mv (.t 16)⟩])
  (.seq (.seq (.reg [⟨some 17, none, .mv (.t 9)⟩, 
        ⟨some 18, none, .bin .neq (.t 17) (.k (.i .i64 0))⟩])
    (.cond (.t 18)
    (.seq (.reg [⟨some 19, none, .mv (.t 9)⟩, 
          ⟨some 4, none, .mv (.k .nl)⟩, 
          ⟨some 5, none, .mv (.k (.i .u64 0))⟩, 
          ⟨some 6, none, .mv (.t 19)⟩])
      (.ret))
    (.skip)))
  (.seq (.reg [⟨some 20, none, .mv (.t 7)⟩, 
      ⟨some 21, none, .call 38 [(1, (.t 20))]⟩, 
      ⟨some 22, none, .mv (.t 8)⟩, 
      ⟨some 4, none, .mv (.t 21)⟩, 
      ⟨some 5, none, .mv (.t 22)⟩, 
      ⟨some 6, none, .mv (.k (.i .i64 0))⟩])
  (.ret))))
theorem word_zero (a : List Nat) : AFun Try.prog J0 27 [.l 1 (W a), .i .u64 0] (.t [.l 1 [], .i .u64 0, .i .i64 1]) := by
  refine AFun.mk fol J0s Try.func27 rfl (ac := a27) (by kernel_rfl) rfl rfl ?_
  apply vm_start
  unfold a27
  simp only [init_eq, initE]
  have zc2 := divOne_zero a
  repeat first | (refine hK _ ?_; clear hK K) | simp only [Sv, ↓reduceIte, Nat.reduceEqDiff] | ((first | refine vm_reg (fun K hK => ?_) | refine vm_dreg (fun K hK => ?_) | refine clp_q ?_ | refine clq_mk (by assumption) ?_); simp (disch := (first | omega | assumption)) only [S1, ↓reduceIte, Nat.reduceEqDiff, Nat.reduceAdd, Nat.reduceMul, Nat.reduceDiv, AOp.sb, AOp.mut, ↓Bool.false_eq_true, beq_self_eq_true, ite_self, Nat.reduceLeDiff, Int.reduceEq, Int.reduceSub, Int.reduceAdd, Int.reduceNeg, Int.reduceLT, Int.reduceLE, Nat.reduceLT, wi, tn_nat, Nat.div_one, Nat.mul_one, W_len, W_nf, W_cell, W_nil, W_get, List.length_nil, List.length_cons])
  simp (disch := (first | omega | assumption)) only [retOk, retN, ret1, retF, ret1F, V.okArg, and_true, true_and, S1, ↓reduceIte, Nat.reduceEqDiff, Nat.reduceAdd, Nat.reduceMul, Nat.reduceDiv, AOp.sb, AOp.mut, ↓Bool.false_eq_true, beq_self_eq_true, ite_self, Nat.reduceLeDiff, Int.reduceEq, Int.reduceSub, Int.reduceAdd, Int.reduceNeg, Int.reduceLT, Int.reduceLE, Nat.reduceLT, wi, tn_nat, Nat.div_one, Nat.mul_one, W_len, W_nf, W_cell, W_nil, W_get, List.length_nil, List.length_cons]
theorem word_spec (a : List Nat) (w : Nat) (ha : Wd a) (hw0 : 0 < w) (hw : w < 18446744073709551616) (la : a.length ≤ 1099511627776) :
    AFun Try.prog J0 27 [.l 1 (W a), .i .u64 (w : Int)] (.t [.l 1 (W (dg B (nv B a / w))), .i .u64 ((nv B a % w : Nat) : Int), .i .i64 0]) := by
  have hno := norm_spec (fl B a.length (nv B a / w)) (by rw [fl_len]; omega)
  rw [dg_fl B2 (Nat.lt_of_le_of_lt (Nat.div_le_self _ _) (nv_lt ha))] at hno
  refine AFun.mk fol J0s Try.func27 rfl (ac := a27) (by kernel_rfl) rfl rfl ?_
  apply vm_start
  unfold a27
  simp only [init_eq, initE]
  have zc3 := divOne_spec a w ha hw0 hw la
  have zc4 := hno
  repeat first | (refine hK _ ?_; clear hK K) | simp only [Sv, ↓reduceIte, Nat.reduceEqDiff] | ((first | refine vm_reg (fun K hK => ?_) | refine vm_dreg (fun K hK => ?_) | refine clp_q ?_ | refine clq_mk (by assumption) ?_); simp (disch := (first | omega | assumption)) only [S1, ↓reduceIte, Nat.reduceEqDiff, Nat.reduceAdd, Nat.reduceMul, Nat.reduceDiv, AOp.sb, AOp.mut, ↓Bool.false_eq_true, beq_self_eq_true, ite_self, Nat.reduceLeDiff, Int.reduceEq, Int.reduceSub, Int.reduceAdd, Int.reduceNeg, Int.reduceLT, Int.reduceLE, Nat.reduceLT, wi, tn_nat, Nat.div_one, Nat.mul_one, W_len, W_nf, W_cell, W_nil, W_get, List.length_nil, List.length_cons])
  simp (disch := (first | omega | assumption)) only [retOk, retN, ret1, retF, ret1F, V.okArg, and_true, true_and, S1, ↓reduceIte, Nat.reduceEqDiff, Nat.reduceAdd, Nat.reduceMul, Nat.reduceDiv, AOp.sb, AOp.mut, ↓Bool.false_eq_true, beq_self_eq_true, ite_self, Nat.reduceLeDiff, Int.reduceEq, Int.reduceSub, Int.reduceAdd, Int.reduceNeg, Int.reduceLT, Int.reduceLE, Nat.reduceLT, wi, tn_nat, Nat.div_one, Nat.mul_one, W_len, W_nf, W_cell, W_nil, W_get, List.length_nil, List.length_cons]

-- surd/div.Quo
def a16 : AC := .seq (.reg [⟨some 4, none, .mv (.k .nl)⟩, 
      ⟨some 5, none, .mv (.k .nl)⟩, 
      ⟨some 6, none, .mv (.k (.i .i64 0))⟩])
  (.seq (.reg [⟨some 12, none, .mv (.t 0)⟩, 
      ⟨some 13, none, .call 38 [(1, (.t 12))]⟩, 
      ⟨some 14, none, .mv (.t 1)⟩, 
      ⟨some 15, none, .call 38 [(1, (.t 14))]⟩, 
      ⟨some 0, none, .mv (.t 13)⟩, 
      ⟨some 1, none, .mv (.t 15)⟩])
  (.seq (.blk 0
    (.seq (.reg [⟨some 17, none, .mv (.t 1)⟩, 
          ⟨some 18, none, .len (.t 17)⟩, 
          ⟨some 19, none, .bin .eql (.t 18) (.k (.i .i64 0))⟩, 
          ⟨some 16, none, .mv (.t 19)⟩])
      (.cond (.t 16)
      (.seq (.reg [⟨some 4, none, .mv (.k .nl)⟩, 
            ⟨some 5, none, .mv (.k .nl)⟩, 
            ⟨some 6, none, .mv (.k (.i .i64 1))⟩])
        (.ret))
      (.seq (.reg [⟨some 21, none, .mv (.t 0)⟩, 
            ⟨some 22, none, .mv (.t 1)⟩, 
            ⟨some 23, none, .call 37 [(1, (.t 21)), (1, (.t 22))]⟩, 
            ⟨some 24, none, .bin .lss (.t 23) (.k (.i .i64 0))⟩, 
            ⟨some 20, none, .mv (.t 24)⟩])
        (.cond (.t 20)
        (.seq (.reg [⟨some 25, none, .mv (.t 0)⟩, 
              ⟨some 4, none, .mv (.k .nl)⟩, 
              ⟨some 5, none, .mv (.t 25)⟩, 
              ⟨some 6, none, .mv (.k (.i .i64 0))⟩])
          (.ret))
        (.seq (.reg [⟨some 27, none, .mv (.t 1)⟩, 
              ⟨some 28, none, .len (.t 27)⟩, 
              ⟨some 29, none, .bin .eql (.t 28) (.k (.i .i64 1))⟩, 
              ⟨some 26, none, .mv (.t 29)⟩])
          (.cond (.t 26)
          (.seq (.reg [⟨some 31, none, .mv (.t 0)⟩, 
                ⟨some 32, none, .mv (.t 1)⟩, 
                ⟨some 33, none, .idx 1 (.t 32) (.k (.i .i64 0))⟩, 
                ⟨some 34, none, .ld false 1 (.t 33)⟩, 
                ⟨some 35, none, .call 27 [(1, (.t 31)), (1, (.t 34))]⟩, 
                ⟨some 30, none, .mv (.t 35)⟩, 
                ⟨some 36, none, .ext (.t 30) 0⟩, 
                ⟨some 37, none, .ext (.t 30) 1⟩, 
                ⟨some 38, none, .ext (.t 30) 2⟩, 
                ⟨some 7, none, .mv (.t 36)⟩, 
                ⟨some 8, none, .mv (.t 37)⟩, 
                ⟨some 9, none, .mv (.t 38)⟩])
            (.seq (.reg [⟨some 39, none, .mv (.t 7)⟩, 
                ⟨some 40, none, .mv (.t 8)⟩, 
                ⟨some 41, none, .call 51 [(1, (.t 40))]⟩, 
                ⟨some 42, none, .mv (.t 9)⟩, 
                ⟨some 4, none, .mv (.t 39)⟩, 
                ⟨some 5, none, .mv (.t 41)⟩, 
                ⟨some 6, none, .mv (.t 42)⟩])
            (.ret)))
          (.skip))))))))
  (.seq (.reg [⟨some 44, none, .mv (.t 0)⟩, 
      ⟨some 45, none, .mv (.t 1)⟩, 
      ⟨some 46, none, .call 57 [(1, (.t 44)), (1, (.t 45))]⟩, 
      ⟨some 43, none, .mv (.t 46)⟩, 
      ⟨some 47, none, .ext (.t 43) 0⟩, 
      ⟨some 48, none, .ext (.t 43) 1⟩, 
      ⟨some 10, none, .mv (.t 47)⟩, 
      ⟨some 11, none, .mv (.t 48)⟩])
  (.seq (.reg [⟨some 49, none, .mv (.t 10)⟩, 
      ⟨some 50, none, .mv (.t 11)⟩, 
      ⟨some 4, none, .mv (.t 49)⟩, 
      ⟨some 5, none, .mv (.t 50)⟩, 
      ⟨some 6, none, .mv (.k (.i .i64 0))⟩])
  (.ret)))))
theorem quo_spec (a b : List Nat) (ha : Wd a) (hb : Wd b) (la : a.length ≤ 1000000000) (lb : b.length ≤ 1000000000) :
    AFun Try.prog J0 16 [.l 1 (W a), .l 1 (W b)] (.t [.l 1 (W (qQ (nv B a) (nv B b))), .l 1 (W (qR (nv B a) (nv B b))), .i .i64 (qE (nv B b))]) := by
  have hna := norm_spec a (by omega)
  have hnb := norm_spec b (by omega)
  have ta : (tz a).length ≤ 1000000000 := Nat.le_trans (tz_len a) la
  have tb : (tz b).length ≤ 1000000000 := Nat.le_trans (tz_len b) lb
  have wa := Lt_tz ha
  have wb := Lt_tz hb
  have va : nv B (tz a) = nv B a := nv_tz a
  have vb : nv B (tz b) = nv B b := nv_tz b
  have ea := tz_tz a
  have eb := tz_tz b
  rw [← va, ← vb]
  generalize tz a = x at *
  generalize tz b = y at *
  have hcm := cmp_spec x y wa wb (by omega) (by omega)
  refine AFun.mk fol J0s Try.func16 rfl (ac := a16) (by kernel_rfl) rfl rfl ?_
  apply vm_start
  unfold a16
  simp only [init_eq, initE]
  by_cases h0 : (y.length : Int) = 0
  · have hy : y = [] := List.eq_nil_of_length_eq_zero (by omega)
    subst hy
    rw [show nv B [] = 0 from rfl, qQ_0, qR_0, qE_0]
    have zc5 := hna
    have zc6 := hnb
    repeat first | (refine hK _ ?_; clear hK K) | simp only [Sv, ↓reduceIte, Nat.reduceEqDiff] | ((first | refine vm_reg (fun K hK => ?_) | refine vm_dreg (fun K hK => ?_) | refine clp_q ?_ | refine clq_mk (by assumption) ?_); simp (disch := (first | omega | assumption)) only [S1, ↓reduceIte, Nat.reduceEqDiff, Nat.reduceAdd, Nat.reduceMul, Nat.reduceDiv, AOp.sb, AOp.mut, ↓Bool.false_eq_true, beq_self_eq_true, ite_self, Nat.reduceLeDiff, Int.reduceEq, Int.reduceSub, Int.reduceAdd, Int.reduceNeg, Int.reduceLT, Int.reduceLE, Nat.reduceLT, wi, tn_nat, Nat.div_one, Nat.mul_one, W_len, W_nf, W_cell, W_nil, W_get, List.length_nil, List.length_cons, h0])
    simp (disch := (first | omega | assumption)) only [retOk, retN, ret1, retF, ret1F, V.okArg, and_true, true_and, S1, ↓reduceIte, Nat.reduceEqDiff, Nat.reduceAdd, Nat.reduceMul, Nat.reduceDiv, AOp.sb, AOp.mut, ↓Bool.false_eq_true, beq_self_eq_true, ite_self, Nat.reduceLeDiff, Int.reduceEq, Int.reduceSub, Int.reduceAdd, Int.reduceNeg, Int.reduceLT, Int.reduceLE, Nat.reduceLT, wi, tn_nat, Nat.div_one, Nat.mul_one, W_len, W_nf, W_cell, W_nil, W_get, List.length_nil, List.length_cons, h0]
  · have hy : y ≠ [] := fun h => h0 (by rw [h]; rfl)
    have htop := nv_top (b := B) eb hy
    have hp : 0 < nv B y := Nat.lt_of_lt_of_le (Nat.pow_pos (by decide)) htop
    rw [qE_p hp, qR_p hp]
    by_cases h1 : nv B x < nv B y
    · have hs : (sg (nv B x) (nv B y) < 0) = True := by rw [sg_lt]; exact eq_true h1
      have e1 : qQ (nv B x) (nv B y) = [] := by unfold qQ; rw [Nat.div_eq_of_lt h1]; rfl
      have e2 : dg B (nv B x % nv B y) = x := by rw [Nat.mod_eq_of_lt h1, ← tz_dg B2 wa, ea]
      rw [e1, e2]
      have zc7 := hna
      have zc8 := hnb
      have zc9 := hcm
      repeat first | (refine hK _ ?_; clear hK K) | simp only [Sv, ↓reduceIte, Nat.reduceEqDiff] | ((first | refine vm_reg (fun K hK => ?_) | refine vm_dreg (fun K hK => ?_) | refine clp_q ?_ | refine clq_mk (by assumption) ?_); simp (disch := (first | omega | assumption)) only [S1, ↓reduceIte, Nat.reduceEqDiff, Nat.reduceAdd, Nat.reduceMul, Nat.reduceDiv, AOp.sb, AOp.mut, ↓Bool.false_eq_true, beq_self_eq_true, ite_self, Nat.reduceLeDiff, Int.reduceEq, Int.reduceSub, Int.reduceAdd, Int.reduceNeg, Int.reduceLT, Int.reduceLE, Nat.reduceLT, wi, tn_nat, Nat.div_one, Nat.mul_one, W_len, W_nf, W_cell, W_nil, W_get, List.length_nil, List.length_cons, h0, hs])
      simp (disch := (first | omega | assumption)) only [retOk, retN, ret1, retF, ret1F, V.okArg, and_true, true_and, S1, ↓reduceIte, Nat.reduceEqDiff, Nat.reduceAdd, Nat.reduceMul, Nat.reduceDiv, AOp.sb, AOp.mut, ↓Bool.false_eq_true, beq_self_eq_true, ite_self, Nat.reduceLeDiff, Int.reduceEq, Int.reduceSub, Int.reduceAdd, Int.reduceNeg, Int.reduceLT, Int.reduceLE, Nat.reduceLT, wi, tn_nat, Nat.div_one, Nat.mul_one, W_len, W_nf, W_cell, W_nil, W_get, List.length_nil, List.length_cons, h0, hs]
    · have hs : (sg (nv B x) (nv B y) < 0) = False := by rw [sg_lt]; exact eq_false h1
      by_cases h2 : (y.length : Int) = 1
      · have hg := nv_get1 (b := y) (by omega)
        have hlt : nv B y < 18446744073709551616 := by have := nv_lt wb; rw [show y.length = 1 from by omega, Nat.pow_one] at this; exact this
        have hw := word_spec x (nv B y) wa hp hlt (by omega)
        have hm := Nat.mod_lt (nv B x) hp
        have hof := natOf_spec (nv B x % nv B y) (by omega)
        have ht0 : (Int.toNat 0) = 0 := rfl
        have zc10 := hna
        have zc11 := hnb
        have zc12 := hcm
        have zc13 := hw
        have zc14 := hof
        repeat first | (refine hK _ ?_; clear hK K) | simp only [Sv, ↓reduceIte, Nat.reduceEqDiff] | ((first | refine vm_reg (fun K hK => ?_) | refine vm_dreg (fun K hK => ?_) | refine clp_q ?_ | refine clq_mk (by assumption) ?_); simp (disch := (first | omega | assumption)) only [S1, ↓reduceIte, Nat.reduceEqDiff, Nat.reduceAdd, Nat.reduceMul, Nat.reduceDiv, AOp.sb, AOp.mut, ↓Bool.false_eq_true, beq_self_eq_true, ite_self, Nat.reduceLeDiff, Int.reduceEq, Int.reduceSub, Int.reduceAdd, Int.reduceNeg, Int.reduceLT, Int.reduceLE, Nat.reduceLT, wi, tn_nat, Nat.div_one, Nat.mul_one, W_len, W_nf, W_cell, W_nil, W_get, List.length_nil, List.length_cons, h0, hs, h2, W_get, ht0, hg, qQ])
        simp (disch := (first | omega | assumption)) only [retOk, retN, ret1, retF, ret1F, V.okArg, and_true, true_and, S1, ↓reduceIte, Nat.reduceEqDiff, Nat.reduceAdd, Nat.reduceMul, Nat.reduceDiv, AOp.sb, AOp.mut, ↓Bool.false_eq_true, beq_self_eq_true, ite_self, Nat.reduceLeDiff, Int.reduceEq, Int.reduceSub, Int.reduceAdd, Int.reduceNeg, Int.reduceLT, Int.reduceLE, Nat.reduceLT, wi, tn_nat, Nat.div_one, Nat.mul_one, W_len, W_nf, W_cell, W_nil, W_get, List.length_nil, List.length_cons, h0, hs, h2, W_get, ht0, hg, qQ]
      · have hx2 : y.length ≤ x.length := by
          have := nv_lt wa
          have h3 : B ^ (y.length - 1) < B ^ x.length := by omega
          have := (Nat.pow_lt_pow_iff_right (by decide : 1 < B)).1 h3
          omega
        have hkn := knuth_spec x y wa wb (by omega) (by omega) hx2 (by
          intro h
          have h4 := tz_zero y (y.length - 1) (by omega) h
          rw [show y.length - 1 + 1 = y.length from by omega, List.take_length, eb] at h4
          have := tz_len (y.take (y.length - 1))
          rw [← h4, List.length_take] at this; omega)
        have zc15 := hna
        have zc16 := hnb
        have zc17 := hcm
        have zc18 := hkn
        repeat first | (refine hK _ ?_; clear hK K) | simp only [Sv, ↓reduceIte, Nat.reduceEqDiff] | ((first | refine vm_reg (fun K hK => ?_) | refine vm_dreg (fun K hK => ?_) | refine clp_q ?_ | refine clq_mk (by assumption) ?_); simp (disch := (first | omega | assumption)) only [S1, ↓reduceIte, Nat.reduceEqDiff, Nat.reduceAdd, Nat.reduceMul, Nat.reduceDiv, AOp.sb, AOp.mut, ↓Bool.false_eq_true, beq_self_eq_true, ite_self, Nat.reduceLeDiff, Int.reduceEq, Int.reduceSub, Int.reduceAdd, Int.reduceNeg, Int.reduceLT, Int.reduceLE, Nat.reduceLT, wi, tn_nat, Nat.div_one, Nat.mul_one, W_len, W_nf, W_cell, W_nil, W_get, List.length_nil, List.length_cons, h0, hs, h2, qQ])
        simp (disch := (first | omega | assumption)) only [retOk, retN, ret1, retF, ret1F, V.okArg, and_true, true_and, S1, ↓reduceIte, Nat.reduceEqDiff, Nat.reduceAdd, Nat.reduceMul, Nat.reduceDiv, AOp.sb, AOp.mut, ↓Bool.false_eq_true, beq_self_eq_true, ite_self, Nat.reduceLeDiff, Int.reduceEq, Int.reduceSub, Int.reduceAdd, Int.reduceNeg, Int.reduceLT, Int.reduceLE, Nat.reduceLT, wi, tn_nat, Nat.div_one, Nat.mul_one, W_len, W_nf, W_cell, W_nil, W_get, List.length_nil, List.length_cons, h0, hs, h2, qQ]

-- surd/div.Mod
def a17 : AC := .seq (.reg [⟨some 4, none, .mv (.k .nl)⟩, 
      ⟨some 5, none, .mv (.k (.i .i64 0))⟩])
  (.seq (.reg [⟨some 10, none, .mv (.t 0)⟩, 
      ⟨some 11, none, .mv (.t 1)⟩, 
      ⟨some 12, none, .call 16 [(1, (.t 10)), (1, (.t 11))]⟩, 
      ⟨some 9, none, .mv (.t 12)⟩, 
      ⟨some 13, none, .ext (.t 9) 0⟩, 
      ⟨some 14, none, .ext (.t 9) 1⟩, 
      ⟨some 15, none, .ext (.t 9) 2⟩, 
      ⟨some 6, none, .mv (.t 13)⟩, 
      ⟨some 7, none, .mv (.t 14)⟩, 
      ⟨some 8, none, .mv (.t 15)⟩])
  (.seq (.reg [⟨some 16, none, .mv (.t 7)⟩, 
      ⟨some 17, none, .mv (.t 8)⟩, 
      ⟨some 4, none, .mv (.t 16)⟩, 
      ⟨some 5, none, .mv (.t 17)⟩])
  (.ret)))
theorem mod_spec (a b : List Nat) (ha : Wd a) (hb : Wd b) (la : a.length ≤ 1000000000) (lb : b.length ≤ 1000000000) :
    AFun Try.prog J0 17 [.l 1 (W a), .l 1 (W b)] (.t [.l 1 (W (qR (nv B a) (nv B b))), .i .i64 (qE (nv B b))]) := by
  refine AFun.mk fol J0s Try.func17 rfl (ac := a17) (by kernel_rfl) rfl rfl ?_
  apply vm_start
  unfold a17
  simp only [init_eq, initE]
  have zc19 := quo_spec a b ha hb la lb
  repeat first | (refine hK _ ?_; clear hK K) | simp only [Sv, ↓reduceIte, Nat.reduceEqDiff] | ((first | refine vm_reg (fun K hK => ?_) | refine vm_dreg (fun K hK => ?_) | refine clp_q ?_ | refine clq_mk (by assumption) ?_); simp (disch := (first | omega | assumption)) only [S1, ↓reduceIte, Nat.reduceEqDiff, Nat.reduceAdd, Nat.reduceMul, Nat.reduceDiv, AOp.sb, AOp.mut, ↓Bool.false_eq_true, beq_self_eq_true, ite_self, Nat.reduceLeDiff, Int.reduceEq, Int.reduceSub, Int.reduceAdd, Int.reduceNeg, Int.reduceLT, Int.reduceLE, Nat.reduceLT, wi, tn_nat, Nat.div_one, Nat.mul_one, W_len, W_nf, W_cell, W_nil, W_get, List.length_nil, List.length_cons])
  simp (disch := (first | omega | assumption)) only [retOk, retN, ret1, retF, ret1F, V.okArg, and_true, true_and, S1, ↓reduceIte, Nat.reduceEqDiff, Nat.reduceAdd, Nat.reduceMul, Nat.reduceDiv, AOp.sb, AOp.mut, ↓Bool.false_eq_true, beq_self_eq_true, ite_self, Nat.reduceLeDiff, Int.reduceEq, Int.reduceSub, Int.reduceAdd, Int.reduceNeg, Int.reduceLT, Int.reduceLE, Nat.reduceLT, wi, tn_nat, Nat.div_one, Nat.mul_one, W_len, W_nf, W_cell, W_nil, W_get, List.length_nil, List.length_cons]

-- surd/div.Exact
def a19 : AC := .seq (.reg [⟨some 4, none, .mv (.k .nl)⟩, 
      ⟨some 5, none, .mv (.k (.i .i64 0))⟩])
  (.seq (.reg [⟨some 10, none, .mv (.t 0)⟩, 
      ⟨some 11, none, .mv (.t 1)⟩, 
      ⟨some 12, none, .call 16 [(1, (.t 10)), (1, (.t 11))]⟩, 
      ⟨some 9, none, .mv (.t 12)⟩, 
      ⟨some 13, none, .ext (.t 9) 0⟩, 
      ⟨some 14, none, .ext (.t 9) 1⟩, 
      ⟨some 15, none, .ext (.t 9) 2⟩, 
      ⟨some 6, none, .mv (.t 13)⟩, 
      ⟨some 7, none, .mv (.t 14)⟩, 
      ⟨some 8, none, .mv (.t 15)⟩])
  (.seq (.blk 0
    (.seq (.reg [⟨some 17, none, .mv (.t 8)⟩, 
          ⟨some 18, none, .bin .neq (.t 17) (.k (.i .i64 0))⟩, 
          ⟨some 16, none, .mv (.t 18)⟩])
      (.cond (.t 16)
      (.seq (.reg [⟨some 19, none, .mv (.t 8)⟩, 
            ⟨some 4, none, .mv (.k .nl)⟩, 
            ⟨some 5, none, .mv (.t 19)⟩])
        (.ret))
      (.seq (.reg [⟨some 21, none, .mv (.t 7)⟩, 
            ⟨some 22, none, .len (.t 21)⟩, 
            ⟨some 23, none, .bin .gtr (.t 22) (.k (.i .i64 0))⟩, 
            ⟨some 20, none, .mv (.t 23)⟩])
        (.cond (.t 20)
        (.seq (.reg [⟨some 4, none, .mv (.k .nl)⟩, 
              ⟨some 5, none, .mv (.k (.i .i64 4))⟩])
          (.ret))
        (.skip))))))
  (.seq (.reg [⟨some 24, none, .mv (.t 6)⟩, 
      ⟨some 4, none, .mv (.t 24)⟩, 
      ⟨some 5, none, .mv (.k (.i .i64 0))⟩])
  (.ret))))
theorem exact_spec (a b : List Nat) (ha : Wd a) (hb : Wd b) (la : a.length ≤ 1000000000) (lb : b.length ≤ 1000000000) :
    AFun Try.prog J0 19 [.l 1 (W a), .l 1 (W b)] (.t [.l 1 (W (exQ (nv B a) (nv B b))), .i .i64 (exE (nv B a) (nv B b))]) := by
  have hq := quo_spec a b ha hb la lb
  generalize nv B a = u at *
  generalize nv B b = v at *
  refine AFun.mk fol J0s Try.func19 rfl (ac := a19) (by kernel_rfl) rfl rfl ?_
  apply vm_start
  unfold a19
  simp only [init_eq, initE]
  by_cases h0 : v = 0
  · rw [show exQ u v = [] from if_pos h0, show exE u v = 1 from if_pos h0]
    subst h0
    have zc20 := hq
    repeat first | (refine hK _ ?_; clear hK K) | simp only [Sv, ↓reduceIte, Nat.reduceEqDiff] | ((first | refine vm_reg (fun K hK => ?_) | refine vm_dreg (fun K hK => ?_) | refine clp_q ?_ | refine clq_mk (by assumption) ?_); simp (disch := (first | omega | assumption)) only [S1, ↓reduceIte, Nat.reduceEqDiff, Nat.reduceAdd, Nat.reduceMul, Nat.reduceDiv, AOp.sb, AOp.mut, ↓Bool.false_eq_true, beq_self_eq_true, ite_self, Nat.reduceLeDiff, Int.reduceEq, Int.reduceSub, Int.reduceAdd, Int.reduceNeg, Int.reduceLT, Int.reduceLE, Nat.reduceLT, wi, tn_nat, Nat.div_one, Nat.mul_one, W_len, W_nf, W_cell, W_nil, W_get, List.length_nil, List.length_cons, qE_0])
    simp (disch := (first | omega | assumption)) only [retOk, retN, ret1, retF, ret1F, V.okArg, and_true, true_and, S1, ↓reduceIte, Nat.reduceEqDiff, Nat.reduceAdd, Nat.reduceMul, Nat.reduceDiv, AOp.sb, AOp.mut, ↓Bool.false_eq_true, beq_self_eq_true, ite_self, Nat.reduceLeDiff, Int.reduceEq, Int.reduceSub, Int.reduceAdd, Int.reduceNeg, Int.reduceLT, Int.reduceLE, Nat.reduceLT, wi, tn_nat, Nat.div_one, Nat.mul_one, W_len, W_nf, W_cell, W_nil, W_get, List.length_nil, List.length_cons, qE_0]
  · have e := qE_p (v := v) (by omega)
    by_cases h1 : u % v = 0
    · have hl : ((qR u v).length : Int) = 0 := qR_nil.2 (.inr h1)
      rw [show exQ u v = qQ u v from (if_neg h0).trans (if_pos h1), show exE u v = 0 from (if_neg h0).trans (if_pos h1)]
      have zc21 := hq
      repeat first | (refine hK _ ?_; clear hK K) | simp only [Sv, ↓reduceIte, Nat.reduceEqDiff] | ((first | refine vm_reg (fun K hK => ?_) | refine vm_dreg (fun K hK => ?_) | refine clp_q ?_ | refine clq_mk (by assumption) ?_); simp (disch := (first | omega | assumption)) only [S1, ↓reduceIte, Nat.reduceEqDiff, Nat.reduceAdd, Nat.reduceMul, Nat.reduceDiv, AOp.sb, AOp.mut, ↓Bool.false_eq_true, beq_self_eq_true, ite_self, Nat.reduceLeDiff, Int.reduceEq, Int.reduceSub, Int.reduceAdd, Int.reduceNeg, Int.reduceLT, Int.reduceLE, Nat.reduceLT, wi, tn_nat, Nat.div_one, Nat.mul_one, W_len, W_nf, W_cell, W_nil, W_get, List.length_nil, List.length_cons, e, hl])
      simp (disch := (first | omega | assumption)) only [retOk, retN, ret1, retF, ret1F, V.okArg, and_true, true_and, S1, ↓reduceIte, Nat.reduceEqDiff, Nat.reduceAdd, Nat.reduceMul, Nat.reduceDiv, AOp.sb, AOp.mut, ↓Bool.false_eq_true, beq_self_eq_true, ite_self, Nat.reduceLeDiff, Int.reduceEq, Int.reduceSub, Int.reduceAdd, Int.reduceNeg, Int.reduceLT, Int.reduceLE, Nat.reduceLT, wi, tn_nat, Nat.div_one, Nat.mul_one, W_len, W_nf, W_cell, W_nil, W_get, List.length_nil, List.length_cons, e, hl]
    · have hl : (0 : Int) < ((qR u v).length : Int) := by
        have : ¬ ((qR u v).length : Int) = 0 := fun h => by rcases qR_nil.1 h with h2 | h2 <;> omega
        omega
      rw [show exQ u v = [] from (if_neg h0).trans (if_neg h1), show exE u v = 4 from (if_neg h0).trans (if_neg h1)]
      have zc22 := hq
      repeat first | (refine hK _ ?_; clear hK K) | simp only [Sv, ↓reduceIte, Nat.reduceEqDiff] | ((first | refine vm_reg (fun K hK => ?_) | refine vm_dreg (fun K hK => ?_) | refine clp_q ?_ | refine clq_mk (by assumption) ?_); simp (disch := (first | omega | assumption)) only [S1, ↓reduceIte, Nat.reduceEqDiff, Nat.reduceAdd, Nat.reduceMul, Nat.reduceDiv, AOp.sb, AOp.mut, ↓Bool.false_eq_true, beq_self_eq_true, ite_self, Nat.reduceLeDiff, Int.reduceEq, Int.reduceSub, Int.reduceAdd, Int.reduceNeg, Int.reduceLT, Int.reduceLE, Nat.reduceLT, wi, tn_nat, Nat.div_one, Nat.mul_one, W_len, W_nf, W_cell, W_nil, W_get, List.length_nil, List.length_cons, e, hl])
      simp (disch := (first | omega | assumption)) only [retOk, retN, ret1, retF, ret1F, V.okArg, and_true, true_and, S1, ↓reduceIte, Nat.reduceEqDiff, Nat.reduceAdd, Nat.reduceMul, Nat.reduceDiv, AOp.sb, AOp.mut, ↓Bool.false_eq_true, beq_self_eq_true, ite_self, Nat.reduceLeDiff, Int.reduceEq, Int.reduceSub, Int.reduceAdd, Int.reduceNeg, Int.reduceLT, Int.reduceLE, Nat.reduceLT, wi, tn_nat, Nat.div_one, Nat.mul_one, W_len, W_nf, W_cell, W_nil, W_get, List.length_nil, List.length_cons, e, hl]

-- surd/div.Divides
def a20 : AC := .seq (.reg [⟨some 4, none, .mv (.k (.b false))⟩])
  (.seq (.reg [⟨some 8, none, .mv (.t 1)⟩, 
      ⟨some 9, none, .mv (.t 0)⟩, 
      ⟨some 10, none, .call 17 [(1, (.t 8)), (1, (.t 9))]⟩, 
      ⟨some 7, none, .mv (.t 10)⟩, 
      ⟨some 11, none, .ext (.t 7) 0⟩, 
      ⟨some 12, none, .ext (.t 7) 1⟩, 
      ⟨some 5, none, .mv (.t 11)⟩, 
      ⟨some 6, none, .mv (.t 12)⟩])
  (.seq (.seq (.reg [⟨some 13, none, .mv (.t 6)⟩, 
        ⟨some 14, none, .bin .neq (.t 13) (.k (.i .i64 0))⟩])
    (.cond (.t 14)
    (.seq (.reg [⟨some 15, none, .mv (.t 1)⟩, 
          ⟨some 16, none, .call 38 [(1, (.t 15))]⟩, 
          ⟨some 17, none, .len (.t 16)⟩, 
          ⟨some 18, none, .bin .eql (.t 17) (.k (.i .i64 0))⟩, 
          ⟨some 4, none, .mv (.t 18)⟩])
      (.ret))
    (.skip)))
  (.seq (.reg [⟨some 19, none, .mv (.t 5)⟩, 
      ⟨some 20, none, .len (.t 19)⟩, 
      ⟨some 21, none, .bin .eql (.t 20) (.k (.i .i64 0))⟩, 
      ⟨some 4, none, .mv (.t 21)⟩])
  (.ret))))
theorem divides_spec (b a : List Nat) (hb : Wd b) (ha : Wd a) (lb : b.length ≤ 1000000000) (la : a.length ≤ 1000000000) :
    AFun Try.prog J0 20 [.l 1 (W b), .l 1 (W a)] (.b (dvB (nv B a) (nv B b))) := by
  have hq := mod_spec a b ha hb la lb
  have hn := norm_spec a (by omega)
  have hn0 := norm_len0 ha
  generalize nv B a = u at *
  generalize nv B b = v at *
  refine AFun.mk fol J0s Try.func20 rfl (ac := a20) (by kernel_rfl) rfl rfl ?_
  apply vm_start
  unfold a20
  simp only [init_eq, initE]
  by_cases h0 : v = 0
  · rw [show dvB u v = decide (u = 0) from if_pos h0]
    subst h0
    have zc23 := hq
    have zc24 := hn
    repeat first | (refine hK _ ?_; clear hK K) | simp only [Sv, ↓reduceIte, Nat.reduceEqDiff] | ((first | refine vm_reg (fun K hK => ?_) | refine vm_dreg (fun K hK => ?_) | refine clp_q ?_ | refine clq_mk (by assumption) ?_); simp (disch := (first | omega | assumption)) only [S1, ↓reduceIte, Nat.reduceEqDiff, Nat.reduceAdd, Nat.reduceMul, Nat.reduceDiv, AOp.sb, AOp.mut, ↓Bool.false_eq_true, beq_self_eq_true, ite_self, Nat.reduceLeDiff, Int.reduceEq, Int.reduceSub, Int.reduceAdd, Int.reduceNeg, Int.reduceLT, Int.reduceLE, Nat.reduceLT, wi, tn_nat, Nat.div_one, Nat.mul_one, W_len, W_nf, W_cell, W_nil, W_get, List.length_nil, List.length_cons, qE_0, hn0])
    simp (disch := (first | omega | assumption)) only [retOk, retN, ret1, retF, ret1F, V.okArg, and_true, true_and, S1, ↓reduceIte, Nat.reduceEqDiff, Nat.reduceAdd, Nat.reduceMul, Nat.reduceDiv, AOp.sb, AOp.mut, ↓Bool.false_eq_true, beq_self_eq_true, ite_self, Nat.reduceLeDiff, Int.reduceEq, Int.reduceSub, Int.reduceAdd, Int.reduceNeg, Int.reduceLT, Int.reduceLE, Nat.reduceLT, wi, tn_nat, Nat.div_one, Nat.mul_one, W_len, W_nf, W_cell, W_nil, W_get, List.length_nil, List.length_cons, qE_0, hn0]
  · have e := qE_p (v := v) (by omega)
    have hl := qR_nil (u := u) (v := v)
    have hl2 : (((qR u v).length : Nat) : Int) = 0 ↔ u % v = 0 := hl.trans ⟨fun h => h.resolve_left h0, .inr⟩
    rw [show dvB u v = decide (u % v = 0) from if_neg h0]
    have zc25 := hq
    repeat first | (refine hK _ ?_; clear hK K) | simp only [Sv, ↓reduceIte, Nat.reduceEqDiff] | ((first | refine vm_reg (fun K hK => ?_) | refine vm_dreg (fun K hK => ?_) | refine clp_q ?_ | refine clq_mk (by assumption) ?_); simp (disch := (first | omega | assumption)) only [S1, ↓reduceIte, Nat.reduceEqDiff, Nat.reduceAdd, Nat.reduceMul, Nat.reduceDiv, AOp.sb, AOp.mut, ↓Bool.false_eq_true, beq_self_eq_true, ite_self, Nat.reduceLeDiff, Int.reduceEq, Int.reduceSub, Int.reduceAdd, Int.reduceNeg, Int.reduceLT, Int.reduceLE, Nat.reduceLT, wi, tn_nat, Nat.div_one, Nat.mul_one, W_len, W_nf, W_cell, W_nil, W_get, List.length_nil, List.length_cons, e, hl2])
    simp (disch := (first | omega | assumption)) only [retOk, retN, ret1, retF, ret1F, V.okArg, and_true, true_and, S1, ↓reduceIte, Nat.reduceEqDiff, Nat.reduceAdd, Nat.reduceMul, Nat.reduceDiv, AOp.sb, AOp.mut, ↓Bool.false_eq_true, beq_self_eq_true, ite_self, Nat.reduceLeDiff, Int.reduceEq, Int.reduceSub, Int.reduceAdd, Int.reduceNeg, Int.reduceLT, Int.reduceLE, Nat.reduceLT, wi, tn_nat, Nat.div_one, Nat.mul_one, W_len, W_nf, W_cell, W_nil, W_get, List.length_nil, List.length_cons, e, hl2]

-- surd/div.Up
def a23 : AC := .seq (.reg [⟨some 4, none, .mv (.k .nl)⟩, 
      ⟨some 5, none, .mv (.k (.i .i64 0))⟩])
  (.seq (.reg [⟨some 10, none, .mv (.t 0)⟩, 
      ⟨some 11, none, .mv (.t 1)⟩, 
      ⟨some 12, none, .call 16 [(1, (.t 10)), (1, (.t 11))]⟩, 
      ⟨some 9, none, .mv (.t 12)⟩, 
      ⟨some 13, none, .ext (.t 9) 0⟩, 
      ⟨some 14, none, .ext (.t 9) 1⟩, 
      ⟨some 15, none, .ext (.t 9) 2⟩, 
      ⟨some 6, none, .mv (.t 13)⟩, 
      ⟨some 7, none, .mv (.t 14)⟩, 
      ⟨some 8, none, .mv (.t 15)⟩])
  (.seq (.seq (.reg [⟨some 16, none, .mv (.t 8)⟩, 
        ⟨some 17, none, .bin .neq (.t 16) (.k (.i .i64 0))⟩])
    (.cond (.t 17)
    (.seq (.reg [⟨some 18, none, .mv (.t 8)⟩, 
          ⟨some 4, none, .mv (.k .nl)⟩, 
          ⟨some 5, none, .mv (.t 18)⟩])
      (.ret))
    (.skip)))
  (.seq (.seq (.reg [⟨some 19, none, .mv (.t 7)⟩, 
        ⟨some 20, none, .len (.t 19)⟩, 
        ⟨some 21, none, .bin .gtr (.t 20) (.k (.i .i64 0))⟩])
    (.cond (.t 21)
    (.reg [⟨some 22, none, .mv (.t 6)⟩, 
        ⟨some 23, none, .call 51 [(1, (.k (.i .u64 1)))]⟩, 
        ⟨some 24, none, .call 35 [(1, (.t 22)), (1, (.t 23))]⟩, 
        ⟨some 6, none, .mv (.t 24)⟩])
    (.skip)))
  (.seq (.reg [⟨some 25, none, .mv (.t 6)⟩, 
      ⟨some 4, none, .mv (.t 25)⟩, 
      ⟨some 5, none, .mv (.k (.i .i64 0))⟩])
  (.ret)))))
theorem up_spec (a b : List Nat) (ha : Wd a) (hb : Wd b) (la : a.length ≤ 1000000000) (lb : b.length ≤ 1000000000) :
    AFun Try.prog J0 23 [.l 1 (W a), .l 1 (W b)] (.t [.l 1 (W (upQ (nv B a) (nv B b))), .i .i64 (qE (nv B b))]) := by
  have hq := quo_spec a b ha hb la lb
  have hql := qQ_len (v := nv B b) (nvlt ha la)
  have hof := natOf_spec 1 (by decide)
  generalize nv B a = u at *
  generalize nv B b = v at *
  have had := add_spec (qQ u v) (dg B 1) (qQ_Wd u v) (Wd_dg 1) (by omega) (by decide)
  rw [qQ_nv, nv1] at had
  refine AFun.mk fol J0s Try.func23 rfl (ac := a23) (by kernel_rfl) rfl rfl ?_
  apply vm_start
  unfold a23
  simp only [init_eq, initE]
  by_cases h0 : v = 0
  · rw [show upQ u v = [] from if_pos h0]
    subst h0
    have zc26 := hq
    repeat first | (refine hK _ ?_; clear hK K) | simp only [Sv, ↓reduceIte, Nat.reduceEqDiff] | ((first | refine vm_reg (fun K hK => ?_) | refine vm_dreg (fun K hK => ?_) | refine clp_q ?_ | refine clq_mk (by assumption) ?_); simp (disch := (first | omega | assumption)) only [S1, ↓reduceIte, Nat.reduceEqDiff, Nat.reduceAdd, Nat.reduceMul, Nat.reduceDiv, AOp.sb, AOp.mut, ↓Bool.false_eq_true, beq_self_eq_true, ite_self, Nat.reduceLeDiff, Int.reduceEq, Int.reduceSub, Int.reduceAdd, Int.reduceNeg, Int.reduceLT, Int.reduceLE, Nat.reduceLT, wi, tn_nat, Nat.div_one, Nat.mul_one, W_len, W_nf, W_cell, W_nil, W_get, List.length_nil, List.length_cons, qE_0])
    simp (disch := (first | omega | assumption)) only [retOk, retN, ret1, retF, ret1F, V.okArg, and_true, true_and, S1, ↓reduceIte, Nat.reduceEqDiff, Nat.reduceAdd, Nat.reduceMul, Nat.reduceDiv, AOp.sb, AOp.mut, ↓Bool.false_eq_true, beq_self_eq_true, ite_self, Nat.reduceLeDiff, Int.reduceEq, Int.reduceSub, Int.reduceAdd, Int.reduceNeg, Int.reduceLT, Int.reduceLE, Nat.reduceLT, wi, tn_nat, Nat.div_one, Nat.mul_one, W_len, W_nf, W_cell, W_nil, W_get, List.length_nil, List.length_cons, qE_0]
  · have e := qE_p (v := v) (by omega)
    by_cases h1 : u % v = 0
    · have hl : ((qR u v).length : Int) = 0 := qR_nil.2 (.inr h1)
      rw [show upQ u v = qQ u v from (if_neg h0).trans (if_pos h1)]
      have zc27 := hq
      repeat first | (refine hK _ ?_; clear hK K) | simp only [Sv, ↓reduceIte, Nat.reduceEqDiff] | ((first | refine vm_reg (fun K hK => ?_) | refine vm_dreg (fun K hK => ?_) | refine clp_q ?_ | refine clq_mk (by assumption) ?_); simp (disch := (first | omega | assumption)) only [S1, ↓reduceIte, Nat.reduceEqDiff, Nat.reduceAdd, Nat.reduceMul, Nat.reduceDiv, AOp.sb, AOp.mut, ↓Bool.false_eq_true, beq_self_eq_true, ite_self, Nat.reduceLeDiff, Int.reduceEq, Int.reduceSub, Int.reduceAdd, Int.reduceNeg, Int.reduceLT, Int.reduceLE, Nat.reduceLT, wi, tn_nat, Nat.div_one, Nat.mul_one, W_len, W_nf, W_cell, W_nil, W_get, List.length_nil, List.length_cons, e, hl])
      simp (disch := (first | omega | assumption)) only [retOk, retN, ret1, retF, ret1F, V.okArg, and_true, true_and, S1, ↓reduceIte, Nat.reduceEqDiff, Nat.reduceAdd, Nat.reduceMul, Nat.reduceDiv, AOp.sb, AOp.mut, ↓Bool.false_eq_true, beq_self_eq_true, ite_self, Nat.reduceLeDiff, Int.reduceEq, Int.reduceSub, Int.reduceAdd, Int.reduceNeg, Int.reduceLT, Int.reduceLE, Nat.reduceLT, wi, tn_nat, Nat.div_one, Nat.mul_one, W_len, W_nf, W_cell, W_nil, W_get, List.length_nil, List.length_cons, e, hl]
    · have hl : (0 : Int) < ((qR u v).length : Int) := by
        have : ¬ ((qR u v).length : Int) = 0 := fun h => by rcases qR_nil.1 h with h2 | h2 <;> omega
        omega
      rw [show upQ u v = dg B (u / v + 1) from (if_neg h0).trans (if_neg h1)]
      have zc28 := hq
      have zc29 := hof
      have zc30 := had
      repeat first | (refine hK _ ?_; clear hK K) | simp only [Sv, ↓reduceIte, Nat.reduceEqDiff] | ((first | refine vm_reg (fun K hK => ?_) | refine vm_dreg (fun K hK => ?_) | refine clp_q ?_ | refine clq_mk (by assumption) ?_); simp (disch := (first | omega | assumption)) only [S1, ↓reduceIte, Nat.reduceEqDiff, Nat.reduceAdd, Nat.reduceMul, Nat.reduceDiv, AOp.sb, AOp.mut, ↓Bool.false_eq_true, beq_self_eq_true, ite_self, Nat.reduceLeDiff, Int.reduceEq, Int.reduceSub, Int.reduceAdd, Int.reduceNeg, Int.reduceLT, Int.reduceLE, Nat.reduceLT, wi, tn_nat, Nat.div_one, Nat.mul_one, W_len, W_nf, W_cell, W_nil, W_get, List.length_nil, List.length_cons, e, hl])
      simp (disch := (first | omega | assumption)) only [retOk, retN, ret1, retF, ret1F, V.okArg, and_true, true_and, S1, ↓reduceIte, Nat.reduceEqDiff, Nat.reduceAdd, Nat.reduceMul, Nat.reduceDiv, AOp.sb, AOp.mut, ↓Bool.false_eq_true, beq_self_eq_true, ite_self, Nat.reduceLeDiff, Int.reduceEq, Int.reduceSub, Int.reduceAdd, Int.reduceNeg, Int.reduceLT, Int.reduceLE, Nat.reduceLT, wi, tn_nat, Nat.div_one, Nat.mul_one, W_len, W_nf, W_cell, W_nil, W_get, List.length_nil, List.length_cons, e, hl]
-- surd/div.Near
def a25 : AC := .seq (.reg [⟨some 4, none, .mv (.k .nl)⟩, 
      ⟨some 5, none, .mv (.k (.i .i64 0))⟩])
  (.seq (.reg [⟨some 10, none, .mv (.t 0)⟩, 
      ⟨some 11, none, .mv (.t 1)⟩, 
      ⟨some 12, none, .call 16 [(1, (.t 10)), (1, (.t 11))]⟩, 
      ⟨some 9, none, .mv (.t 12)⟩, 
      ⟨some 13, none, .ext (.t 9) 0⟩, 
      ⟨some 14, none, .ext (.t 9) 1⟩, 
      ⟨some 15, none, .ext (.t 9) 2⟩, 
      ⟨some 6, none, .mv (.t 13)⟩, 
      ⟨some 7, none, .mv (.t 14)⟩, 
      ⟨some 8, none, .mv (.t 15)⟩])
  (.seq (.seq (.reg [⟨some 16, none, .mv (.t 8)⟩, 
        ⟨some 17, none, .bin .neq (.t 16) (.k (.i .i64 0))⟩])
    (.cond (.t 17)
    (.seq (.reg [⟨some 18, none, .mv (.t 8)⟩, 
          ⟨some 4, none, .mv (.k .nl)⟩, 
          ⟨some 5, none, .mv (.t 18)⟩])
      (.ret))
    (.skip)))
  (.seq (.seq (.reg [⟨some 19, none, .mv (.t 7)⟩, 
        ⟨some 20, none, .mv (.t 7)⟩, 
        ⟨some 21, none, .call 35 [(1, (.t 19)), (1, (.t 20))]⟩, 
        ⟨some 22, none, .mv (.t 1)⟩, 
        ⟨some 23, none, .call 37 [(1, (.t 21)), (1, (.t 22))]⟩, 
        ⟨some 24, none, .bin .geq (.t 23) (.k (.i .i64 0))⟩])
    (.cond (.t 24)
    (.reg [⟨some 25, none, .mv (.t 6)⟩, 
        ⟨some 26, none, .call 51 [(1, (.k (.i .u64 1)))]⟩, 
        ⟨some 27, none, .call 35 [(1, (.t 25)), (1, (.t 26))]⟩, 
        ⟨some 6, none, .mv (.t 27)⟩])
    (.skip)))
  (.seq (.reg [⟨some 28, none, .mv (.t 6)⟩, 
      ⟨some 4, none, .mv (.t 28)⟩, 
      ⟨some 5, none, .mv (.k (.i .i64 0))⟩])
  (.ret)))))
theorem near_spec (a b : List Nat) (ha : Wd a) (hb : Wd b) (la : a.length ≤ 1000000000) (lb : b.length ≤ 1000000000) :
    AFun Try.prog J0 25 [.l 1 (W a), .l 1 (W b)] (.t [.l 1 (W (nrQ (nv B a) (nv B b))), .i .i64 (qE (nv B b))]) := by
  obtain ⟨m, hm⟩ : ∃ m, m = 1000000000 := ⟨_, rfl⟩
  have lam : a.length ≤ m := by omega
  have hq := quo_spec a b ha hb la lb
  have hql := qQ_len (v := nv B b) (nvlt ha la)
  have hrl := qR_len (v := nv B b) (nvlt ha la)
  have hof := natOf_spec 1 (by decide)
  have hrr := add_spec (qR (nv B a) (nv B b)) (qR (nv B a) (nv B b)) (qR_Wd _ _) (qR_Wd _ _) (by omega) (by omega)
  have had := add_spec (qQ (nv B a) (nv B b)) (dg B 1) (qQ_Wd _ _) (Wd_dg 1) (by omega) (by decide)
  rw [qQ_nv, nv1] at had
  refine AFun.mk fol J0s Try.func25 rfl (ac := a25) (by kernel_rfl) rfl rfl ?_
  apply vm_start
  unfold a25
  simp only [init_eq, initE]
  by_cases h0 : nv B b = 0
  · rw [show nrQ (nv B a) (nv B b) = [] from if_pos h0]
    rw [h0] at hq ⊢
    have zc31 := hq
    repeat first | (refine hK _ ?_; clear hK K) | simp only [Sv, ↓reduceIte, Nat.reduceEqDiff] | ((first | refine vm_reg (fun K hK => ?_) | refine vm_dreg (fun K hK => ?_) | refine clp_q ?_ | refine clq_mk (by assumption) ?_); simp (disch := (first | omega | assumption)) only [S1, ↓reduceIte, Nat.reduceEqDiff, Nat.reduceAdd, Nat.reduceMul, Nat.reduceDiv, AOp.sb, AOp.mut, ↓Bool.false_eq_true, beq_self_eq_true, ite_self, Nat.reduceLeDiff, Int.reduceEq, Int.reduceSub, Int.reduceAdd, Int.reduceNeg, Int.reduceLT, Int.reduceLE, Nat.reduceLT, wi, tn_nat, Nat.div_one, Nat.mul_one, W_len, W_nf, W_cell, W_nil, W_get, List.length_nil, List.length_cons, qE_0])
    simp (disch := (first | omega | assumption)) only [retOk, retN, ret1, retF, ret1F, V.okArg, and_true, true_and, S1, ↓reduceIte, Nat.reduceEqDiff, Nat.reduceAdd, Nat.reduceMul, Nat.reduceDiv, AOp.sb, AOp.mut, ↓Bool.false_eq_true, beq_self_eq_true, ite_self, Nat.reduceLeDiff, Int.reduceEq, Int.reduceSub, Int.reduceAdd, Int.reduceNeg, Int.reduceLT, Int.reduceLE, Nat.reduceLT, wi, tn_nat, Nat.div_one, Nat.mul_one, W_len, W_nf, W_cell, W_nil, W_get, List.length_nil, List.length_cons, qE_0]
  · have e := qE_p (v := nv B b) (by omega)
    have hR : nv B (qR (nv B a) (nv B b)) = nv B a % nv B b := by rw [qR_p (by omega), nv_dgB]
    rw [hR] at hrr
    have hr2 : (dg B (nv B a % nv B b + nv B a % nv B b)).length ≤ m + 1 := dlen (padd (Nat.lt_of_le_of_lt (Nat.mod_le _ _) (nvlt ha lam)) (Nat.lt_of_le_of_lt (Nat.mod_le _ _) (nvlt ha lam)))
    have hcm := cmp_spec (dg B (nv B a % nv B b + nv B a % nv B b)) b (Wd_dg _) hb (by omega) (by omega)
    rw [nv_dgB] at hcm
    by_cases h1 : nv B a % nv B b + nv B a % nv B b < nv B b
    · have hs : (0 ≤ sg (nv B a % nv B b + nv B a % nv B b) (nv B b)) = False := by
        have := sg_lt (x := nv B a % nv B b + nv B a % nv B b) (y := nv B b)
        exact eq_false (fun h => by have := this.mpr h1; omega)
      rw [show nrQ (nv B a) (nv B b) = qQ (nv B a) (nv B b) from (if_neg h0).trans (if_pos h1)]
      have zc32 := hq
      have zc33 := hrr
      have zc34 := hcm
      repeat first | (refine hK _ ?_; clear hK K) | simp only [Sv, ↓reduceIte, Nat.reduceEqDiff] | ((first | refine vm_reg (fun K hK => ?_) | refine vm_dreg (fun K hK => ?_) | refine clp_q ?_ | refine clq_mk (by assumption) ?_); simp (disch := (first | omega | assumption)) only [S1, ↓reduceIte, Nat.reduceEqDiff, Nat.reduceAdd, Nat.reduceMul, Nat.reduceDiv, AOp.sb, AOp.mut, ↓Bool.false_eq_true, beq_self_eq_true, ite_self, Nat.reduceLeDiff, Int.reduceEq, Int.reduceSub, Int.reduceAdd, Int.reduceNeg, Int.reduceLT, Int.reduceLE, Nat.reduceLT, wi, tn_nat, Nat.div_one, Nat.mul_one, W_len, W_nf, W_cell, W_nil, W_get, List.length_nil, List.length_cons, e, hs])
      simp (disch := (first | omega | assumption)) only [retOk, retN, ret1, retF, ret1F, V.okArg, and_true, true_and, S1, ↓reduceIte, Nat.reduceEqDiff, Nat.reduceAdd, Nat.reduceMul, Nat.reduceDiv, AOp.sb, AOp.mut, ↓Bool.false_eq_true, beq_self_eq_true, ite_self, Nat.reduceLeDiff, Int.reduceEq, Int.reduceSub, Int.reduceAdd, Int.reduceNeg, Int.reduceLT, Int.reduceLE, Nat.reduceLT, wi, tn_nat, Nat.div_one, Nat.mul_one, W_len, W_nf, W_cell, W_nil, W_get, List.length_nil, List.length_cons, e, hs]
    · have hs : (0 ≤ sg (nv B a % nv B b + nv B a % nv B b) (nv B b)) = True := by
        have := sg_lt (x := nv B a % nv B b + nv B a % nv B b) (y := nv B b)
        refine eq_true (Int.not_lt.1 fun h => h1 (this.mp h))
      rw [show nrQ (nv B a) (nv B b) = dg B (nv B a / nv B b + 1) from (if_neg h0).trans (if_neg h1)]
      have zc35 := hq
      have zc36 := hrr
      have zc37 := hcm
      have zc38 := hof
      have zc39 := had
      repeat first | (refine hK _ ?_; clear hK K) | simp only [Sv, ↓reduceIte, Nat.reduceEqDiff] | ((first | refine vm_reg (fun K hK => ?_) | refine vm_dreg (fun K hK => ?_) | refine clp_q ?_ | refine clq_mk (by assumption) ?_); simp (disch := (first | omega | assumption)) only [S1, ↓reduceIte, Nat.reduceEqDiff, Nat.reduceAdd, Nat.reduceMul, Nat.reduceDiv, AOp.sb, AOp.mut, ↓Bool.false_eq_true, beq_self_eq_true, ite_self, Nat.reduceLeDiff, Int.reduceEq, Int.reduceSub, Int.reduceAdd, Int.reduceNeg, Int.reduceLT, Int.reduceLE, Nat.reduceLT, wi, tn_nat, Nat.div_one, Nat.mul_one, W_len, W_nf, W_cell, W_nil, W_get, List.length_nil, List.length_cons, e, hs])
      simp (disch := (first | omega | assumption)) only [retOk, retN, ret1, retF, ret1F, V.okArg, and_true, true_and, S1, ↓reduceIte, Nat.reduceEqDiff, Nat.reduceAdd, Nat.reduceMul, Nat.reduceDiv, AOp.sb, AOp.mut, ↓Bool.false_eq_true, beq_self_eq_true, ite_self, Nat.reduceLeDiff, Int.reduceEq, Int.reduceSub, Int.reduceAdd, Int.reduceNeg, Int.reduceLT, Int.reduceLE, Nat.reduceLT, wi, tn_nat, Nat.div_one, Nat.mul_one, W_len, W_nf, W_cell, W_nil, W_get, List.length_nil, List.length_cons, e, hs]

-- surd/div.Often
def a13 : AC := .seq (.reg [⟨some 4, none, .mv (.k (.i .i64 0))⟩, 
      ⟨some 5, none, .mv (.k .nl)⟩, 
      ⟨some 6, none, .mv (.k (.i .i64 0))⟩])
  (.seq (.reg [⟨some 12, none, .mv (.t 0)⟩, 
      ⟨some 13, none, .call 38 [(1, (.t 12))]⟩, 
      ⟨some 7, none, .mv (.t 13)⟩])
  (.seq (.seq (.reg [⟨some 14, none, .mv (.t 7)⟩, 
        ⟨some 15, none, .len (.t 14)⟩, 
        ⟨some 16, none, .bin .eql (.t 15) (.k (.i .i64 0))⟩])
    (.cond (.t 16)
    (.seq (.reg [⟨some 4, none, .mv (.k (.i .i64 0))⟩, 
          ⟨some 5, none, .mv (.k .nl)⟩, 
          ⟨some 6, none, .mv (.k (.i .i64 1))⟩])
      (.ret))
    (.skip)))
  (.seq (.seq (.reg [⟨some 17, none, .mv (.t 1)⟩, 
        ⟨some 18, none, .call 51 [(1, (.k (.i .u64 1)))]⟩, 
        ⟨some 19, none, .call 37 [(1, (.t 17)), (1, (.t 18))]⟩, 
        ⟨some 20, none, .bin .leq (.t 19) (.k (.i .i64 0))⟩])
    (.cond (.t 20)
    (.seq (.reg [⟨some 4, none, .mv (.k (.i .i64 0))⟩, 
          ⟨some 5, none, .mv (.k .nl)⟩, 
          ⟨some 6, none, .mv (.k (.i .i64 3))⟩])
      (.ret))
    (.skip)))
  (.seq (.reg [⟨some 8, none, .mv (.k (.i .i64 0))⟩])
  (.blk 0
  (.loop
    (.seq (.blk 1
        (.seq (.reg [⟨some 24, none, .mv (.t 7)⟩, 
              ⟨some 25, none, .mv (.t 1)⟩, 
              ⟨some 26, none, .call 16 [(1, (.t 24)), (1, (.t 25))]⟩, 
              ⟨some 23, none, .mv (.t 26)⟩, 
              ⟨some 27, none, .ext (.t 23) 0⟩, 
              ⟨some 28, none, .ext (.t 23) 1⟩, 
              ⟨some 29, none, .ext (.t 23) 2⟩, 
              ⟨some 9, none, .mv (.t 27)⟩, 
              ⟨some 10, none, .mv (.t 28)⟩, 
              ⟨some 11, none, .mv (.t 29)⟩])
          (.seq (.seq (.reg [⟨some 30, none, .mv (.t 11)⟩, 
                ⟨some 31, none, .bin .neq (.t 30) (.k (.i .i64 0))⟩])
            (.cond (.t 31)
            (.seq (.reg [⟨some 32, none, .mv (.t 11)⟩, 
                  ⟨some 4, none, .mv (.k (.i .i64 0))⟩, 
                  ⟨some 5, none, .mv (.k .nl)⟩, 
                  ⟨some 6, none, .mv (.t 32)⟩])
              (.ret))
            (.skip)))
          (.seq (.seq (.reg [⟨some 33, none, .mv (.t 10)⟩, 
                ⟨some 34, none, .len (.t 33)⟩, 
                ⟨some 35, none, .bin .gtr (.t 34) (.k (.i .i64 0))⟩])
            (.cond (.t 35)
            (.seq (.reg [⟨some 36, none, .mv (.t 8)⟩, 
                  ⟨some 37, none, .mv (.t 7)⟩, 
                  ⟨some 4, none, .mv (.t 36)⟩, 
                  ⟨some 5, none, .mv (.t 37)⟩, 
                  ⟨some 6, none, .mv (.k (.i .i64 0))⟩])
              (.ret))
            (.skip)))
          (.reg [⟨some 38, none, .mv (.t 9)⟩, 
            ⟨some 7, none, .mv (.t 38)⟩])))))
      (.reg [⟨some 21, none, .mv (.t 8)⟩, 
        ⟨some 22, none, .bin .add (.t 21) (.k (.i .i64 1))⟩, 
        ⟨some 8, none, .mv (.t 22)⟩]))))))))
theorem often_spec (a b : List Nat) (ha : Wd a) (hb : Wd b) (la : a.length ≤ 100000000) (lb : b.length ≤ 100000000) :
    AFun Try.prog J0 13 [.l 1 (W a), .l 1 (W b)] (.t [.i .i64 ((ofN (nv B a) (nv B b) : Nat) : Int), .l 1 (W (ofL (nv B a) (nv B b))), .i .i64 (ofE (nv B a) (nv B b))]) := by
  have hn := (norm_dg a ha (by omega)).frozen
  have hof := natOf_spec 1 (by decide)
  have hcm := cmp_spec b (dg B 1) hb (Wd_dg 1) (by omega) (by decide)
  rw [nv1] at hcm
  have hA := nv_lt ha
  have hdl : ∀ x, x < B ^ a.length → (dg B x).length ≤ a.length := fun x hx => dlen hx
  have hqu := fun x (hx : x < B ^ a.length) => quo_spec (dg B x) b (Wd_dg x) hb (by have := hdl x hx; omega) (by omega)
  simp only [nv_dgB] at hqu
  have hd0 : (((dg B (nv B a)).length : Int) = 0) = (nv B a = 0) := propext ⟨fun h => (dg_nil B2).1 (List.eq_nil_of_length_eq_zero (by omega)), fun h => by rw [h]; rfl⟩
  generalize nv B a = u at *
  generalize nv B b = v at *
  refine AFun.mk fol J0s Try.func13 rfl (ac := a13) (by kernel_rfl) rfl rfl ?_
  apply vm_start
  unfold a13
  simp only [init_eq, initE]
  by_cases h0 : u = 0
  · rw [show ofN u v = 0 from if_pos (.inl h0), show ofL u v = [] from if_pos (.inl h0), show ofE u v = 1 from if_pos h0]
    subst h0
    rw [dg_zero] at hn
    have zc40 := hn
    repeat first | (refine hK _ ?_; clear hK K) | simp only [Sv, ↓reduceIte, Nat.reduceEqDiff] | ((first | refine vm_reg (fun K hK => ?_) | refine vm_dreg (fun K hK => ?_) | refine clp_q ?_ | refine clq_mk (by assumption) ?_); simp (disch := (first | omega | assumption)) only [S1, ↓reduceIte, Nat.reduceEqDiff, Nat.reduceAdd, Nat.reduceMul, Nat.reduceDiv, AOp.sb, AOp.mut, ↓Bool.false_eq_true, beq_self_eq_true, ite_self, Nat.reduceLeDiff, Int.reduceEq, Int.reduceSub, Int.reduceAdd, Int.reduceNeg, Int.reduceLT, Int.reduceLE, Nat.reduceLT, wi, tn_nat, Nat.div_one, Nat.mul_one, W_len, W_nf, W_cell, W_nil, W_get, List.length_nil, List.length_cons])
    simp (disch := (first | omega | assumption)) only [retOk, retN, ret1, retF, ret1F, V.okArg, and_true, true_and, S1, ↓reduceIte, Nat.reduceEqDiff, Nat.reduceAdd, Nat.reduceMul, Nat.reduceDiv, AOp.sb, AOp.mut, ↓Bool.false_eq_true, beq_self_eq_true, ite_self, Nat.reduceLeDiff, Int.reduceEq, Int.reduceSub, Int.reduceAdd, Int.reduceNeg, Int.reduceLT, Int.reduceLE, Nat.reduceLT, wi, tn_nat, Nat.div_one, Nat.mul_one, W_len, W_nf, W_cell, W_nil, W_get, List.length_nil, List.length_cons]
  · by_cases h1 : v ≤ 1
    · rw [show ofN u v = 0 from if_pos (.inr h1), show ofL u v = [] from if_pos (.inr h1), show ofE u v = 3 from (if_neg h0).trans (if_pos h1)]
      have zc41 := hn
      have zc42 := hof
      have zc43 := hcm
      repeat first | (refine hK _ ?_; clear hK K) | simp only [Sv, ↓reduceIte, Nat.reduceEqDiff] | ((first | refine vm_reg (fun K hK => ?_) | refine vm_dreg (fun K hK => ?_) | refine clp_q ?_ | refine clq_mk (by assumption) ?_); simp (disch := (first | omega | assumption)) only [S1, ↓reduceIte, Nat.reduceEqDiff, Nat.reduceAdd, Nat.reduceMul, Nat.reduceDiv, AOp.sb, AOp.mut, ↓Bool.false_eq_true, beq_self_eq_true, ite_self, Nat.reduceLeDiff, Int.reduceEq, Int.reduceSub, Int.reduceAdd, Int.reduceNeg, Int.reduceLT, Int.reduceLE, Nat.reduceLT, wi, tn_nat, Nat.div_one, Nat.mul_one, W_len, W_nf, W_cell, W_nil, W_get, List.length_nil, List.length_cons, hd0, h0, sg_le, h1])
      simp (disch := (first | omega | assumption)) only [retOk, retN, ret1, retF, ret1F, V.okArg, and_true, true_and, S1, ↓reduceIte, Nat.reduceEqDiff, Nat.reduceAdd, Nat.reduceMul, Nat.reduceDiv, AOp.sb, AOp.mut, ↓Bool.false_eq_true, beq_self_eq_true, ite_self, Nat.reduceLeDiff, Int.reduceEq, Int.reduceSub, Int.reduceAdd, Int.reduceNeg, Int.reduceLT, Int.reduceLE, Nat.reduceLT, wi, tn_nat, Nat.div_one, Nat.mul_one, W_len, W_nf, W_cell, W_nil, W_get, List.length_nil, List.length_cons, hd0, h0, sg_le, h1]
    · rw [show ofN u v = (oft v u u).1 from if_neg (by omega), show ofL u v = dg B (oft v u u).2 from if_neg (by omega), show ofE u v = 0 from (if_neg h0).trans (if_neg h1)]
      have zc44 := hn
      have zc45 := hof
      have zc46 := hcm
      repeat first | (refine hK _ ?_; clear hK K) | simp only [Sv, ↓reduceIte, Nat.reduceEqDiff] | ((first | refine vm_reg (fun K hK => ?_) | refine vm_dreg (fun K hK => ?_) | refine clp_q ?_ | refine clq_mk (by assumption) ?_); simp (disch := (first | omega | assumption)) only [S1, ↓reduceIte, Nat.reduceEqDiff, Nat.reduceAdd, Nat.reduceMul, Nat.reduceDiv, AOp.sb, AOp.mut, ↓Bool.false_eq_true, beq_self_eq_true, ite_self, Nat.reduceLeDiff, Int.reduceEq, Int.reduceSub, Int.reduceAdd, Int.reduceNeg, Int.reduceLT, Int.reduceLE, Nat.reduceLT, wi, tn_nat, Nat.div_one, Nat.mul_one, W_len, W_nf, W_cell, W_nil, W_get, List.length_nil, List.length_cons, hd0, h0, sg_le, h1])
      refine vm_loopA [] (Nat × Nat) (fun s => ⟨[(1, .l 1 (W b)), (7, .l 1 (W (dg B s.2))), (8, .i .i64 (s.1 : Int))], [], 0⟩) (OfI u v) (fun s => s.2) (0, u) (OfI_0 (by omega)) (by simp (disch := (first | omega | assumption)) only [Sl, Sa, Sw, ↓reduceIte, Nat.reduceEqDiff, Nat.reduceLT, List.all_nil, List.all_cons, Nat.reduceBneDiff, Nat.reduceAdd, bne_iff_ne, ne_eq, reduceCtorEq, not_false_eq_true, not_true_eq_false, Bool.and_true, Bool.true_and, and_true, true_and, and_self]) (by
        simp (disch := (first | omega | assumption)) only [Sl, Sa, Sw, ↓reduceIte, Nat.reduceEqDiff, Nat.reduceLT, List.all_nil, List.all_cons, Nat.reduceBneDiff, Nat.reduceAdd, bne_iff_ne, ne_eq, reduceCtorEq, not_false_eq_true, not_true_eq_false, Bool.and_true, Bool.true_and, and_true, true_and, and_self, i_eq]
        try rfl) ?_
      rintro ⟨n, x⟩ hI Q' hQ he hr
      simp only []
      obtain ⟨b1, b2⟩ := OfI_bnd (by omega) hI hA
      have hq := hqu x b2
      have e := qE_p (v := v) (by omega)
      by_cases h2 : x % v = 0
      · obtain ⟨s1, s2⟩ := OfI_step (by omega) hI h2
        have hl : ((qR x v).length : Int) = 0 := qR_nil.2 (.inr h2)
        have zc47 := hq
        repeat first | (refine hK _ ?_; clear hK K) | simp only [Sv, ↓reduceIte, Nat.reduceEqDiff] | ((first | refine vm_reg (fun K hK => ?_) | refine vm_dreg (fun K hK => ?_) | refine clp_q ?_ | refine clq_mk (by assumption) ?_); simp (disch := (first | omega | assumption)) only [S1, ↓reduceIte, Nat.reduceEqDiff, Nat.reduceAdd, Nat.reduceMul, Nat.reduceDiv, AOp.sb, AOp.mut, ↓Bool.false_eq_true, beq_self_eq_true, ite_self, Nat.reduceLeDiff, Int.reduceEq, Int.reduceSub, Int.reduceAdd, Int.reduceNeg, Int.reduceLT, Int.reduceLE, Nat.reduceLT, wi, tn_nat, Nat.div_one, Nat.mul_one, W_len, W_nf, W_cell, W_nil, W_get, List.length_nil, List.length_cons, e, hl, wi])
        refine hQ _ (n + 1, x / v) s1 s2 ?_
        simp (disch := (first | omega | assumption)) only [Sl, Sa, Sw, ↓reduceIte, Nat.reduceEqDiff, Nat.reduceLT, List.all_nil, List.all_cons, Nat.reduceBneDiff, Nat.reduceAdd, bne_iff_ne, ne_eq, reduceCtorEq, not_false_eq_true, not_true_eq_false, Bool.and_true, Bool.true_and, and_true, true_and, and_self, i_eq]
        repeat' first | rfl | omega | (simp only [List.length_append, List.length_cons, List.length_nil]; done) | apply And.intro
      · obtain ⟨s1, s2⟩ := OfI_end hI h2
        have hl : (0 : Int) < ((qR x v).length : Int) := by
          have : ¬ ((qR x v).length : Int) = 0 := fun h => by rcases qR_nil.1 h with h2 | h2 <;> omega
          omega
        rw [← s1, ← s2] at hr
        have zc48 := hq
        repeat first | (refine hK _ ?_; clear hK K) | simp only [Sv, ↓reduceIte, Nat.reduceEqDiff] | ((first | refine vm_reg (fun K hK => ?_) | refine vm_dreg (fun K hK => ?_) | refine clp_q ?_ | refine clq_mk (by assumption) ?_); simp (disch := (first | omega | assumption)) only [S1, ↓reduceIte, Nat.reduceEqDiff, Nat.reduceAdd, Nat.reduceMul, Nat.reduceDiv, AOp.sb, AOp.mut, ↓Bool.false_eq_true, beq_self_eq_true, ite_self, Nat.reduceLeDiff, Int.reduceEq, Int.reduceSub, Int.reduceAdd, Int.reduceNeg, Int.reduceLT, Int.reduceLE, Nat.reduceLT, wi, tn_nat, Nat.div_one, Nat.mul_one, W_len, W_nf, W_cell, W_nil, W_get, List.length_nil, List.length_cons, e, hl])
        refine hr _ ?_
        repeat first | (refine hK _ ?_; clear hK K) | simp only [Sv, ↓reduceIte, Nat.reduceEqDiff] | ((first | refine vm_reg (fun K hK => ?_) | refine vm_dreg (fun K hK => ?_)); simp (disch := (first | omega | assumption)) only [S1, ↓reduceIte, Nat.reduceEqDiff, Nat.reduceAdd, Nat.reduceMul, Nat.reduceDiv, AOp.sb, AOp.mut, ↓Bool.false_eq_true, beq_self_eq_true, ite_self, Nat.reduceLeDiff, Int.reduceEq, Int.reduceSub, Int.reduceAdd, Int.reduceNeg, Int.reduceLT, Int.reduceLE, Nat.reduceLT, wi, tn_nat, Nat.div_one, Nat.mul_one, W_len, W_nf, W_cell, W_nil, W_get, List.length_nil, List.length_cons])
        simp (disch := (first | omega | assumption)) only [retOk, retN, ret1, retF, ret1F, V.okArg, and_true, true_and, S1, ↓reduceIte, Nat.reduceEqDiff, Nat.reduceAdd, Nat.reduceMul, Nat.reduceDiv, AOp.sb, AOp.mut, ↓Bool.false_eq_true, beq_self_eq_true, ite_self, Nat.reduceLeDiff, Int.reduceEq, Int.reduceSub, Int.reduceAdd, Int.reduceNeg, Int.reduceLT, Int.reduceLE, Nat.reduceLT, wi, tn_nat, Nat.div_one, Nat.mul_one, W_len, W_nf, W_cell, W_nil, W_get, List.length_nil, List.length_cons]
end Go.Proofs.Ytngohbpgdeiodaa
