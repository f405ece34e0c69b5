/-
  lex: parentheses, pieces.
-/
import Derived.Test.YtjfbkegdnljfjaaL6
namespace Go.Proofs.Ytjfbkegdnljfjaa
open Go Go.RowKit Ab
set_option linter.unusedSimpArgs false
set_option linter.unusedVariables false
set_option maxHeartbeats 10000000
theorem bz_L8 : type_of% (And.intro @wi (And.intro @tn_nat (And.intro @tn0 (And.intro @Nat.div_one (And.intro @Nat.mul_one (And.intro @T_len (And.intro @m3 (And.intro @T_row (And.intro @T_nf (And.intro @T_app1 (@Tv_nf))))))))))) := And.intro @wi (And.intro @tn_nat (And.intro @tn0 (And.intro @Nat.div_one (And.intro @Nat.mul_one (And.intro @T_len (And.intro @m3 (And.intro @T_row (And.intro @T_nf (And.intro @T_app1 (@Tv_nf))))))))))
def way (t : Tk) : Int := if t.k = 5 then (if t.t = [40] then 1 else if t.t = [41] then -1 else 0) else 0
def isS (t : Tk) (s : List UInt8) : Bool := decide (t.k = 5 ∧ t.t = s)
theorem way_le (t : Tk) : -1 ≤ way t ∧ way t ≤ 1 := by
  unfold way
  split
  · split
    · omega
    · split <;> omega
  · omega
def nestG : List Tk → Int → Int → Int × Int
  | [], d, m => if d = 0 then (m, 0) else (0, 5)
  | t :: r, d, m => if d + way t < 0 then (0, 5) else nestG r (d + way t) (max m (d + way t))
def matchG : List Tk → Nat → Int → Int × Int
  | [], _, _ => (0, 5)
  | t :: r, k, d => if d + way t = 0 then (k, 0) else matchG r (k + 1) (d + way t)
def splitG (s : List UInt8) : List Tk → Int → List Tk → List (List Tk)
  | [], _, p => [p]
  | t :: r, d, p => if d + way t = 0 ∧ isS t s = true then p :: splitG s r (d + way t) [] else splitG s r (d + way t) (p ++ [t])
theorem tk_drop {ts : List Tk} {i : Nat} (h : i < ts.length) : ts.drop i = ts.getD i default :: ts.drop (i + 1) := by
  rw [List.drop_eq_getElem_cons h, List.getD_eq_getElem?_getD, List.getElem?_eq_getElem h]; rfl
theorem seq_dec (a b : List UInt8) : (a == b) = decide (a = b) := by
  cases h : a == b
  · exact (decide_eq_false (by simpa using h)).symm
  · exact (decide_eq_true (by simpa using h)).symm
def a19 : AC := .seq (.reg [⟨some 1, none, .bx 47 (.t 0)⟩,
 ⟨some 2, none, .mv (.k (.i .i64 0))⟩])
 (.seq (.seq (.reg [⟨some 3, none, .fad 0 (.t 1)⟩,
 ⟨some 4, none, .ld false 1 (.t 3)⟩,
 ⟨some 5, none, .bin .neq (.t 4) (.k (.i .i64 5))⟩])
 (.cond (.t 5)
 (.seq (.reg [⟨some 2, none, .mv (.k (.i .i64 0))⟩])
 (.ret))
 (.skip)))
 (.seq (.seq (.reg [⟨some 6, none, .fad 1 (.t 1)⟩,
 ⟨some 7, none, .ld false 1 (.t 6)⟩,
 ⟨some 8, none, .bin .eql (.t 7) (.k (.s [40]))⟩])
 (.cond (.t 8)
 (.seq (.reg [⟨some 2, none, .mv (.k (.i .i64 1))⟩])
 (.ret))
 (.skip)))
 (.seq (.seq (.reg [⟨some 9, none, .fad 1 (.t 1)⟩,
 ⟨some 10, none, .ld false 1 (.t 9)⟩,
 ⟨some 11, none, .bin .eql (.t 10) (.k (.s [41]))⟩])
 (.cond (.t 11)
 (.seq (.reg [⟨some 2, none, .mv (.k (.i .i64 (-1)))⟩])
 (.ret))
 (.skip)))
 (.seq (.reg [⟨some 2, none, .mv (.k (.i .i64 0))⟩])
 (.ret)))))
theorem rway_spec (t : Tk) : AFun Try.prog J0 19 [.g [.i .i64 t.k, .s t.t, .i .i64 t.a]] (.i .i64 (way t)) := by
  refine AFun.mk fol J0s Try.func19 rfl (ac := a19) (by kernel_rfl) rfl rfl rfl ?_
  apply vm_start
  unfold a19
  simp only [init_eq, initE]
  by_cases h1 : t.k = 5
  · by_cases h2 : t.t = [40]
    · have e : way t = 1 := by unfold way; rw [if_pos h1, if_pos h2]
      repeat first | (refine hK _ ?_; clear hK K) | simp only [Sv, ↓reduceIte, Nat.reduceEqDiff] | ((first | refine vm_reg (fun K hK => ?_) | refine vm_dreg (fun K hK => ?_) | refine vm_dregx (fun K hK => ?_)); simp (disch := (first | omega | assumption)) only [S1, ↓reduceIte, Nat.reduceEqDiff, Nat.reduceAdd, Nat.reduceMul, Nat.reduceDiv, AOp.sb, AOp.mut, frzf, ↓Bool.false_eq_true, beq_self_eq_true, ite_self, Nat.reduceLeDiff, Int.reduceEq, Int.reduceSub, Int.reduceAdd, Int.reduceNeg, Int.reduceLT, Int.reduceLE, Nat.reduceLT, bz_L8, h1, h2, e])
      simp (disch := (first | omega | assumption)) only [retOk, retN, ret1, retF, ret1F, V.okArg, and_true, true_and, S1, ↓reduceIte, Nat.reduceEqDiff, Nat.reduceAdd, Nat.reduceMul, Nat.reduceDiv, AOp.sb, AOp.mut, frzf, ↓Bool.false_eq_true, beq_self_eq_true, ite_self, Nat.reduceLeDiff, Int.reduceEq, Int.reduceSub, Int.reduceAdd, Int.reduceNeg, Int.reduceLT, Int.reduceLE, Nat.reduceLT, bz_L8, h1, h2, e]
    · by_cases h3 : t.t = [41]
      · have e : way t = -1 := by unfold way; rw [if_pos h1, if_neg h2, if_pos h3]
        have h4 : ¬ ([41] : List UInt8) = [40] := by decide
        repeat first | (refine hK _ ?_; clear hK K) | simp only [Sv, ↓reduceIte, Nat.reduceEqDiff] | ((first | refine vm_reg (fun K hK => ?_) | refine vm_dreg (fun K hK => ?_) | refine vm_dregx (fun K hK => ?_)); simp (disch := (first | omega | assumption)) only [S1, ↓reduceIte, Nat.reduceEqDiff, Nat.reduceAdd, Nat.reduceMul, Nat.reduceDiv, AOp.sb, AOp.mut, frzf, ↓Bool.false_eq_true, beq_self_eq_true, ite_self, Nat.reduceLeDiff, Int.reduceEq, Int.reduceSub, Int.reduceAdd, Int.reduceNeg, Int.reduceLT, Int.reduceLE, Nat.reduceLT, bz_L8, h1, h3, seq_dec, h4, e])
        simp (disch := (first | omega | assumption)) only [retOk, retN, ret1, retF, ret1F, V.okArg, and_true, true_and, S1, ↓reduceIte, Nat.reduceEqDiff, Nat.reduceAdd, Nat.reduceMul, Nat.reduceDiv, AOp.sb, AOp.mut, frzf, ↓Bool.false_eq_true, beq_self_eq_true, ite_self, Nat.reduceLeDiff, Int.reduceEq, Int.reduceSub, Int.reduceAdd, Int.reduceNeg, Int.reduceLT, Int.reduceLE, Nat.reduceLT, bz_L8, h1, h3, seq_dec, h4, e]
      · have e : way t = 0 := by unfold way; rw [if_pos h1, if_neg h2, if_neg h3]
        repeat first | (refine hK _ ?_; clear hK K) | simp only [Sv, ↓reduceIte, Nat.reduceEqDiff] | ((first | refine vm_reg (fun K hK => ?_) | refine vm_dreg (fun K hK => ?_) | refine vm_dregx (fun K hK => ?_)); simp (disch := (first | omega | assumption)) only [S1, ↓reduceIte, Nat.reduceEqDiff, Nat.reduceAdd, Nat.reduceMul, Nat.reduceDiv, AOp.sb, AOp.mut, frzf, ↓Bool.false_eq_true, beq_self_eq_true, ite_self, Nat.reduceLeDiff, Int.reduceEq, Int.reduceSub, Int.reduceAdd, Int.reduceNeg, Int.reduceLT, Int.reduceLE, Nat.reduceLT, bz_L8, h1, h2, h3, seq_dec, e])
        simp (disch := (first | omega | assumption)) only [retOk, retN, ret1, retF, ret1F, V.okArg, and_true, true_and, S1, ↓reduceIte, Nat.reduceEqDiff, Nat.reduceAdd, Nat.reduceMul, Nat.reduceDiv, AOp.sb, AOp.mut, frzf, ↓Bool.false_eq_true, beq_self_eq_true, ite_self, Nat.reduceLeDiff, Int.reduceEq, Int.reduceSub, Int.reduceAdd, Int.reduceNeg, Int.reduceLT, Int.reduceLE, Nat.reduceLT, bz_L8, h1, h2, h3, seq_dec, e]
  · have e : way t = 0 := by unfold way; rw [if_neg h1]
    repeat first | (refine hK _ ?_; clear hK K) | simp only [Sv, ↓reduceIte, Nat.reduceEqDiff] | ((first | refine vm_reg (fun K hK => ?_) | refine vm_dreg (fun K hK => ?_) | refine vm_dregx (fun K hK => ?_)); simp (disch := (first | omega | assumption)) only [S1, ↓reduceIte, Nat.reduceEqDiff, Nat.reduceAdd, Nat.reduceMul, Nat.reduceDiv, AOp.sb, AOp.mut, frzf, ↓Bool.false_eq_true, beq_self_eq_true, ite_self, Nat.reduceLeDiff, Int.reduceEq, Int.reduceSub, Int.reduceAdd, Int.reduceNeg, Int.reduceLT, Int.reduceLE, Nat.reduceLT, bz_L8, h1, e])
    simp (disch := (first | omega | assumption)) only [retOk, retN, ret1, retF, ret1F, V.okArg, and_true, true_and, S1, ↓reduceIte, Nat.reduceEqDiff, Nat.reduceAdd, Nat.reduceMul, Nat.reduceDiv, AOp.sb, AOp.mut, frzf, ↓Bool.false_eq_true, beq_self_eq_true, ite_self, Nat.reduceLeDiff, Int.reduceEq, Int.reduceSub, Int.reduceAdd, Int.reduceNeg, Int.reduceLT, Int.reduceLE, Nat.reduceLT, bz_L8, h1, e]
def a25 : AC := .seq (.reg [⟨some 2, none, .bx 27 (.t 0)⟩,
 ⟨some 4, none, .mv (.k (.b false))⟩])
 (.seq (.reg [⟨some 5, none, .fad 0 (.t 2)⟩,
 ⟨some 6, none, .ld false 1 (.t 5)⟩,
 ⟨some 7, none, .bin .eql (.t 6) (.k (.i .i64 5))⟩,
 ⟨some 8, none, .mv (.t 7)⟩,
 ⟨some 9, some (8, true), .fad 1 (.t 2)⟩,
 ⟨some 10, some (8, true), .ld false 1 (.t 9)⟩,
 ⟨some 11, some (8, true), .mv (.t 1)⟩,
 ⟨some 12, some (8, true), .bin .eql (.t 10) (.t 11)⟩,
 ⟨some 13, none, .pick (.t 8) (.t 12) (.k (.b false))⟩,
 ⟨some 4, none, .mv (.t 13)⟩])
 (.ret))
theorem is_spec (t : Tk) (s : List UInt8) : AFun Try.prog J0 25 [.g [.i .i64 t.k, .s t.t, .i .i64 t.a], .s s] (.b (isS t s)) := by
  refine AFun.mk fol J0s Try.func25 rfl (ac := a25) (by kernel_rfl) rfl rfl rfl ?_
  apply vm_start
  unfold a25
  simp only [init_eq, initE]
  by_cases h1 : t.k = 5
  · have e : isS t s = decide (t.t = s) := by unfold isS; simp [h1]
    rw [e]
    repeat first | (refine hK _ ?_; clear hK K) | simp only [Sv, ↓reduceIte, Nat.reduceEqDiff] | ((first | refine vm_reg (fun K hK => ?_) | refine vm_dreg (fun K hK => ?_) | refine vm_dregx (fun K hK => ?_)); simp (disch := (first | omega | assumption)) only [S1, ↓reduceIte, Nat.reduceEqDiff, Nat.reduceAdd, Nat.reduceMul, Nat.reduceDiv, AOp.sb, AOp.mut, frzf, ↓Bool.false_eq_true, beq_self_eq_true, ite_self, Nat.reduceLeDiff, Int.reduceEq, Int.reduceSub, Int.reduceAdd, Int.reduceNeg, Int.reduceLT, Int.reduceLE, Nat.reduceLT, bz_L8, h1, seq_dec])
    simp (disch := (first | omega | assumption)) only [retOk, retN, ret1, retF, ret1F, V.okArg, and_true, true_and, S1, ↓reduceIte, Nat.reduceEqDiff, Nat.reduceAdd, Nat.reduceMul, Nat.reduceDiv, AOp.sb, AOp.mut, frzf, ↓Bool.false_eq_true, beq_self_eq_true, ite_self, Nat.reduceLeDiff, Int.reduceEq, Int.reduceSub, Int.reduceAdd, Int.reduceNeg, Int.reduceLT, Int.reduceLE, Nat.reduceLT, bz_L8, h1, seq_dec]
  · have e : isS t s = false := by unfold isS; simp [h1]
    rw [e]
    repeat first | (refine hK _ ?_; clear hK K) | simp only [Sv, ↓reduceIte, Nat.reduceEqDiff] | ((first | refine vm_reg (fun K hK => ?_) | refine vm_dreg (fun K hK => ?_) | refine vm_dregx (fun K hK => ?_)); simp (disch := (first | omega | assumption)) only [S1, ↓reduceIte, Nat.reduceEqDiff, Nat.reduceAdd, Nat.reduceMul, Nat.reduceDiv, AOp.sb, AOp.mut, frzf, ↓Bool.false_eq_true, beq_self_eq_true, ite_self, Nat.reduceLeDiff, Int.reduceEq, Int.reduceSub, Int.reduceAdd, Int.reduceNeg, Int.reduceLT, Int.reduceLE, Nat.reduceLT, bz_L8, h1])
    simp (disch := (first | omega | assumption)) only [retOk, retN, ret1, retF, ret1F, V.okArg, and_true, true_and, S1, ↓reduceIte, Nat.reduceEqDiff, Nat.reduceAdd, Nat.reduceMul, Nat.reduceDiv, AOp.sb, AOp.mut, frzf, ↓Bool.false_eq_true, beq_self_eq_true, ite_self, Nat.reduceLeDiff, Int.reduceEq, Int.reduceSub, Int.reduceAdd, Int.reduceNeg, Int.reduceLT, Int.reduceLE, Nat.reduceLT, bz_L8, h1]
def a24 : AC := .seq (.reg [⟨some 1, none, .bx 27 (.t 0)⟩,
 ⟨some 2, none, .mv (.k (.i .i64 0))⟩])
 (.seq (.blk 0
 (.seq (.reg [⟨some 4, none, .ld true 3 (.t 1)⟩,
 ⟨some 5, none, .call 25 [(1, (.t 4)), (1, (.k (.s [40])))]⟩,
 ⟨some 3, none, .mv (.t 5)⟩])
 (.cond (.t 3)
 (.seq (.reg [⟨some 2, none, .mv (.k (.i .i64 1))⟩])
 (.ret))
 (.seq (.reg [⟨some 7, none, .ld true 3 (.t 1)⟩,
 ⟨some 8, none, .call 25 [(1, (.t 7)), (1, (.k (.s [41])))]⟩,
 ⟨some 6, none, .mv (.t 8)⟩])
 (.cond (.t 6)
 (.seq (.reg [⟨some 2, none, .mv (.k (.i .i64 (-1)))⟩])
 (.ret))
 (.skip))))))
 (.seq (.reg [⟨some 2, none, .mv (.k (.i .i64 0))⟩])
 (.ret)))
theorem step_spec (t : Tk) : AFun Try.prog J0 24 [.g [.i .i64 t.k, .s t.t, .i .i64 t.a]] (.i .i64 (way t)) := by
  refine AFun.mk fol J0s Try.func24 rfl (ac := a24) (by kernel_rfl) rfl rfl rfl ?_
  apply vm_start
  unfold a24
  simp only [init_eq, initE]
  cases h1 : isS t [40]
  · cases h2 : isS t [41]
    · have e : way t = 0 := by
        unfold isS at h1 h2; rw [decide_eq_false_iff_not] at h1 h2
        unfold way
        split
        · rename_i h; rw [if_neg fun h' => h1 ⟨h, h'⟩, if_neg fun h' => h2 ⟨h, h'⟩]
        · rfl
      have zc1 := is_spec t [40]
      have zc2 := is_spec t [41]
      repeat first | (refine hK _ ?_; clear hK K) | simp only [Sv, ↓reduceIte, Nat.reduceEqDiff] | ((first | refine vm_reg (fun K hK => ?_) | refine vm_dreg (fun K hK => ?_) | refine vm_dregx (fun K hK => ?_) | refine clp_q ?_ | refine clq_mk (by assumption) ?_ | refine mcq_q ?_ | (apply mcr_mk; assumption) | (apply ocr_mk; assumption)); simp (disch := (first | omega | assumption)) only [S1, ↓reduceIte, Nat.reduceEqDiff, Nat.reduceAdd, Nat.reduceMul, Nat.reduceDiv, AOp.sb, AOp.mut, frzf, ↓Bool.false_eq_true, beq_self_eq_true, ite_self, Nat.reduceLeDiff, Int.reduceEq, Int.reduceSub, Int.reduceAdd, Int.reduceNeg, Int.reduceLT, Int.reduceLE, Nat.reduceLT, bz_L8, h1, h2, e])
      simp (disch := (first | omega | assumption)) only [retOk, retN, ret1, retF, ret1F, V.okArg, and_true, true_and, S1, ↓reduceIte, Nat.reduceEqDiff, Nat.reduceAdd, Nat.reduceMul, Nat.reduceDiv, AOp.sb, AOp.mut, frzf, ↓Bool.false_eq_true, beq_self_eq_true, ite_self, Nat.reduceLeDiff, Int.reduceEq, Int.reduceSub, Int.reduceAdd, Int.reduceNeg, Int.reduceLT, Int.reduceLE, Nat.reduceLT, bz_L8, h1, h2, e]
    · have e : way t = -1 := by
        unfold isS at h2; rw [decide_eq_true_eq] at h2
        unfold way
        rw [if_pos h2.1, if_neg (by rw [h2.2]; decide), if_pos h2.2]
      have zc3 := is_spec t [40]
      have zc4 := is_spec t [41]
      repeat first | (refine hK _ ?_; clear hK K) | simp only [Sv, ↓reduceIte, Nat.reduceEqDiff] | ((first | refine vm_reg (fun K hK => ?_) | refine vm_dreg (fun K hK => ?_) | refine vm_dregx (fun K hK => ?_) | refine clp_q ?_ | refine clq_mk (by assumption) ?_ | refine mcq_q ?_ | (apply mcr_mk; assumption) | (apply ocr_mk; assumption)); simp (disch := (first | omega | assumption)) only [S1, ↓reduceIte, Nat.reduceEqDiff, Nat.reduceAdd, Nat.reduceMul, Nat.reduceDiv, AOp.sb, AOp.mut, frzf, ↓Bool.false_eq_true, beq_self_eq_true, ite_self, Nat.reduceLeDiff, Int.reduceEq, Int.reduceSub, Int.reduceAdd, Int.reduceNeg, Int.reduceLT, Int.reduceLE, Nat.reduceLT, bz_L8, h1, h2, e])
      simp (disch := (first | omega | assumption)) only [retOk, retN, ret1, retF, ret1F, V.okArg, and_true, true_and, S1, ↓reduceIte, Nat.reduceEqDiff, Nat.reduceAdd, Nat.reduceMul, Nat.reduceDiv, AOp.sb, AOp.mut, frzf, ↓Bool.false_eq_true, beq_self_eq_true, ite_self, Nat.reduceLeDiff, Int.reduceEq, Int.reduceSub, Int.reduceAdd, Int.reduceNeg, Int.reduceLT, Int.reduceLE, Nat.reduceLT, bz_L8, h1, h2, e]
  · have e : way t = 1 := by
      unfold isS at h1; rw [decide_eq_true_eq] at h1
      unfold way
      rw [if_pos h1.1, if_pos h1.2]
    have zc5 := is_spec t [40]
    repeat first | (refine hK _ ?_; clear hK K) | simp only [Sv, ↓reduceIte, Nat.reduceEqDiff] | ((first | refine vm_reg (fun K hK => ?_) | refine vm_dreg (fun K hK => ?_) | refine vm_dregx (fun K hK => ?_) | refine clp_q ?_ | refine clq_mk (by assumption) ?_ | refine mcq_q ?_ | (apply mcr_mk; assumption) | (apply ocr_mk; assumption)); simp (disch := (first | omega | assumption)) only [S1, ↓reduceIte, Nat.reduceEqDiff, Nat.reduceAdd, Nat.reduceMul, Nat.reduceDiv, AOp.sb, AOp.mut, frzf, ↓Bool.false_eq_true, beq_self_eq_true, ite_self, Nat.reduceLeDiff, Int.reduceEq, Int.reduceSub, Int.reduceAdd, Int.reduceNeg, Int.reduceLT, Int.reduceLE, Nat.reduceLT, bz_L8, h1, e])
    simp (disch := (first | omega | assumption)) only [retOk, retN, ret1, retF, ret1F, V.okArg, and_true, true_and, S1, ↓reduceIte, Nat.reduceEqDiff, Nat.reduceAdd, Nat.reduceMul, Nat.reduceDiv, AOp.sb, AOp.mut, frzf, ↓Bool.false_eq_true, beq_self_eq_true, ite_self, Nat.reduceLeDiff, Int.reduceEq, Int.reduceSub, Int.reduceAdd, Int.reduceNeg, Int.reduceLT, Int.reduceLE, Nat.reduceLT, bz_L8, h1, e]
def a18 : AC := .seq (.reg [⟨some 2, none, .mv (.k (.i .i64 0))⟩,
 ⟨some 3, none, .mv (.k (.i .i64 0))⟩])
 (.seq (.reg [⟨some 4, none, .mv (.k (.i .i64 0))⟩,
 ⟨some 5, none, .mv (.k (.i .i64 0))⟩])
 (.seq (.seq (.reg [⟨some 6, none, .mv (.k (.i .i64 0))⟩])
 (.blk 0
 (.loop
 (.seq (.seq (.reg [⟨some 7, none, .mv (.t 6)⟩,
 ⟨some 8, none, .mv (.t 0)⟩,
 ⟨some 9, none, .len (.t 8)⟩,
 ⟨some 10, none, .bin .lss (.t 7) (.t 9)⟩])
 (.cond (.t 10)
 (.skip)
 (.exit 0)))
 (.seq (.blk 1
 (.seq (.reg [⟨some 13, none, .mv (.t 4)⟩,
 ⟨some 14, none, .mv (.t 0)⟩,
 ⟨some 15, none, .mv (.t 6)⟩,
 ⟨some 16, none, .idx 3 (.t 14) (.t 15)⟩,
 ⟨some 17, none, .ld true 3 (.t 16)⟩,
 ⟨some 18, none, .call 19 [(1, (.t 17))]⟩,
 ⟨some 19, none, .bin .add (.t 13) (.t 18)⟩,
 ⟨some 4, none, .mv (.t 19)⟩])
 (.seq (.seq (.reg [⟨some 20, none, .mv (.t 4)⟩,
 ⟨some 21, none, .bin .lss (.t 20) (.k (.i .i64 0))⟩])
 (.cond (.t 21)
 (.seq (.reg [⟨some 2, none, .mv (.k (.i .i64 0))⟩,
 ⟨some 3, none, .mv (.k (.i .i64 5))⟩])
 (.ret))
 (.skip)))
 (.seq (.reg [⟨some 22, none, .mv (.t 4)⟩,
 ⟨some 23, none, .mv (.t 5)⟩,
 ⟨some 24, none, .bin .gtr (.t 22) (.t 23)⟩])
 (.cond (.t 24)
 (.reg [⟨some 25, none, .mv (.t 4)⟩,
 ⟨some 5, none, .mv (.t 25)⟩])
 (.skip))))))
 (.reg [⟨some 11, none, .mv (.t 6)⟩,
 ⟨some 12, none, .bin .add (.t 11) (.k (.i .i64 1))⟩,
 ⟨some 6, none, .mv (.t 12)⟩]))))))
 (.seq (.seq (.reg [⟨some 26, none, .mv (.t 4)⟩,
 ⟨some 27, none, .bin .neq (.t 26) (.k (.i .i64 0))⟩])
 (.cond (.t 27)
 (.seq (.reg [⟨some 2, none, .mv (.k (.i .i64 0))⟩,
 ⟨some 3, none, .mv (.k (.i .i64 5))⟩])
 (.ret))
 (.skip)))
 (.seq (.reg [⟨some 28, none, .mv (.t 5)⟩,
 ⟨some 2, none, .mv (.t 28)⟩,
 ⟨some 3, none, .mv (.k (.i .i64 0))⟩])
 (.ret)))))
theorem rnest_spec (ts : List Tk) (hl : ts.length ≤ 1000000000) : AFun Try.prog J0 18 [.l 3 (T ts)] (.t [.i .i64 (nestG ts 0 0).1, .i .i64 (nestG ts 0 0).2]) := by
  refine AFun.mk fol J0s Try.func18 rfl (ac := a18) (by kernel_rfl) rfl rfl rfl ?_
  apply vm_start
  unfold a18
  simp only [init_eq, initE]
  repeat first
    | (refine hK _ ?_; clear hK K)
    | ((first | refine vm_reg (fun K hK => ?_) | refine vm_dreg (fun K hK => ?_) | refine vm_dregx (fun K hK => ?_)); simp (disch := (first | omega | assumption)) only [S1, ↓reduceIte, Nat.reduceEqDiff, Nat.reduceAdd, Nat.reduceMul, Nat.reduceDiv, AOp.sb, AOp.mut, frzf, ↓Bool.false_eq_true, beq_self_eq_true, ite_self, Nat.reduceLeDiff, Int.reduceEq, Int.reduceSub, Int.reduceAdd, Int.reduceNeg, Int.reduceLT, Int.reduceLE, Nat.reduceLT, bz_L8]; refine hK _ ?_; clear hK K)
    | simp only [Sv, ↓reduceIte, Nat.reduceEqDiff]
  refine vm_loopA [] (Nat × Int × Int) (fun x => ⟨[(0, .l 3 (T ts)), (4, .i .i64 x.2.1), (5, .i .i64 x.2.2), (6, .i .i64 (x.1 : Int))], [], 0⟩)
    (fun x => x.1 ≤ ts.length ∧ 0 ≤ x.2.1 ∧ x.2.1 ≤ x.1 ∧ nestG ts 0 0 = nestG (ts.drop x.1) x.2.1 x.2.2) (fun x => ts.length - x.1) (0, 0, 0) ⟨Nat.zero_le _, Int.le_refl _, Int.le_refl _, rfl⟩ (by simp (disch := (first | omega | assumption)) only [Sl, Sa, Sw, ↓reduceIte, Nat.reduceEqDiff, Nat.reduceLT, List.all_nil, List.all_cons, Nat.reduceBneDiff, Nat.reduceAdd, bne_iff_ne, ne_eq, reduceCtorEq, not_false_eq_true, not_true_eq_false, Bool.and_true, Bool.true_and, and_true, true_and, and_self]) (by
    simp (disch := (first | omega | assumption)) only [Sl, Sa, Sw, ↓reduceIte, Nat.reduceEqDiff, Nat.reduceLT, List.all_nil, List.all_cons, Nat.reduceBneDiff, Nat.reduceAdd, bne_iff_ne, ne_eq, reduceCtorEq, not_false_eq_true, not_true_eq_false, Bool.and_true, Bool.true_and, and_true, true_and, and_self, i_eq]
    repeat' first | rfl | omega | (simp only [List.length_append, List.length_cons, List.length_nil]; done) | apply And.intro) ?_
  rintro ⟨i, d, m⟩ ⟨hi, hd0, hd1, hn⟩ Q' hQ he hr
  simp only [] at hi hd0 hd1 hn ⊢
  by_cases hlt : (i : Int) < ts.length
  · have hlt' : i < ts.length := by omega
    have hw := way_le (ts.getD i default)
    by_cases hlt0 : d + way (ts.getD i default) < 0
    · have e : nestG ts 0 0 = (0, 5) := by rw [hn, tk_drop hlt', nestG, if_pos hlt0]
      have zc6 := rway_spec (ts.getD i default)
      repeat first | (refine hK _ ?_; clear hK K) | simp only [Sv, ↓reduceIte, Nat.reduceEqDiff] | ((first | refine vm_reg (fun K hK => ?_) | refine vm_dreg (fun K hK => ?_) | refine vm_dregx (fun K hK => ?_) | refine clp_q ?_ | refine clq_mk (by assumption) ?_ | refine mcq_q ?_ | (apply mcr_mk; assumption) | (apply ocr_mk; assumption)); simp (disch := (first | omega | assumption)) only [S1, ↓reduceIte, Nat.reduceEqDiff, Nat.reduceAdd, Nat.reduceMul, Nat.reduceDiv, AOp.sb, AOp.mut, frzf, ↓Bool.false_eq_true, beq_self_eq_true, ite_self, Nat.reduceLeDiff, Int.reduceEq, Int.reduceSub, Int.reduceAdd, Int.reduceNeg, Int.reduceLT, Int.reduceLE, Nat.reduceLT, bz_L8, hlt, hlt0])
      refine hr _ ?_
      simp (disch := (first | omega | assumption)) only [retOk, retN, ret1, retF, ret1F, V.okArg, and_true, true_and, S1, ↓reduceIte, Nat.reduceEqDiff, Nat.reduceAdd, Nat.reduceMul, Nat.reduceDiv, AOp.sb, AOp.mut, frzf, ↓Bool.false_eq_true, beq_self_eq_true, ite_self, Nat.reduceLeDiff, Int.reduceEq, Int.reduceSub, Int.reduceAdd, Int.reduceNeg, Int.reduceLT, Int.reduceLE, Nat.reduceLT, bz_L8, e]
    · have e : nestG ts 0 0 = nestG (ts.drop (i + 1)) (d + way (ts.getD i default)) (max m (d + way (ts.getD i default))) := by rw [hn, tk_drop hlt', nestG, if_neg hlt0]
      by_cases hmx : m < d + way (ts.getD i default)
      · rw [Int.max_eq_right (by omega)] at e
        have zc7 := rway_spec (ts.getD i default)
        repeat first | (refine hK _ ?_; clear hK K) | simp only [Sv, ↓reduceIte, Nat.reduceEqDiff] | ((first | refine vm_reg (fun K hK => ?_) | refine vm_dreg (fun K hK => ?_) | refine vm_dregx (fun K hK => ?_) | refine clp_q ?_ | refine clq_mk (by assumption) ?_ | refine mcq_q ?_ | (apply mcr_mk; assumption) | (apply ocr_mk; assumption)); simp (disch := (first | omega | assumption)) only [S1, ↓reduceIte, Nat.reduceEqDiff, Nat.reduceAdd, Nat.reduceMul, Nat.reduceDiv, AOp.sb, AOp.mut, frzf, ↓Bool.false_eq_true, beq_self_eq_true, ite_self, Nat.reduceLeDiff, Int.reduceEq, Int.reduceSub, Int.reduceAdd, Int.reduceNeg, Int.reduceLT, Int.reduceLE, Nat.reduceLT, bz_L8, hlt, hlt0, hmx])
        refine hQ _ (i + 1, d + way (ts.getD i default), d + way (ts.getD i default)) ⟨by simp only; omega, by simp only; omega, by simp only; omega, e⟩ (by simp only; omega) ?_
        simp (disch := (first | omega | assumption)) only [Sl, Sa, Sw, ↓reduceIte, Nat.reduceEqDiff, Nat.reduceLT, List.all_nil, List.all_cons, Nat.reduceBneDiff, Nat.reduceAdd, bne_iff_ne, ne_eq, reduceCtorEq, not_false_eq_true, not_true_eq_false, Bool.and_true, Bool.true_and, and_true, true_and, and_self, i_eq]
        repeat' first | rfl | omega | (simp only [List.length_append, List.length_cons, List.length_nil]; done) | apply And.intro
      · rw [Int.max_eq_left (by omega)] at e
        have zc8 := rway_spec (ts.getD i default)
        repeat first | (refine hK _ ?_; clear hK K) | simp only [Sv, ↓reduceIte, Nat.reduceEqDiff] | ((first | refine vm_reg (fun K hK => ?_) | refine vm_dreg (fun K hK => ?_) | refine vm_dregx (fun K hK => ?_) | refine clp_q ?_ | refine clq_mk (by assumption) ?_ | refine mcq_q ?_ | (apply mcr_mk; assumption) | (apply ocr_mk; assumption)); simp (disch := (first | omega | assumption)) only [S1, ↓reduceIte, Nat.reduceEqDiff, Nat.reduceAdd, Nat.reduceMul, Nat.reduceDiv, AOp.sb, AOp.mut, frzf, ↓Bool.false_eq_true, beq_self_eq_true, ite_self, Nat.reduceLeDiff, Int.reduceEq, Int.reduceSub, Int.reduceAdd, Int.reduceNeg, Int.reduceLT, Int.reduceLE, Nat.reduceLT, bz_L8, hlt, hlt0, hmx])
        refine hQ _ (i + 1, d + way (ts.getD i default), m) ⟨by simp only; omega, by simp only; omega, by simp only; omega, e⟩ (by simp only; omega) ?_
        simp (disch := (first | omega | assumption)) only [Sl, Sa, Sw, ↓reduceIte, Nat.reduceEqDiff, Nat.reduceLT, List.all_nil, List.all_cons, Nat.reduceBneDiff, Nat.reduceAdd, bne_iff_ne, ne_eq, reduceCtorEq, not_false_eq_true, not_true_eq_false, Bool.and_true, Bool.true_and, and_true, true_and, and_self, i_eq]
        repeat' first | rfl | omega | (simp only [List.length_append, List.length_cons, List.length_nil]; done) | apply And.intro
  · obtain rfl : i = ts.length := by omega
    rw [List.drop_length, nestG] at hn
    repeat first
      | (refine hK _ ?_; clear hK K)
      | ((first | refine vm_reg (fun K hK => ?_) | refine vm_dreg (fun K hK => ?_) | refine vm_dregx (fun K hK => ?_)); simp (disch := (first | omega | assumption)) only [S1, ↓reduceIte, Nat.reduceEqDiff, Nat.reduceAdd, Nat.reduceMul, Nat.reduceDiv, AOp.sb, AOp.mut, frzf, ↓Bool.false_eq_true, beq_self_eq_true, ite_self, Nat.reduceLeDiff, Int.reduceEq, Int.reduceSub, Int.reduceAdd, Int.reduceNeg, Int.reduceLT, Int.reduceLE, Nat.reduceLT, bz_L8, hlt]; refine hK _ ?_; clear hK K)
      | simp only [Sv, ↓reduceIte, Nat.reduceEqDiff]
    refine he _ _ ?_
    by_cases h0 : d = 0
    · rw [if_pos h0] at hn
      repeat first
        | (refine hK _ ?_; clear hK K)
        | ((first | refine vm_reg (fun K hK => ?_) | refine vm_dreg (fun K hK => ?_) | refine vm_dregx (fun K hK => ?_)); simp (disch := (first | omega | assumption)) only [S1, ↓reduceIte, Nat.reduceEqDiff, Nat.reduceAdd, Nat.reduceMul, Nat.reduceDiv, AOp.sb, AOp.mut, frzf, ↓Bool.false_eq_true, beq_self_eq_true, ite_self, Nat.reduceLeDiff, Int.reduceEq, Int.reduceSub, Int.reduceAdd, Int.reduceNeg, Int.reduceLT, Int.reduceLE, Nat.reduceLT, bz_L8, h0]; refine hK _ ?_; clear hK K)
        | simp only [Sv, ↓reduceIte, Nat.reduceEqDiff]
      simp (disch := (first | omega | assumption)) only [retOk, retN, ret1, retF, ret1F, V.okArg, and_true, true_and, S1, ↓reduceIte, Nat.reduceEqDiff, Nat.reduceAdd, Nat.reduceMul, Nat.reduceDiv, AOp.sb, AOp.mut, frzf, ↓Bool.false_eq_true, beq_self_eq_true, ite_self, Nat.reduceLeDiff, Int.reduceEq, Int.reduceSub, Int.reduceAdd, Int.reduceNeg, Int.reduceLT, Int.reduceLE, Nat.reduceLT, bz_L8, hn]
    · rw [if_neg h0] at hn
      repeat first
        | (refine hK _ ?_; clear hK K)
        | ((first | refine vm_reg (fun K hK => ?_) | refine vm_dreg (fun K hK => ?_) | refine vm_dregx (fun K hK => ?_)); simp (disch := (first | omega | assumption)) only [S1, ↓reduceIte, Nat.reduceEqDiff, Nat.reduceAdd, Nat.reduceMul, Nat.reduceDiv, AOp.sb, AOp.mut, frzf, ↓Bool.false_eq_true, beq_self_eq_true, ite_self, Nat.reduceLeDiff, Int.reduceEq, Int.reduceSub, Int.reduceAdd, Int.reduceNeg, Int.reduceLT, Int.reduceLE, Nat.reduceLT, bz_L8, h0]; refine hK _ ?_; clear hK K)
        | simp only [Sv, ↓reduceIte, Nat.reduceEqDiff]
      simp (disch := (first | omega | assumption)) only [retOk, retN, ret1, retF, ret1F, V.okArg, and_true, true_and, S1, ↓reduceIte, Nat.reduceEqDiff, Nat.reduceAdd, Nat.reduceMul, Nat.reduceDiv, AOp.sb, AOp.mut, frzf, ↓Bool.false_eq_true, beq_self_eq_true, ite_self, Nat.reduceLeDiff, Int.reduceEq, Int.reduceSub, Int.reduceAdd, Int.reduceNeg, Int.reduceLT, Int.reduceLE, Nat.reduceLT, bz_L8, hn]
def a11 : AC := .seq (.reg [⟨some 2, none, .mv (.k (.i .i64 0))⟩,
 ⟨some 3, none, .mv (.k (.i .i64 0))⟩])
 (.seq (.reg [⟨some 4, none, .mv (.k (.i .i64 0))⟩,
 ⟨some 5, none, .mv (.k (.i .i64 0))⟩])
 (.seq (.seq (.reg [⟨some 8, none, .mv (.t 0)⟩,
 ⟨some 9, none, .len (.t 8)⟩,
 ⟨some 10, none, .mv (.k (.i .i64 0))⟩])
 (.blk 0
 (.loop
 (.seq (.reg [⟨some 11, none, .bin .lss (.t 10) (.t 9)⟩])
 (.seq (.cond (.t 11)
 (.skip)
 (.exit 0))
 (.seq (.blk 1
 (.seq (.reg [⟨some 12, none, .idx 3 (.t 8) (.t 10)⟩,
 ⟨some 13, none, .ld true 3 (.t 12)⟩,
 ⟨some 7, none, .al 27 [(.i .i64 0), (.s []), (.i .i64 0)]⟩,
 ⟨none, none, .st 3 (.t 7) (.t 13)⟩])
 (.seq (.reg [⟨some 14, none, .mv (.t 4)⟩,
 ⟨some 15, none, .ld true 3 (.t 7)⟩,
 ⟨some 16, none, .call 24 [(1, (.t 15))]⟩,
 ⟨some 17, none, .bin .add (.t 14) (.t 16)⟩,
 ⟨some 4, none, .mv (.t 17)⟩])
 (.seq (.seq (.reg [⟨some 18, none, .mv (.t 4)⟩,
 ⟨some 19, none, .bin .lss (.t 18) (.k (.i .i64 0))⟩])
 (.cond (.t 19)
 (.seq (.reg [⟨some 2, none, .mv (.k (.i .i64 0))⟩,
 ⟨some 3, none, .mv (.k (.i .i64 5))⟩])
 (.ret))
 (.skip)))
 (.reg [⟨some 20, none, .mv (.t 5)⟩,
 ⟨some 21, none, .mv (.t 4)⟩,
 ⟨some 22, none, .mm true (.t 20) (.t 21)⟩,
 ⟨some 5, none, .mv (.t 22)⟩])))))
 (.reg [⟨some 23, none, .bin .add (.t 10) (.k (.i .i64 1))⟩,
 ⟨some 10, none, .mv (.t 23)⟩])))))))
 (.seq (.seq (.reg [⟨some 24, none, .mv (.t 4)⟩,
 ⟨some 25, none, .bin .neq (.t 24) (.k (.i .i64 0))⟩])
 (.cond (.t 25)
 (.seq (.reg [⟨some 2, none, .mv (.k (.i .i64 0))⟩,
 ⟨some 3, none, .mv (.k (.i .i64 5))⟩])
 (.ret))
 (.skip)))
 (.seq (.reg [⟨some 26, none, .mv (.t 5)⟩,
 ⟨some 2, none, .mv (.t 26)⟩,
 ⟨some 3, none, .mv (.k (.i .i64 0))⟩])
 (.ret)))))
theorem nest_spec (ts : List Tk) (hl : ts.length ≤ 1000000000) : AFun Try.prog J0 11 [.l 3 (T ts)] (.t [.i .i64 (nestG ts 0 0).1, .i .i64 (nestG ts 0 0).2]) := by
  refine AFun.mk fol J0s Try.func11 rfl (ac := a11) (by kernel_rfl) rfl rfl rfl ?_
  apply vm_start
  unfold a11
  simp only [init_eq, initE]
  repeat first
    | (refine hK _ ?_; clear hK K)
    | ((first | refine vm_reg (fun K hK => ?_) | refine vm_dreg (fun K hK => ?_) | refine vm_dregx (fun K hK => ?_)); simp (disch := (first | omega | assumption)) only [S1, ↓reduceIte, Nat.reduceEqDiff, Nat.reduceAdd, Nat.reduceMul, Nat.reduceDiv, AOp.sb, AOp.mut, frzf, ↓Bool.false_eq_true, beq_self_eq_true, ite_self, Nat.reduceLeDiff, Int.reduceEq, Int.reduceSub, Int.reduceAdd, Int.reduceNeg, Int.reduceLT, Int.reduceLE, Nat.reduceLT, bz_L8]; refine hK _ ?_; clear hK K)
    | simp only [Sv, ↓reduceIte, Nat.reduceEqDiff]
  refine vm_loopA [] (Nat × Int × Int) (fun x => ⟨[(4, .i .i64 x.2.1), (5, .i .i64 x.2.2), (8, .l 3 (T ts)), (9, .i .i64 (ts.length : Int)), (10, .i .i64 (x.1 : Int))], [], 0⟩)
    (fun x => x.1 ≤ ts.length ∧ 0 ≤ x.2.1 ∧ x.2.1 ≤ x.1 ∧ nestG ts 0 0 = nestG (ts.drop x.1) x.2.1 x.2.2) (fun x => ts.length - x.1) (0, 0, 0) ⟨Nat.zero_le _, Int.le_refl _, Int.le_refl _, rfl⟩ (by simp (disch := (first | omega | assumption)) only [Sl, Sa, Sw, ↓reduceIte, Nat.reduceEqDiff, Nat.reduceLT, List.all_nil, List.all_cons, Nat.reduceBneDiff, Nat.reduceAdd, bne_iff_ne, ne_eq, reduceCtorEq, not_false_eq_true, not_true_eq_false, Bool.and_true, Bool.true_and, and_true, true_and, and_self]) (by
    simp (disch := (first | omega | assumption)) only [Sl, Sa, Sw, ↓reduceIte, Nat.reduceEqDiff, Nat.reduceLT, List.all_nil, List.all_cons, Nat.reduceBneDiff, Nat.reduceAdd, bne_iff_ne, ne_eq, reduceCtorEq, not_false_eq_true, not_true_eq_false, Bool.and_true, Bool.true_and, and_true, true_and, and_self, i_eq]
    repeat' first | rfl | omega | (simp only [List.length_append, List.length_cons, List.length_nil]; done) | apply And.intro) ?_
  rintro ⟨i, d, m⟩ ⟨hi, hd0, hd1, hn⟩ Q' hQ he hr
  simp only [] at hi hd0 hd1 hn ⊢
  by_cases hlt : (i : Int) < ts.length
  · have hlt' : i < ts.length := by omega
    have hw := way_le (ts.getD i default)
    by_cases hlt0 : d + way (ts.getD i default) < 0
    · have e : nestG ts 0 0 = (0, 5) := by rw [hn, tk_drop hlt', nestG, if_pos hlt0]
      have zc9 := step_spec (ts.getD i default)
      repeat first | (refine hK _ ?_; clear hK K) | simp only [Sv, ↓reduceIte, Nat.reduceEqDiff] | ((first | refine vm_reg (fun K hK => ?_) | refine vm_dreg (fun K hK => ?_) | refine vm_dregx (fun K hK => ?_) | refine clp_q ?_ | refine clq_mk (by assumption) ?_ | refine mcq_q ?_ | (apply mcr_mk; assumption) | (apply ocr_mk; assumption)); simp (disch := (first | omega | assumption)) only [S1, ↓reduceIte, Nat.reduceEqDiff, Nat.reduceAdd, Nat.reduceMul, Nat.reduceDiv, AOp.sb, AOp.mut, frzf, ↓Bool.false_eq_true, beq_self_eq_true, ite_self, Nat.reduceLeDiff, Int.reduceEq, Int.reduceSub, Int.reduceAdd, Int.reduceNeg, Int.reduceLT, Int.reduceLE, Nat.reduceLT, bz_L8, hlt, hlt0])
      refine hr _ ?_
      simp (disch := (first | omega | assumption)) only [retOk, retN, ret1, retF, ret1F, V.okArg, and_true, true_and, S1, ↓reduceIte, Nat.reduceEqDiff, Nat.reduceAdd, Nat.reduceMul, Nat.reduceDiv, AOp.sb, AOp.mut, frzf, ↓Bool.false_eq_true, beq_self_eq_true, ite_self, Nat.reduceLeDiff, Int.reduceEq, Int.reduceSub, Int.reduceAdd, Int.reduceNeg, Int.reduceLT, Int.reduceLE, Nat.reduceLT, bz_L8, e]
    · have e : nestG ts 0 0 = nestG (ts.drop (i + 1)) (d + way (ts.getD i default)) (max m (d + way (ts.getD i default))) := by rw [hn, tk_drop hlt', nestG, if_neg hlt0]
      have zc10 := step_spec (ts.getD i default)
      repeat first | (refine hK _ ?_; clear hK K) | simp only [Sv, ↓reduceIte, Nat.reduceEqDiff] | ((first | refine vm_reg (fun K hK => ?_) | refine vm_dreg (fun K hK => ?_) | refine vm_dregx (fun K hK => ?_) | refine clp_q ?_ | refine clq_mk (by assumption) ?_ | refine mcq_q ?_ | (apply mcr_mk; assumption) | (apply ocr_mk; assumption)); simp (disch := (first | omega | assumption)) only [S1, ↓reduceIte, Nat.reduceEqDiff, Nat.reduceAdd, Nat.reduceMul, Nat.reduceDiv, AOp.sb, AOp.mut, frzf, ↓Bool.false_eq_true, beq_self_eq_true, ite_self, Nat.reduceLeDiff, Int.reduceEq, Int.reduceSub, Int.reduceAdd, Int.reduceNeg, Int.reduceLT, Int.reduceLE, Nat.reduceLT, bz_L8, hlt, hlt0])
      refine hQ _ (i + 1, d + way (ts.getD i default), max m (d + way (ts.getD i default))) ⟨by simp only; omega, by simp only; omega, by simp only; omega, e⟩ (by simp only; omega) ?_
      simp (disch := (first | omega | assumption)) only [Sl, Sa, Sw, ↓reduceIte, Nat.reduceEqDiff, Nat.reduceLT, List.all_nil, List.all_cons, Nat.reduceBneDiff, Nat.reduceAdd, bne_iff_ne, ne_eq, reduceCtorEq, not_false_eq_true, not_true_eq_false, Bool.and_true, Bool.true_and, and_true, true_and, and_self, i_eq]
      repeat' first | rfl | omega | (simp only [List.length_append, List.length_cons, List.length_nil]; done) | apply And.intro
  · obtain rfl : i = ts.length := by omega
    rw [List.drop_length, nestG] at hn
    repeat first
      | (refine hK _ ?_; clear hK K)
      | ((first | refine vm_reg (fun K hK => ?_) | refine vm_dreg (fun K hK => ?_) | refine vm_dregx (fun K hK => ?_)); simp (disch := (first | omega | assumption)) only [S1, ↓reduceIte, Nat.reduceEqDiff, Nat.reduceAdd, Nat.reduceMul, Nat.reduceDiv, AOp.sb, AOp.mut, frzf, ↓Bool.false_eq_true, beq_self_eq_true, ite_self, Nat.reduceLeDiff, Int.reduceEq, Int.reduceSub, Int.reduceAdd, Int.reduceNeg, Int.reduceLT, Int.reduceLE, Nat.reduceLT, bz_L8, hlt]; refine hK _ ?_; clear hK K)
      | simp only [Sv, ↓reduceIte, Nat.reduceEqDiff]
    refine he _ _ ?_
    by_cases h0 : d = 0
    · rw [if_pos h0] at hn
      repeat first
        | (refine hK _ ?_; clear hK K)
        | ((first | refine vm_reg (fun K hK => ?_) | refine vm_dreg (fun K hK => ?_) | refine vm_dregx (fun K hK => ?_)); simp (disch := (first | omega | assumption)) only [S1, ↓reduceIte, Nat.reduceEqDiff, Nat.reduceAdd, Nat.reduceMul, Nat.reduceDiv, AOp.sb, AOp.mut, frzf, ↓Bool.false_eq_true, beq_self_eq_true, ite_self, Nat.reduceLeDiff, Int.reduceEq, Int.reduceSub, Int.reduceAdd, Int.reduceNeg, Int.reduceLT, Int.reduceLE, Nat.reduceLT, bz_L8, h0]; refine hK _ ?_; clear hK K)
        | simp only [Sv, ↓reduceIte, Nat.reduceEqDiff]
      simp (disch := (first | omega | assumption)) only [retOk, retN, ret1, retF, ret1F, V.okArg, and_true, true_and, S1, ↓reduceIte, Nat.reduceEqDiff, Nat.reduceAdd, Nat.reduceMul, Nat.reduceDiv, AOp.sb, AOp.mut, frzf, ↓Bool.false_eq_true, beq_self_eq_true, ite_self, Nat.reduceLeDiff, Int.reduceEq, Int.reduceSub, Int.reduceAdd, Int.reduceNeg, Int.reduceLT, Int.reduceLE, Nat.reduceLT, bz_L8, hn]
    · rw [if_neg h0] at hn
      repeat first
        | (refine hK _ ?_; clear hK K)
        | ((first | refine vm_reg (fun K hK => ?_) | refine vm_dreg (fun K hK => ?_) | refine vm_dregx (fun K hK => ?_)); simp (disch := (first | omega | assumption)) only [S1, ↓reduceIte, Nat.reduceEqDiff, Nat.reduceAdd, Nat.reduceMul, Nat.reduceDiv, AOp.sb, AOp.mut, frzf, ↓Bool.false_eq_true, beq_self_eq_true, ite_self, Nat.reduceLeDiff, Int.reduceEq, Int.reduceSub, Int.reduceAdd, Int.reduceNeg, Int.reduceLT, Int.reduceLE, Nat.reduceLT, bz_L8, h0]; refine hK _ ?_; clear hK K)
        | simp only [Sv, ↓reduceIte, Nat.reduceEqDiff]
      simp (disch := (first | omega | assumption)) only [retOk, retN, ret1, retF, ret1F, V.okArg, and_true, true_and, S1, ↓reduceIte, Nat.reduceEqDiff, Nat.reduceAdd, Nat.reduceMul, Nat.reduceDiv, AOp.sb, AOp.mut, frzf, ↓Bool.false_eq_true, beq_self_eq_true, ite_self, Nat.reduceLeDiff, Int.reduceEq, Int.reduceSub, Int.reduceAdd, Int.reduceNeg, Int.reduceLT, Int.reduceLE, Nat.reduceLT, bz_L8, hn]
def matchR (ts : List Tk) (i : Int) : Int × Int := if 0 ≤ i ∧ i < ts.length ∧ isS (ts.getD i.toNat default) [40] = true then matchG (ts.drop i.toNat) i.toNat 0 else (0, 3)
def a12 : AC := .seq (.reg [⟨some 4, none, .mv (.k (.i .i64 0))⟩,
 ⟨some 5, none, .mv (.k (.i .i64 0))⟩])
 (.seq (.seq (.reg [⟨some 8, none, .mv (.t 1)⟩,
 ⟨some 9, none, .bin .lss (.t 8) (.k (.i .i64 0))⟩,
 ⟨some 10, none, .mv (.t 9)⟩,
 ⟨some 11, some (10, false), .mv (.t 1)⟩,
 ⟨some 12, some (10, false), .mv (.t 0)⟩,
 ⟨some 13, some (10, false), .len (.t 12)⟩,
 ⟨some 14, some (10, false), .bin .geq (.t 11) (.t 13)⟩,
 ⟨some 15, none, .pick (.t 10) (.k (.b true)) (.t 14)⟩,
 ⟨some 16, none, .mv (.t 15)⟩,
 ⟨some 17, some (16, false), .mv (.t 0)⟩,
 ⟨some 18, some (16, false), .mv (.t 1)⟩,
 ⟨some 19, some (16, false), .idx 3 (.t 17) (.t 18)⟩,
 ⟨some 20, some (16, false), .ld true 3 (.t 19)⟩,
 ⟨some 21, some (16, false), .call 25 [(1, (.t 20)), (1, (.k (.s [40])))]⟩,
 ⟨some 22, some (16, false), .un .not (.t 21)⟩,
 ⟨some 23, none, .pick (.t 16) (.k (.b true)) (.t 22)⟩])
 (.cond (.t 23)
 (.seq (.reg [⟨some 4, none, .mv (.k (.i .i64 0))⟩,
 ⟨some 5, none, .mv (.k (.i .i64 3))⟩])
 (.ret))
 (.skip)))
 (.seq (.reg [⟨some 6, none, .mv (.k (.i .i64 0))⟩])
 (.seq (.seq (.reg [⟨some 24, none, .mv (.t 1)⟩,
 ⟨some 7, none, .mv (.t 24)⟩])
 (.blk 0
 (.loop
 (.seq (.seq (.reg [⟨some 25, none, .mv (.t 7)⟩,
 ⟨some 26, none, .mv (.t 0)⟩,
 ⟨some 27, none, .len (.t 26)⟩,
 ⟨some 28, none, .bin .lss (.t 25) (.t 27)⟩])
 (.cond (.t 28)
 (.skip)
 (.exit 0)))
 (.seq (.blk 1
 (.seq (.reg [⟨some 31, none, .mv (.t 6)⟩,
 ⟨some 32, none, .mv (.t 0)⟩,
 ⟨some 33, none, .mv (.t 7)⟩,
 ⟨some 34, none, .idx 3 (.t 32) (.t 33)⟩,
 ⟨some 35, none, .ld true 3 (.t 34)⟩,
 ⟨some 36, none, .call 24 [(1, (.t 35))]⟩,
 ⟨some 37, none, .bin .add (.t 31) (.t 36)⟩,
 ⟨some 6, none, .mv (.t 37)⟩])
 (.seq (.reg [⟨some 38, none, .mv (.t 6)⟩,
 ⟨some 39, none, .bin .eql (.t 38) (.k (.i .i64 0))⟩])
 (.cond (.t 39)
 (.seq (.reg [⟨some 40, none, .mv (.t 7)⟩,
 ⟨some 4, none, .mv (.t 40)⟩,
 ⟨some 5, none, .mv (.k (.i .i64 0))⟩])
 (.ret))
 (.skip)))))
 (.reg [⟨some 29, none, .mv (.t 7)⟩,
 ⟨some 30, none, .bin .add (.t 29) (.k (.i .i64 1))⟩,
 ⟨some 7, none, .mv (.t 30)⟩]))))))
 (.seq (.reg [⟨some 4, none, .mv (.k (.i .i64 0))⟩,
 ⟨some 5, none, .mv (.k (.i .i64 5))⟩])
 (.ret)))))
theorem match_spec (ts : List Tk) (n : Int) (hl : ts.length ≤ 1000000000) : AFun Try.prog J0 12 [.l 3 (T ts), .i .i64 n] (.t [.i .i64 (matchR ts n).1, .i .i64 (matchR ts n).2]) := by
  refine AFun.mk fol J0s Try.func12 rfl (ac := a12) (by kernel_rfl) rfl rfl rfl ?_
  apply vm_start
  unfold a12
  simp only [init_eq, initE]
  by_cases h1 : n < 0
  · rw [show matchR ts n = (0, 3) from if_neg (by omega)]
    repeat first | (refine hK _ ?_; clear hK K) | simp only [Sv, ↓reduceIte, Nat.reduceEqDiff] | ((first | refine vm_reg (fun K hK => ?_) | refine vm_dreg (fun K hK => ?_) | refine vm_dregx (fun K hK => ?_)); simp (disch := (first | omega | assumption)) only [S1, ↓reduceIte, Nat.reduceEqDiff, Nat.reduceAdd, Nat.reduceMul, Nat.reduceDiv, AOp.sb, AOp.mut, frzf, ↓Bool.false_eq_true, beq_self_eq_true, ite_self, Nat.reduceLeDiff, Int.reduceEq, Int.reduceSub, Int.reduceAdd, Int.reduceNeg, Int.reduceLT, Int.reduceLE, Nat.reduceLT, bz_L8, h1])
    simp (disch := (first | omega | assumption)) only [retOk, retN, ret1, retF, ret1F, V.okArg, and_true, true_and, S1, ↓reduceIte, Nat.reduceEqDiff, Nat.reduceAdd, Nat.reduceMul, Nat.reduceDiv, AOp.sb, AOp.mut, frzf, ↓Bool.false_eq_true, beq_self_eq_true, ite_self, Nat.reduceLeDiff, Int.reduceEq, Int.reduceSub, Int.reduceAdd, Int.reduceNeg, Int.reduceLT, Int.reduceLE, Nat.reduceLT, bz_L8, h1]
  · by_cases h2 : (ts.length : Int) ≤ n
    · rw [show matchR ts n = (0, 3) from if_neg (by omega)]
      repeat first | (refine hK _ ?_; clear hK K) | simp only [Sv, ↓reduceIte, Nat.reduceEqDiff] | ((first | refine vm_reg (fun K hK => ?_) | refine vm_dreg (fun K hK => ?_) | refine vm_dregx (fun K hK => ?_)); simp (disch := (first | omega | assumption)) only [S1, ↓reduceIte, Nat.reduceEqDiff, Nat.reduceAdd, Nat.reduceMul, Nat.reduceDiv, AOp.sb, AOp.mut, frzf, ↓Bool.false_eq_true, beq_self_eq_true, ite_self, Nat.reduceLeDiff, Int.reduceEq, Int.reduceSub, Int.reduceAdd, Int.reduceNeg, Int.reduceLT, Int.reduceLE, Nat.reduceLT, bz_L8, h1, h2])
      simp (disch := (first | omega | assumption)) only [retOk, retN, ret1, retF, ret1F, V.okArg, and_true, true_and, S1, ↓reduceIte, Nat.reduceEqDiff, Nat.reduceAdd, Nat.reduceMul, Nat.reduceDiv, AOp.sb, AOp.mut, frzf, ↓Bool.false_eq_true, beq_self_eq_true, ite_self, Nat.reduceLeDiff, Int.reduceEq, Int.reduceSub, Int.reduceAdd, Int.reduceNeg, Int.reduceLT, Int.reduceLE, Nat.reduceLT, bz_L8, h1, h2]
    · obtain ⟨k, rfl⟩ : ∃ k : Nat, n = (k : Int) := ⟨n.toNat, by omega⟩
      have hk : k < ts.length := by omega
      cases h3 : isS (ts.getD k default) [40]
      · rw [show matchR ts k = (0, 3) from if_neg fun h => by rw [show ((k : Nat) : Int).toNat = k from rfl, h3] at h; cases h.2.2]
        have zc11 := is_spec (ts.getD k default) [40]
        repeat first | (refine hK _ ?_; clear hK K) | simp only [Sv, ↓reduceIte, Nat.reduceEqDiff] | ((first | refine vm_reg (fun K hK => ?_) | refine vm_dreg (fun K hK => ?_) | refine vm_dregx (fun K hK => ?_) | refine clp_q ?_ | refine clq_mk (by assumption) ?_ | refine mcq_q ?_ | (apply mcr_mk; assumption) | (apply ocr_mk; assumption)); simp (disch := (first | omega | assumption)) only [S1, ↓reduceIte, Nat.reduceEqDiff, Nat.reduceAdd, Nat.reduceMul, Nat.reduceDiv, AOp.sb, AOp.mut, frzf, ↓Bool.false_eq_true, beq_self_eq_true, ite_self, Nat.reduceLeDiff, Int.reduceEq, Int.reduceSub, Int.reduceAdd, Int.reduceNeg, Int.reduceLT, Int.reduceLE, Nat.reduceLT, bz_L8, h1, h2, h3])
        simp (disch := (first | omega | assumption)) only [retOk, retN, ret1, retF, ret1F, V.okArg, and_true, true_and, S1, ↓reduceIte, Nat.reduceEqDiff, Nat.reduceAdd, Nat.reduceMul, Nat.reduceDiv, AOp.sb, AOp.mut, frzf, ↓Bool.false_eq_true, beq_self_eq_true, ite_self, Nat.reduceLeDiff, Int.reduceEq, Int.reduceSub, Int.reduceAdd, Int.reduceNeg, Int.reduceLT, Int.reduceLE, Nat.reduceLT, bz_L8, h1, h2, h3]
      · rw [show matchR ts k = matchG (ts.drop k) k 0 from if_pos ⟨by omega, by omega, h3⟩]
        have zc12 := is_spec (ts.getD k default) [40]
        repeat first | (refine hK _ ?_; clear hK K) | simp only [Sv, ↓reduceIte, Nat.reduceEqDiff] | ((first | refine vm_reg (fun K hK => ?_) | refine vm_dreg (fun K hK => ?_) | refine vm_dregx (fun K hK => ?_) | refine clp_q ?_ | refine clq_mk (by assumption) ?_ | refine mcq_q ?_ | (apply mcr_mk; assumption) | (apply ocr_mk; assumption)); simp (disch := (first | omega | assumption)) only [S1, ↓reduceIte, Nat.reduceEqDiff, Nat.reduceAdd, Nat.reduceMul, Nat.reduceDiv, AOp.sb, AOp.mut, frzf, ↓Bool.false_eq_true, beq_self_eq_true, ite_self, Nat.reduceLeDiff, Int.reduceEq, Int.reduceSub, Int.reduceAdd, Int.reduceNeg, Int.reduceLT, Int.reduceLE, Nat.reduceLT, bz_L8, h1, h2, h3])
        refine vm_loopA [] (Nat × Int) (fun x => ⟨[(0, .l 3 (T ts)), (6, .i .i64 x.2), (7, .i .i64 (x.1 : Int))], [], 0⟩)
          (fun x => x.1 ≤ ts.length ∧ -(x.1 : Int) ≤ x.2 ∧ x.2 ≤ x.1 ∧ matchG (ts.drop k) k 0 = matchG (ts.drop x.1) x.1 x.2) (fun x => ts.length - x.1) (k, 0) ⟨by simp only; omega, by simp only; omega, by simp only; omega, rfl⟩ (by simp (disch := (first | omega | assumption)) only [Sl, Sa, Sw, ↓reduceIte, Nat.reduceEqDiff, Nat.reduceLT, List.all_nil, List.all_cons, Nat.reduceBneDiff, Nat.reduceAdd, bne_iff_ne, ne_eq, reduceCtorEq, not_false_eq_true, not_true_eq_false, Bool.and_true, Bool.true_and, and_true, true_and, and_self]) (by
          simp (disch := (first | omega | assumption)) only [Sl, Sa, Sw, ↓reduceIte, Nat.reduceEqDiff, Nat.reduceLT, List.all_nil, List.all_cons, Nat.reduceBneDiff, Nat.reduceAdd, bne_iff_ne, ne_eq, reduceCtorEq, not_false_eq_true, not_true_eq_false, Bool.and_true, Bool.true_and, and_true, true_and, and_self, i_eq]
          repeat' first | rfl | omega | (simp only [List.length_append, List.length_cons, List.length_nil]; done) | apply And.intro) ?_
        rintro ⟨i, d⟩ ⟨hi, hd0, hd1, hn⟩ Q' hQ he hr
        simp only [] at hi hd0 hd1 hn ⊢
        by_cases hlt : (i : Int) < ts.length
        · have hlt' : i < ts.length := by omega
          have hw := way_le (ts.getD i default)
          by_cases hz : d + way (ts.getD i default) = 0
          · have e : matchG (ts.drop k) k 0 = ((i : Int), 0) := by rw [hn, tk_drop hlt', matchG, if_pos hz]
            have zc13 := step_spec (ts.getD i default)
            repeat first | (refine hK _ ?_; clear hK K) | simp only [Sv, ↓reduceIte, Nat.reduceEqDiff] | ((first | refine vm_reg (fun K hK => ?_) | refine vm_dreg (fun K hK => ?_) | refine vm_dregx (fun K hK => ?_) | refine clp_q ?_ | refine clq_mk (by assumption) ?_ | refine mcq_q ?_ | (apply mcr_mk; assumption) | (apply ocr_mk; assumption)); simp (disch := (first | omega | assumption)) only [S1, ↓reduceIte, Nat.reduceEqDiff, Nat.reduceAdd, Nat.reduceMul, Nat.reduceDiv, AOp.sb, AOp.mut, frzf, ↓Bool.false_eq_true, beq_self_eq_true, ite_self, Nat.reduceLeDiff, Int.reduceEq, Int.reduceSub, Int.reduceAdd, Int.reduceNeg, Int.reduceLT, Int.reduceLE, Nat.reduceLT, bz_L8, hlt, hz])
            refine hr _ ?_
            simp (disch := (first | omega | assumption)) only [retOk, retN, ret1, retF, ret1F, V.okArg, and_true, true_and, S1, ↓reduceIte, Nat.reduceEqDiff, Nat.reduceAdd, Nat.reduceMul, Nat.reduceDiv, AOp.sb, AOp.mut, frzf, ↓Bool.false_eq_true, beq_self_eq_true, ite_self, Nat.reduceLeDiff, Int.reduceEq, Int.reduceSub, Int.reduceAdd, Int.reduceNeg, Int.reduceLT, Int.reduceLE, Nat.reduceLT, bz_L8, e]
          · have e : matchG (ts.drop k) k 0 = matchG (ts.drop (i + 1)) (i + 1) (d + way (ts.getD i default)) := by rw [hn, tk_drop hlt', matchG, if_neg hz]
            have zc14 := step_spec (ts.getD i default)
            repeat first | (refine hK _ ?_; clear hK K) | simp only [Sv, ↓reduceIte, Nat.reduceEqDiff] | ((first | refine vm_reg (fun K hK => ?_) | refine vm_dreg (fun K hK => ?_) | refine vm_dregx (fun K hK => ?_) | refine clp_q ?_ | refine clq_mk (by assumption) ?_ | refine mcq_q ?_ | (apply mcr_mk; assumption) | (apply ocr_mk; assumption)); simp (disch := (first | omega | assumption)) only [S1, ↓reduceIte, Nat.reduceEqDiff, Nat.reduceAdd, Nat.reduceMul, Nat.reduceDiv, AOp.sb, AOp.mut, frzf, ↓Bool.false_eq_true, beq_self_eq_true, ite_self, Nat.reduceLeDiff, Int.reduceEq, Int.reduceSub, Int.reduceAdd, Int.reduceNeg, Int.reduceLT, Int.reduceLE, Nat.reduceLT, bz_L8, hlt, hz])
            refine hQ _ (i + 1, d + way (ts.getD i default)) ⟨by simp only; omega, by simp only; omega, by simp only; omega, e⟩ (by simp only; omega) ?_
            simp (disch := (first | omega | assumption)) only [Sl, Sa, Sw, ↓reduceIte, Nat.reduceEqDiff, Nat.reduceLT, List.all_nil, List.all_cons, Nat.reduceBneDiff, Nat.reduceAdd, bne_iff_ne, ne_eq, reduceCtorEq, not_false_eq_true, not_true_eq_false, Bool.and_true, Bool.true_and, and_true, true_and, and_self, i_eq]
            repeat' first | rfl | omega | (simp only [List.length_append, List.length_cons, List.length_nil]; done) | apply And.intro
        · obtain rfl : i = ts.length := by omega
          rw [List.drop_length, matchG] at hn
          repeat first
            | (refine hK _ ?_; clear hK K)
            | ((first | refine vm_reg (fun K hK => ?_) | refine vm_dreg (fun K hK => ?_) | refine vm_dregx (fun K hK => ?_)); simp (disch := (first | omega | assumption)) only [S1, ↓reduceIte, Nat.reduceEqDiff, Nat.reduceAdd, Nat.reduceMul, Nat.reduceDiv, AOp.sb, AOp.mut, frzf, ↓Bool.false_eq_true, beq_self_eq_true, ite_self, Nat.reduceLeDiff, Int.reduceEq, Int.reduceSub, Int.reduceAdd, Int.reduceNeg, Int.reduceLT, Int.reduceLE, Nat.reduceLT, bz_L8, hlt]; refine hK _ ?_; clear hK K)
            | simp only [Sv, ↓reduceIte, Nat.reduceEqDiff]
          refine he _ _ ?_
          repeat first
            | (refine hK _ ?_; clear hK K)
            | ((first | refine vm_reg (fun K hK => ?_) | refine vm_dreg (fun K hK => ?_) | refine vm_dregx (fun K hK => ?_)); simp (disch := (first | omega | assumption)) only [S1, ↓reduceIte, Nat.reduceEqDiff, Nat.reduceAdd, Nat.reduceMul, Nat.reduceDiv, AOp.sb, AOp.mut, frzf, ↓Bool.false_eq_true, beq_self_eq_true, ite_self, Nat.reduceLeDiff, Int.reduceEq, Int.reduceSub, Int.reduceAdd, Int.reduceNeg, Int.reduceLT, Int.reduceLE, Nat.reduceLT, bz_L8]; refine hK _ ?_; clear hK K)
            | simp only [Sv, ↓reduceIte, Nat.reduceEqDiff]
          simp (disch := (first | omega | assumption)) only [retOk, retN, ret1, retF, ret1F, V.okArg, and_true, true_and, S1, ↓reduceIte, Nat.reduceEqDiff, Nat.reduceAdd, Nat.reduceMul, Nat.reduceDiv, AOp.sb, AOp.mut, frzf, ↓Bool.false_eq_true, beq_self_eq_true, ite_self, Nat.reduceLeDiff, Int.reduceEq, Int.reduceSub, Int.reduceAdd, Int.reduceNeg, Int.reduceLT, Int.reduceLE, Nat.reduceLT, bz_L8, hn]
end Go.Proofs.Ytjfbkegdnljfjaa
