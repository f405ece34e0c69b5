/-
  ZzSums: the law's walk.
-/
import Derived.Test.YtfehegnkbnojaaaLZKn
namespace Go.Proofs.Ytfehegnkbnojaaa
open Go Go.RowKit Ab
set_option linter.unusedSimpArgs false
set_option linter.unusedVariables false
set_option maxHeartbeats 10000000

-- surd/surdlaw07.ZzSums
def a6 : AC := .seq (.reg [⟨some 2, none, .bx 30 (.t 0)⟩, 
      ⟨some 3, none, .bx 30 (.t 1)⟩, 
      ⟨some 4, none, .mv (.k (.b false))⟩])
  (.seq (.seq (.reg [⟨some 5, none, .call 8 []⟩, 
        ⟨some 6, none, .un .not (.t 5)⟩])
    (.cond (.t 6)
    (.seq (.reg [⟨some 4, none, .mv (.k (.b false))⟩])
      (.ret))
    (.skip)))
  (.seq (.dreg [⟨some 7, none, .ld true 2 (.t 2)⟩, 
      ⟨some 8, none, .ld true 2 (.t 3)⟩, 
      ⟨some 9, none, .call 38 [(1, (.t 7)), (1, (.t 8))]⟩, 
      ⟨some 10, none, .ld true 2 (.t 2)⟩, 
      ⟨some 11, none, .ld true 2 (.t 3)⟩, 
      ⟨some 12, none, .call 39 [(1, (.t 10)), (1, (.t 11))]⟩, 
      ⟨some 13, none, .call 14 [(1, (.t 9)), (1, (.t 12))]⟩, 
      ⟨some 14, none, .mv (.t 13)⟩, 
      ⟨some 15, some (14, true), .ld true 2 (.t 2)⟩, 
      ⟨some 16, some (14, true), .ld true 2 (.t 3)⟩, 
      ⟨some 17, some (14, true), .call 40 [(1, (.t 15)), (1, (.t 16))]⟩, 
      ⟨some 18, some (14, true), .ld true 2 (.t 2)⟩, 
      ⟨some 19, some (14, true), .ld true 2 (.t 3)⟩, 
      ⟨some 20, some (14, true), .call 41 [(1, (.t 18)), (1, (.t 19))]⟩, 
      ⟨some 21, some (14, true), .call 14 [(1, (.t 17)), (1, (.t 20))]⟩, 
      ⟨some 22, none, .pick (.t 14) (.t 21) (.k (.b false))⟩, 
      ⟨some 23, none, .mv (.t 22)⟩, 
      ⟨some 24, some (23, true), .ld true 2 (.t 2)⟩, 
      ⟨some 25, some (23, true), .ld true 2 (.t 3)⟩, 
      ⟨some 26, some (23, true), .call 42 [(1, (.t 24)), (1, (.t 25))]⟩, 
      ⟨some 27, some (23, true), .ld true 2 (.t 2)⟩, 
      ⟨some 28, some (23, true), .ld true 2 (.t 3)⟩, 
      ⟨some 29, some (23, true), .call 43 [(1, (.t 27)), (1, (.t 28))]⟩, 
      ⟨some 30, some (23, true), .call 14 [(1, (.t 26)), (1, (.t 29))]⟩, 
      ⟨some 31, none, .pick (.t 23) (.t 30) (.k (.b false))⟩, 
      ⟨some 32, none, .mv (.t 31)⟩, 
      ⟨some 33, some (32, true), .ld true 2 (.t 2)⟩, 
      ⟨some 34, some (32, true), .ld true 2 (.t 3)⟩, 
      ⟨some 35, some (32, true), .call 44 [(1, (.t 33)), (1, (.t 34))]⟩, 
      ⟨some 36, some (32, true), .ld true 2 (.t 2)⟩, 
      ⟨some 37, some (32, true), .ld true 2 (.t 3)⟩, 
      ⟨some 38, some (32, true), .call 45 [(1, (.t 36)), (1, (.t 37))]⟩, 
      ⟨some 39, some (32, true), .bin .eql (.t 35) (.t 38)⟩, 
      ⟨some 40, none, .pick (.t 32) (.t 39) (.k (.b false))⟩, 
      ⟨some 4, none, .mv (.t 40)⟩])
  (.ret)))
theorem zzSums_spec (s t : Bool) (a b : List Nat) (m : Nat) (hm : m ≤ 2000000) (ha : Wd a) (hb : Wd b) (la : a.length ≤ m) (lb : b.length ≤ m) : AFun Try.prog J0 6 [zL s a, zL t b] (.b true) := by
  have l1 := zv_lt (s := s) ha la
  have l2 := zv_lt (s := t) hb lb
  have p1 := zadd_spec s t a b ha hb (by omega) (by omega)
  have p2 := rzadd_spec s t a b ha hb (by omega) (by omega)
  have p3 := zsub_spec s t a b ha hb (by omega) (by omega)
  have p4 := rzsub_spec s t a b ha hb (by omega) (by omega)
  have p5 := zmul_spec s t a b ha hb (by omega) (by omega)
  have p6 := rzmul_spec s t a b ha hb (by omega) (by omega)
  have p7 := zcmp_spec s t a b ha hb (by omega) (by omega)
  have p8 := rzcmp_spec s t a b ha hb (by omega) (by omega)
  have q1 := zsame_true (rfl : zv s a + zv t b = zv s a + zv t b) (Nat.lt_of_le_of_lt (by omega) (padd l1 l2)) (by omega)
  have q2 := zsame_true (rfl : zv s a - zv t b = zv s a - zv t b) (Nat.lt_of_le_of_lt (by omega) (padd l1 l2)) (by omega)
  have q3 := zsame_true (rfl : zv s a * zv t b = zv s a * zv t b) (m := m + m) (by rw [Int.natAbs_mul, Nat.pow_add]; exact Nat.mul_lt_mul_of_lt_of_lt l1 l2) (by omega)
  generalize zv s a + zv t b = x1 at *
  generalize zv s a - zv t b = x2 at *
  generalize zv s a * zv t b = x3 at *
  generalize cz (zv s a) (zv t b) = x4 at *
  refine AFun.mk fol J0s Try.func6 rfl (ac := a6) (by kernel_rfl) rfl rfl ?_
  apply vm_start
  unfold a6
  simp only [init_eq, initE]
  have zc1 := zknown_spec
  have zc2 := p1
  have zc3 := p2
  have zc4 := q1
  have zc5 := p3
  have zc6 := p4
  have zc7 := q2
  have zc8 := p5
  have zc9 := p6
  have zc10 := q3
  have zc11 := p7
  have zc12 := p8
  repeat first | (refine hK _ ?_; clear hK K) | simp only [Sv, ↓reduceIte, Nat.reduceEqDiff] | ((first | refine vm_reg (fun K hK => ?_) | refine vm_dreg (fun K hK => ?_) | refine clp_q ?_ | refine clq_mk (by assumption) ?_); simp (disch := (first | omega | assumption)) only [S1, ↓reduceIte, Nat.reduceEqDiff, Nat.reduceAdd, Nat.reduceMul, Nat.reduceDiv, AOp.sb, AOp.mut, ↓Bool.false_eq_true, beq_self_eq_true, ite_self, Nat.reduceLeDiff, Int.reduceEq, Int.reduceSub, Int.reduceAdd, Int.reduceNeg, Int.reduceLT, Int.reduceLE, Nat.reduceLT, Bool.false_and, wi, tn_nat, Nat.div_one, Nat.mul_one, W_len, W_nf, W_cell, W_nil, W_get, List.length_nil, nf_g])
  simp (disch := (first | omega | assumption)) only [retOk, retN, ret1, retF, ret1F, V.okArg, and_true, true_and, S1, ↓reduceIte, Nat.reduceEqDiff, Nat.reduceAdd, Nat.reduceMul, Nat.reduceDiv, AOp.sb, AOp.mut, ↓Bool.false_eq_true, beq_self_eq_true, ite_self, Nat.reduceLeDiff, Int.reduceEq, Int.reduceSub, Int.reduceAdd, Int.reduceNeg, Int.reduceLT, Int.reduceLE, Nat.reduceLT, Bool.false_and, wi, tn_nat, Nat.div_one, Nat.mul_one, W_len, W_nf, W_cell, W_nil, W_get, List.length_nil, nf_g]
end Go.Proofs.Ytfehegnkbnojaaa
