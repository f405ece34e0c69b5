/-
  ZzQuos: the law's walk.
-/
import Derived.Test.YtfhgnlkcecogcaaLZKn
import Derived.Test.YtfhgnlkcecogcaaZ5
namespace Go.Proofs.Ytfhgnlkcecogcaa
open Go Go.RowKit Ab
set_option linter.unusedSimpArgs false
set_option linter.unusedVariables false
set_option maxHeartbeats 10000000
theorem bz_LZQuos : type_of% (And.intro @Bool.false_and (And.intro @wi (And.intro @tn_nat (And.intro @Nat.div_one (And.intro @Nat.mul_one (And.intro @W_len (And.intro @W_nf (And.intro @W_cell (And.intro @W_nil (And.intro @W_get (@nf_g))))))))))) := And.intro @Bool.false_and (And.intro @wi (And.intro @tn_nat (And.intro @Nat.div_one (And.intro @Nat.mul_one (And.intro @W_len (And.intro @W_nf (And.intro @W_cell (And.intro @W_nil (And.intro @W_get (@nf_g))))))))))

theorem fdiv_abs (x y : Int) : (x.fdiv y).natAbs ≤ x.natAbs + 1 := by
  by_cases h : y = 0
  · subst h; rw [Int.fdiv_zero]; simp
  · rw [fdiv_eq' x y h]
    have := Int.natAbs_tdiv_le_natAbs x y
    split <;> omega
theorem zxQ_abs (x y : Int) : (zxQ x y).natAbs ≤ x.natAbs := by
  unfold zxQ; split
  · exact Int.natAbs_tdiv_le_natAbs x y
  · simp
theorem ediv_abs (x y : Int) : (x.ediv y).natAbs ≤ x.natAbs := Int.natAbs_ediv_le_natAbs x y
theorem zdR_lt {x y : Int} {m : Nat} (hy : y.natAbs < B ^ m) : zdR x y < B ^ m := by
  unfold zdR
  split
  · exact Nat.pow_pos (by decide)
  · rename_i h
    have h1 := Int.emod_nonneg x h
    have h2 := Int.emod_lt x h
    exact Nat.lt_of_le_of_lt (by show (x % y).natAbs ≤ _; omega) hy
-- surd/surdlaw07.ZzQuos
def a4 : AC := .seq (.reg [⟨some 2, none, .bx 30 (.t 0)⟩, 
      ⟨some 3, none, .bx 30 (.t 1)⟩, 
      ⟨some 4, none, .mv (.k (.b false))⟩])
  (.seq (.seq (.reg [⟨some 13, none, .call 6 []⟩, 
        ⟨some 14, none, .un .not (.t 13)⟩])
    (.cond (.t 14)
    (.seq (.reg [⟨some 4, none, .mv (.k (.b false))⟩])
      (.ret))
    (.skip)))
  (.seq (.reg [⟨some 16, none, .ld true 2 (.t 2)⟩, 
      ⟨some 17, none, .ld true 2 (.t 3)⟩, 
      ⟨some 18, none, .call 10 [(1, (.t 16)), (1, (.t 17))]⟩, 
      ⟨some 15, none, .mv (.t 18)⟩, 
      ⟨some 19, none, .ext (.t 15) 0⟩, 
      ⟨some 20, none, .ext (.t 15) 1⟩, 
      ⟨some 21, none, .ext (.t 15) 2⟩, 
      ⟨some 5, none, .al 30 [(.b false), (.l 1 [])]⟩, 
      ⟨none, none, .st 2 (.t 5) (.t 19)⟩, 
      ⟨some 6, none, .mv (.t 20)⟩, 
      ⟨some 7, none, .mv (.t 21)⟩])
  (.seq (.reg [⟨some 23, none, .ld true 2 (.t 2)⟩, 
      ⟨some 24, none, .ld true 2 (.t 3)⟩, 
      ⟨some 25, none, .call 11 [(1, (.t 23)), (1, (.t 24))]⟩, 
      ⟨some 22, none, .mv (.t 25)⟩, 
      ⟨some 26, none, .ext (.t 22) 0⟩, 
      ⟨some 27, none, .ext (.t 22) 1⟩, 
      ⟨some 28, none, .ext (.t 22) 2⟩, 
      ⟨some 8, none, .al 30 [(.b false), (.l 1 [])]⟩, 
      ⟨none, none, .st 2 (.t 8) (.t 26)⟩, 
      ⟨some 9, none, .mv (.t 27)⟩, 
      ⟨some 10, none, .mv (.t 28)⟩])
  (.seq (.seq (.reg [⟨some 29, none, .ld true 2 (.t 5)⟩, 
        ⟨some 30, none, .ld true 2 (.t 8)⟩, 
        ⟨some 31, none, .call 12 [(1, (.t 29)), (1, (.t 30))]⟩, 
        ⟨some 32, none, .un .not (.t 31)⟩, 
        ⟨some 33, none, .mv (.t 32)⟩, 
        ⟨some 34, some (33, false), .mv (.t 6)⟩, 
        ⟨some 35, some (33, false), .mv (.t 9)⟩, 
        ⟨some 36, some (33, false), .call 7 [(1, (.t 34)), (1, (.t 35))]⟩, 
        ⟨some 37, some (33, false), .un .not (.t 36)⟩, 
        ⟨some 38, none, .pick (.t 33) (.k (.b true)) (.t 37)⟩, 
        ⟨some 39, none, .mv (.t 38)⟩, 
        ⟨some 40, some (39, false), .mv (.t 7)⟩, 
        ⟨some 41, some (39, false), .mv (.t 10)⟩, 
        ⟨some 42, some (39, false), .bin .neq (.t 40) (.t 41)⟩, 
        ⟨some 43, none, .pick (.t 39) (.k (.b true)) (.t 42)⟩])
    (.cond (.t 43)
    (.seq (.reg [⟨some 4, none, .mv (.k (.b false))⟩])
      (.ret))
    (.skip)))
  (.seq (.reg [⟨some 45, none, .ld true 2 (.t 2)⟩, 
      ⟨some 46, none, .ld true 2 (.t 3)⟩, 
      ⟨some 47, none, .call 13 [(1, (.t 45)), (1, (.t 46))]⟩, 
      ⟨some 44, none, .mv (.t 47)⟩, 
      ⟨some 48, none, .ext (.t 44) 0⟩, 
      ⟨some 49, none, .ext (.t 44) 1⟩, 
      ⟨some 50, none, .ext (.t 44) 2⟩, 
      ⟨some 11, none, .al 30 [(.b false), (.l 1 [])]⟩, 
      ⟨none, none, .st 2 (.t 5) (.t 48)⟩, 
      ⟨none, none, .st 2 (.t 11) (.t 49)⟩, 
      ⟨some 7, none, .mv (.t 50)⟩])
  (.seq (.reg [⟨some 52, none, .ld true 2 (.t 2)⟩, 
      ⟨some 53, none, .ld true 2 (.t 3)⟩, 
      ⟨some 54, none, .call 14 [(1, (.t 52)), (1, (.t 53))]⟩, 
      ⟨some 51, none, .mv (.t 54)⟩, 
      ⟨some 55, none, .ext (.t 51) 0⟩, 
      ⟨some 56, none, .ext (.t 51) 1⟩, 
      ⟨some 57, none, .ext (.t 51) 2⟩, 
      ⟨some 12, none, .al 30 [(.b false), (.l 1 [])]⟩, 
      ⟨none, none, .st 2 (.t 8) (.t 55)⟩, 
      ⟨none, none, .st 2 (.t 12) (.t 56)⟩, 
      ⟨some 10, none, .mv (.t 57)⟩])
  (.seq (.seq (.reg [⟨some 58, none, .ld true 2 (.t 5)⟩, 
        ⟨some 59, none, .ld true 2 (.t 8)⟩, 
        ⟨some 60, none, .call 12 [(1, (.t 58)), (1, (.t 59))]⟩, 
        ⟨some 61, none, .un .not (.t 60)⟩, 
        ⟨some 62, none, .mv (.t 61)⟩, 
        ⟨some 63, some (62, false), .ld true 2 (.t 11)⟩, 
        ⟨some 64, some (62, false), .ld true 2 (.t 12)⟩, 
        ⟨some 65, some (62, false), .call 12 [(1, (.t 63)), (1, (.t 64))]⟩, 
        ⟨some 66, some (62, false), .un .not (.t 65)⟩, 
        ⟨some 67, none, .pick (.t 62) (.k (.b true)) (.t 66)⟩, 
        ⟨some 68, none, .mv (.t 67)⟩, 
        ⟨some 69, some (68, false), .mv (.t 7)⟩, 
        ⟨some 70, some (68, false), .mv (.t 10)⟩, 
        ⟨some 71, some (68, false), .bin .neq (.t 69) (.t 70)⟩, 
        ⟨some 72, none, .pick (.t 68) (.k (.b true)) (.t 71)⟩])
    (.cond (.t 72)
    (.seq (.reg [⟨some 4, none, .mv (.k (.b false))⟩])
      (.ret))
    (.skip)))
  (.seq (.reg [⟨some 74, none, .ld true 2 (.t 2)⟩, 
      ⟨some 75, none, .ld true 2 (.t 3)⟩, 
      ⟨some 76, none, .call 15 [(1, (.t 74)), (1, (.t 75))]⟩, 
      ⟨some 73, none, .mv (.t 76)⟩, 
      ⟨some 77, none, .ext (.t 73) 0⟩, 
      ⟨some 78, none, .ext (.t 73) 1⟩, 
      ⟨none, none, .st 2 (.t 5) (.t 77)⟩, 
      ⟨some 7, none, .mv (.t 78)⟩])
  (.seq (.reg [⟨some 80, none, .ld true 2 (.t 2)⟩, 
      ⟨some 81, none, .ld true 2 (.t 3)⟩, 
      ⟨some 82, none, .call 16 [(1, (.t 80)), (1, (.t 81))]⟩, 
      ⟨some 79, none, .mv (.t 82)⟩, 
      ⟨some 83, none, .ext (.t 79) 0⟩, 
      ⟨some 84, none, .ext (.t 79) 1⟩, 
      ⟨none, none, .st 2 (.t 8) (.t 83)⟩, 
      ⟨some 10, none, .mv (.t 84)⟩])
  (.seq (.seq (.reg [⟨some 85, none, .ld true 2 (.t 5)⟩, 
        ⟨some 86, none, .ld true 2 (.t 8)⟩, 
        ⟨some 87, none, .call 12 [(1, (.t 85)), (1, (.t 86))]⟩, 
        ⟨some 88, none, .un .not (.t 87)⟩, 
        ⟨some 89, none, .mv (.t 88)⟩, 
        ⟨some 90, some (89, false), .mv (.t 7)⟩, 
        ⟨some 91, some (89, false), .mv (.t 10)⟩, 
        ⟨some 92, some (89, false), .bin .neq (.t 90) (.t 91)⟩, 
        ⟨some 93, none, .pick (.t 89) (.k (.b true)) (.t 92)⟩])
    (.cond (.t 93)
    (.seq (.reg [⟨some 4, none, .mv (.k (.b false))⟩])
      (.ret))
    (.skip)))
  (.seq (.reg [⟨some 95, none, .ld true 2 (.t 2)⟩, 
      ⟨some 96, none, .ld true 2 (.t 3)⟩, 
      ⟨some 97, none, .call 17 [(1, (.t 95)), (1, (.t 96))]⟩, 
      ⟨some 94, none, .mv (.t 97)⟩, 
      ⟨some 98, none, .ext (.t 94) 0⟩, 
      ⟨some 99, none, .ext (.t 94) 1⟩, 
      ⟨none, none, .st 2 (.t 5) (.t 98)⟩, 
      ⟨some 7, none, .mv (.t 99)⟩])
  (.seq (.reg [⟨some 101, none, .ld true 2 (.t 2)⟩, 
      ⟨some 102, none, .ld true 2 (.t 3)⟩, 
      ⟨some 103, none, .call 18 [(1, (.t 101)), (1, (.t 102))]⟩, 
      ⟨some 100, none, .mv (.t 103)⟩, 
      ⟨some 104, none, .ext (.t 100) 0⟩, 
      ⟨some 105, none, .ext (.t 100) 1⟩, 
      ⟨none, none, .st 2 (.t 8) (.t 104)⟩, 
      ⟨some 10, none, .mv (.t 105)⟩])
  (.seq (.reg [⟨some 106, none, .ld true 2 (.t 5)⟩, 
      ⟨some 107, none, .ld true 2 (.t 8)⟩, 
      ⟨some 108, none, .call 12 [(1, (.t 106)), (1, (.t 107))]⟩, 
      ⟨some 109, none, .mv (.t 108)⟩, 
      ⟨some 110, some (109, true), .mv (.t 7)⟩, 
      ⟨some 111, some (109, true), .mv (.t 10)⟩, 
      ⟨some 112, some (109, true), .bin .eql (.t 110) (.t 111)⟩, 
      ⟨some 113, none, .pick (.t 109) (.t 112) (.k (.b false))⟩, 
      ⟨some 4, none, .mv (.t 113)⟩])
  (.ret))))))))))))))
theorem zzQuos_spec (s t : Bool) (a b : List Nat) (m : Nat) (hm : m ≤ 2000000) (ha : Wd a) (hb : Wd b) (la : a.length ≤ m) (lb : b.length ≤ m) : AFun Try.prog J0 4 [zL s a, zL t b] (.b true) := by
  have l1 := zv_lt (s := s) ha la
  have l2 := zv_lt (s := t) hb lb
  have p1 := rzdiv_spec s t a b m (by omega) ha hb la lb
  have p2 := zdiv_spec s t a b m (by omega) ha hb la lb
  have p3 := rzquo_spec s t a b ha hb (by omega) (by omega)
  have p4 := zquo_spec s t a b ha hb (by omega) (by omega)
  have p5 := rzfloor_spec s t a b m (by omega) ha hb la lb
  have p6 := zfloor_spec s t a b ha hb (by omega) (by omega)
  have p7 := rzexact_spec s t a b m (by omega) ha hb la lb
  have p8 := zexact_spec s t a b ha hb (by omega) (by omega)
  have q1 := zsame_true (rfl : (zv s a).ediv (zv t b) = (zv s a).ediv (zv t b)) (Nat.lt_of_le_of_lt (ediv_abs _ _) l1) (by omega)
  have n1 := same_true (rfl : dg B (zdR (zv s a) (zv t b)) = dg B (zdR (zv s a) (zv t b))) (by have := dlen (zdR_lt (x := zv s a) l2); omega)
  have q2 := zsame_true (rfl : zq (zv s a) (zv t b) = zq (zv s a) (zv t b)) (Nat.lt_of_le_of_lt (zq_abs _ _) l1) (by omega)
  have q3 := zsame_true (rfl : zr (zv s a) (zv t b) = zr (zv s a) (zv t b)) (Nat.lt_of_le_of_lt (zr_abs _ _) l1) (by omega)
  have q4 := zsame_true (m := m + 1) (rfl : (zv s a).fdiv (zv t b) = (zv s a).fdiv (zv t b)) (by
    have := fdiv_abs (zv s a) (zv t b)
    have h2 : B ^ m * 2 ≤ B ^ (m + 1) := Nat.mul_le_mul_left _ (by decide)
    omega) (by omega)
  have q5 := zsame_true (rfl : zxQ (zv s a) (zv t b) = zxQ (zv s a) (zv t b)) (Nat.lt_of_le_of_lt (zxQ_abs _ _) l1) (by omega)
  generalize (zv s a).ediv (zv t b) = x1 at *
  generalize zdR (zv s a) (zv t b) = x2 at *
  generalize zq (zv s a) (zv t b) = x3 at *
  generalize zr (zv s a) (zv t b) = x4 at *
  generalize (zv s a).fdiv (zv t b) = x5 at *
  generalize zxQ (zv s a) (zv t b) = x6 at *
  generalize zxE (zv s a) (zv t b) = x7 at *
  generalize ze (zv t b) = x8 at *
  refine AFun.mk fol J0s Try.func4 rfl (ac := a4) (by kernel_rfl) rfl rfl ?_
  apply vm_start
  unfold a4
  simp only [init_eq, initE]
  have zc1 := zknown_spec
  have zc2 := p1
  have zc3 := p2
  have zc4 := q1
  have zc5 := n1
  have zc6 := p3
  have zc7 := p4
  have zc8 := q2
  have zc9 := q3
  have zc10 := p5
  have zc11 := p6
  have zc12 := q4
  have zc13 := p7
  have zc14 := p8
  have zc15 := q5
  repeat first | (refine hK _ ?_; clear hK K) | simp only [Sv, ↓reduceIte, Nat.reduceEqDiff] | ((first | refine vm_reg (fun K hK => ?_) | refine vm_dreg (fun K hK => ?_) | refine vm_dregx (fun K hK => ?_) | refine clp_q ?_ | refine clq_mk (by assumption) ?_); simp (disch := (first | omega | assumption)) only [S1, ↓reduceIte, Nat.reduceEqDiff, Nat.reduceAdd, Nat.reduceMul, Nat.reduceDiv, AOp.sb, AOp.mut, ↓Bool.false_eq_true, beq_self_eq_true, ite_self, Nat.reduceLeDiff, Int.reduceEq, Int.reduceSub, Int.reduceAdd, Int.reduceNeg, Int.reduceLT, Int.reduceLE, Nat.reduceLT, bz_LZQuos, List.length_nil])
  simp (disch := (first | omega | assumption)) only [retOk, retN, ret1, retF, ret1F, V.okArg, and_true, true_and, S1, ↓reduceIte, Nat.reduceEqDiff, Nat.reduceAdd, Nat.reduceMul, Nat.reduceDiv, AOp.sb, AOp.mut, ↓Bool.false_eq_true, beq_self_eq_true, ite_self, Nat.reduceLeDiff, Int.reduceEq, Int.reduceSub, Int.reduceAdd, Int.reduceNeg, Int.reduceLT, Int.reduceLE, Nat.reduceLT, bz_LZQuos, List.length_nil]
end Go.Proofs.Ytfhgnlkcecogcaa
